-- Words for this claim.
import Derived.Test.YtbmiifhmgfhidaaVTrieUndoesInv
import Derived.Test.YtbmiifhmgfhidaaVTrieUndoesFootNe
namespace Go.Proofs.YtbmiifhmgfhidaaW.PrintWords
open Go.RowKit
end Go.Proofs.YtbmiifhmgfhidaaW.PrintWords
namespace Go.Proofs.YtbmiifhmgfhidaaW.PrintLast
end Go.Proofs.YtbmiifhmgfhidaaW.PrintLast
