-- Words for this claim.
import Derived.Test.YtbmiifhmgfhidaaVTrieUndoesWords
import Derived.Test.YtbmiifhmgfhidaaVTrieUndoesLast
namespace Go.Proofs.YtbmiifhmgfhidaaW.PrintWords
open Go.RowKit
namespace Kd
end Kd
end Go.Proofs.YtbmiifhmgfhidaaW.PrintWords
