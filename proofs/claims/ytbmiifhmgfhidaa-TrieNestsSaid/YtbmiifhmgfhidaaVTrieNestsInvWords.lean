-- Words for this claim.
import Derived.Test.YtbmiifhmgfhidaaVTrieNestsInv
import Derived.Test.YtbmiifhmgfhidaaVTrieNestsFootNe
namespace Go.Proofs.YtbmiifhmgfhidaaW.PrintWords
open Go.RowKit
end Go.Proofs.YtbmiifhmgfhidaaW.PrintWords
namespace Go.Proofs.YtbmiifhmgfhidaaW.PrintLast
end Go.Proofs.YtbmiifhmgfhidaaW.PrintLast
