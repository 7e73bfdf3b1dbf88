-- Words for this claim.
import Derived.Test.YtbmiifhmgfhidaaVTrieNestsWords
import Derived.Laws.StructEq
namespace Go.Proofs.YtbmiifhmgfhidaaW.PrintWords
open Go.RowKit
end Go.Proofs.YtbmiifhmgfhidaaW.PrintWords
