-- Words for this claim.
import Derived.Test.YtbmiifhmgfhidaaVTrieNestsTab
namespace Go.Proofs.YtbmiifhmgfhidaaW.PrintLast
end Go.Proofs.YtbmiifhmgfhidaaW.PrintLast
