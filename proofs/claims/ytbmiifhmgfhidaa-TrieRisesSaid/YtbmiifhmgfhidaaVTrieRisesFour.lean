-- Words for this claim.
import Derived.Test.YtbmiifhmgfhidaaVTrieRisesTab
namespace Go.Proofs.YtbmiifhmgfhidaaW.PrintLast
end Go.Proofs.YtbmiifhmgfhidaaW.PrintLast
