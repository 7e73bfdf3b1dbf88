-- Words for this claim.
import Derived.Test.YtnfdgpmdakciiaaVMessageRightsTab
namespace Go.Proofs.YtnfdgpmdakciiaaW.PrintLast
end Go.Proofs.YtnfdgpmdakciiaaW.PrintLast
