-- Words for this claim.
import Derived.Test.YtnfdgpmdakciiaaVMessageReadsTab
namespace Go.Proofs.YtnfdgpmdakciiaaW.PrintLast
end Go.Proofs.YtnfdgpmdakciiaaW.PrintLast
