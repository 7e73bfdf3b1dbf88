-- Words for this claim.
import Derived.Test.YtnfdgpmdakciiaaVMessageBytesTab
namespace Go.Proofs.YtnfdgpmdakciiaaW.PrintLast
end Go.Proofs.YtnfdgpmdakciiaaW.PrintLast
