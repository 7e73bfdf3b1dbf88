-- Words for this claim.
import Derived.Test.YtnfdgpmdakciiaaVMessageTurnsTab
namespace Go.Proofs.YtnfdgpmdakciiaaW.PrintLast
end Go.Proofs.YtnfdgpmdakciiaaW.PrintLast
