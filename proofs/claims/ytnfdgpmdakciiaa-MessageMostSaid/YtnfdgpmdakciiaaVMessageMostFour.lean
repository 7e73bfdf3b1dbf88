-- Words for this claim.
import Derived.Test.YtnfdgpmdakciiaaVMessageMostTab
namespace Go.Proofs.YtnfdgpmdakciiaaW.PrintLast
end Go.Proofs.YtnfdgpmdakciiaaW.PrintLast
