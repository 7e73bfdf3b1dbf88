-- Words for this claim.
import Derived.SizedLaws
import Derived.ChangeSlices
namespace Go.Proofs.YtnfdgpmdakciiaaW.PrintWords
open Go.ChangeShapes Go.WideShapes
end Go.Proofs.YtnfdgpmdakciiaaW.PrintWords
