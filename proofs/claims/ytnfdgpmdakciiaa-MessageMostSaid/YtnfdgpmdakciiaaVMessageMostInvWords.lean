-- Words for this claim.
import Derived.Test.YtnfdgpmdakciiaaVMessageMostInv
import Derived.Test.YtnfdgpmdakciiaaVMessageMostFootNe
namespace Go.Proofs.YtnfdgpmdakciiaaW.PrintWords
open Go.RowKit
end Go.Proofs.YtnfdgpmdakciiaaW.PrintWords
namespace Go.Proofs.YtnfdgpmdakciiaaW.PrintLast
end Go.Proofs.YtnfdgpmdakciiaaW.PrintLast
