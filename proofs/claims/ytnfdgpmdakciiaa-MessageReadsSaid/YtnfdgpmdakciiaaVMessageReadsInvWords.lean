-- Words for this claim.
import Derived.Test.YtnfdgpmdakciiaaVMessageReadsInv
import Derived.Test.YtnfdgpmdakciiaaVMessageReadsFootNe
namespace Go.Proofs.YtnfdgpmdakciiaaW.PrintWords
open Go.RowKit
end Go.Proofs.YtnfdgpmdakciiaaW.PrintWords
namespace Go.Proofs.YtnfdgpmdakciiaaW.PrintLast
end Go.Proofs.YtnfdgpmdakciiaaW.PrintLast
