-- Words for this claim.
import Derived.Test.YtnfdgpmdakciiaaVMessageReadsFootNe
namespace Go.Proofs.YtnfdgpmdakciiaaW.PrintWords
open Go.RowKit
namespace Kd
end Kd
end Go.Proofs.YtnfdgpmdakciiaaW.PrintWords
