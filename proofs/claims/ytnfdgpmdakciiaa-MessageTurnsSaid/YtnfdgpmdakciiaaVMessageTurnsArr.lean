-- Words for this claim.
import Derived.Test.YtnfdgpmdakciiaaVMessageTurnsWords
namespace Go.Proofs.YtnfdgpmdakciiaaW.PrintWords
open Go.RowKit
namespace Kd
end Kd
end Go.Proofs.YtnfdgpmdakciiaaW.PrintWords
