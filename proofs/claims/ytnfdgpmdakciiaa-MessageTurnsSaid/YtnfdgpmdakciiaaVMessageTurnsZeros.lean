-- Words for this claim.
import Derived.Test.YtnfdgpmdakciiaaVMessageTurnsApart
import Derived.Test.YtnfdgpmdakciiaaVMessageTurnsArr
namespace Go.Proofs.YtnfdgpmdakciiaaW.PrintWords
open Go.RowKit
namespace Kd
end Kd
end Go.Proofs.YtnfdgpmdakciiaaW.PrintWords
