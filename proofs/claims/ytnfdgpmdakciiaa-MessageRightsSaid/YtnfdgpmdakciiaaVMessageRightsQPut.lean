-- Words for this claim.
import Derived.Test.YtnfdgpmdakciiaaVMessageRightsWords
import Derived.Test.YtnfdgpmdakciiaaVMessageRightsLast
namespace Go.Proofs.YtnfdgpmdakciiaaW.PrintWords
open Go.RowKit
namespace Kd
end Kd
end Go.Proofs.YtnfdgpmdakciiaaW.PrintWords
