-- Words for this claim.
import Derived.Test.YtnfdgpmdakciiaaVMessageReadsApart
import Derived.Test.YtnfdgpmdakciiaaVMessageReadsArr
namespace Go.Proofs.YtnfdgpmdakciiaaW.PrintWords
open Go.RowKit
namespace Kd
end Kd
end Go.Proofs.YtnfdgpmdakciiaaW.PrintWords
