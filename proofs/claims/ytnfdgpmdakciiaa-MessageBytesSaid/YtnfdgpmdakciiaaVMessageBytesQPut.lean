-- Words for this claim.
import Derived.Test.YtnfdgpmdakciiaaVMessageBytesWords
import Derived.Test.YtnfdgpmdakciiaaVMessageBytesLast
namespace Go.Proofs.YtnfdgpmdakciiaaW.PrintWords
open Go.RowKit
namespace Kd
end Kd
end Go.Proofs.YtnfdgpmdakciiaaW.PrintWords
