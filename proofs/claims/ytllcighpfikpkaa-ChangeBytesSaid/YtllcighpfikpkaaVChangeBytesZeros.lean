-- Words for this claim.
import Derived.Test.YtllcighpfikpkaaVChangeBytesApart
import Derived.Test.YtllcighpfikpkaaVChangeBytesArr
namespace Go.Proofs.YtllcighpfikpkaaW.PrintWords
open Go.RowKit
namespace Kd
end Kd
end Go.Proofs.YtllcighpfikpkaaW.PrintWords
