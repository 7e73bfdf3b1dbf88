-- Words for this claim.
import Derived.Test.YtllcighpfikpkaaVChangeChainsApart
import Derived.Test.YtllcighpfikpkaaVChangeChainsArr
namespace Go.Proofs.YtllcighpfikpkaaW.PrintWords
open Go.RowKit
namespace Kd
end Kd
end Go.Proofs.YtllcighpfikpkaaW.PrintWords
