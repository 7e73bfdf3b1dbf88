-- Words for this claim.
import Derived.Test.YtllcighpfikpkaaVChangeApartApart
import Derived.Test.YtllcighpfikpkaaVChangeApartArr
namespace Go.Proofs.YtllcighpfikpkaaW.PrintWords
open Go.RowKit
namespace Kd
end Kd
end Go.Proofs.YtllcighpfikpkaaW.PrintWords
