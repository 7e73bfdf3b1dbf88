-- Words for this claim.
import Derived.Test.YtllcighpfikpkaaVChangeApartInv
import Derived.Test.YtllcighpfikpkaaVChangeApartFootNe
namespace Go.Proofs.YtllcighpfikpkaaW.PrintWords
open Go.RowKit
end Go.Proofs.YtllcighpfikpkaaW.PrintWords
namespace Go.Proofs.YtllcighpfikpkaaW.PrintLast
end Go.Proofs.YtllcighpfikpkaaW.PrintLast
