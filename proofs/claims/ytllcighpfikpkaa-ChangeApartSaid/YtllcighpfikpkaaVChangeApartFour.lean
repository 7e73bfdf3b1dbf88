-- Words for this claim.
import Derived.Test.YtllcighpfikpkaaVChangeApartTab
namespace Go.Proofs.YtllcighpfikpkaaW.PrintLast
end Go.Proofs.YtllcighpfikpkaaW.PrintLast
