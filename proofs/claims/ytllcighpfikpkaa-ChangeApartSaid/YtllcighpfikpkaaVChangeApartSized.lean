-- Words for this claim.
import Derived.SizedLaws
import Derived.ChangeSlices
namespace Go.Proofs.YtllcighpfikpkaaW.PrintWords
open Go.ChangeShapes Go.WideShapes
end Go.Proofs.YtllcighpfikpkaaW.PrintWords
