-- Words for this claim.
import Derived.SizedLaws
import Derived.ChangeSlices
namespace Go.Proofs.YtkngncckidlniaaW.PrintWords
open Go.ChangeShapes Go.WideShapes
end Go.Proofs.YtkngncckidlniaaW.PrintWords
