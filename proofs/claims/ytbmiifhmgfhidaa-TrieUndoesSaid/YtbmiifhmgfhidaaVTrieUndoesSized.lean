-- Words for this claim.
import Derived.SizedLaws
import Derived.ChangeSlices
namespace Go.Proofs.YtbmiifhmgfhidaaW.PrintWords
open Go.ChangeShapes Go.WideShapes
end Go.Proofs.YtbmiifhmgfhidaaW.PrintWords
