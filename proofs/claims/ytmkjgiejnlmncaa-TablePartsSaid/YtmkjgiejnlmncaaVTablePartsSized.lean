-- Words for this claim.
import Derived.SizedLaws
import Derived.ChangeSlices
namespace Go.Proofs.YtmkjgiejnlmncaaW.PrintWords
open Go.ChangeShapes Go.WideShapes
end Go.Proofs.YtmkjgiejnlmncaaW.PrintWords
