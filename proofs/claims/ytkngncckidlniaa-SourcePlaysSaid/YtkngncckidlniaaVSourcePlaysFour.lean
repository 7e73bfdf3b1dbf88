-- Words for this claim.
import Derived.Test.YtkngncckidlniaaVSourcePlaysTab
namespace Go.Proofs.YtkngncckidlniaaW.PrintLast
end Go.Proofs.YtkngncckidlniaaW.PrintLast
