-- Words for this claim.
import Derived.Test.YtkngncckidlniaaVSourceOfTab
namespace Go.Proofs.YtkngncckidlniaaW.PrintLast
end Go.Proofs.YtkngncckidlniaaW.PrintLast
