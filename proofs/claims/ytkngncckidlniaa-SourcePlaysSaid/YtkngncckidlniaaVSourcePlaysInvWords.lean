-- Words for this claim.
import Derived.Test.YtkngncckidlniaaVSourcePlaysInv
import Derived.Test.YtkngncckidlniaaVSourcePlaysFootNe
namespace Go.Proofs.YtkngncckidlniaaW.PrintWords
open Go.RowKit
end Go.Proofs.YtkngncckidlniaaW.PrintWords
namespace Go.Proofs.YtkngncckidlniaaW.PrintLast
end Go.Proofs.YtkngncckidlniaaW.PrintLast
