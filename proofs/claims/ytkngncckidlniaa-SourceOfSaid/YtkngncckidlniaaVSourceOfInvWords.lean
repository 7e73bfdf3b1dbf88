-- Words for this claim.
import Derived.Test.YtkngncckidlniaaVSourceOfInv
import Derived.Test.YtkngncckidlniaaVSourceOfFootNe
namespace Go.Proofs.YtkngncckidlniaaW.PrintWords
open Go.RowKit
end Go.Proofs.YtkngncckidlniaaW.PrintWords
namespace Go.Proofs.YtkngncckidlniaaW.PrintLast
end Go.Proofs.YtkngncckidlniaaW.PrintLast
