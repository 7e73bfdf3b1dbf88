-- Words for this claim.
import Derived.Test.YtkngncckidlniaaVSourcePlaysApart
import Derived.Test.YtkngncckidlniaaVSourcePlaysArr
namespace Go.Proofs.YtkngncckidlniaaW.PrintWords
open Go.RowKit
namespace Kd
end Kd
end Go.Proofs.YtkngncckidlniaaW.PrintWords
