-- Words for this claim.
import Derived.Test.YtkngncckidlniaaVSourceSinksApart
import Derived.Test.YtkngncckidlniaaVSourceSinksArr
namespace Go.Proofs.YtkngncckidlniaaW.PrintWords
open Go.RowKit
namespace Kd
end Kd
end Go.Proofs.YtkngncckidlniaaW.PrintWords
