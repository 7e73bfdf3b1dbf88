-- Words for this claim.
import Derived.Test.YtkngncckidlniaaVSourceSinksTab
namespace Go.Proofs.YtkngncckidlniaaW.PrintLast
end Go.Proofs.YtkngncckidlniaaW.PrintLast
