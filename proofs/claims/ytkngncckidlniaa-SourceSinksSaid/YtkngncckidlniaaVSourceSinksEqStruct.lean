-- Words for this claim.
import Derived.Test.YtkngncckidlniaaVSourceSinksWords
import Derived.Laws.StructEq
namespace Go.Proofs.YtkngncckidlniaaW.PrintWords
open Go.RowKit
end Go.Proofs.YtkngncckidlniaaW.PrintWords
