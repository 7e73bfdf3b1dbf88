-- Words for this claim.
import Derived.Test.YtbmiifhmgfhidaaVTriePlaysInv
import Derived.Test.YtbmiifhmgfhidaaVTriePlaysFootNe
namespace Go.Proofs.YtbmiifhmgfhidaaW.PrintWords
open Go.RowKit
end Go.Proofs.YtbmiifhmgfhidaaW.PrintWords
namespace Go.Proofs.YtbmiifhmgfhidaaW.PrintLast
end Go.Proofs.YtbmiifhmgfhidaaW.PrintLast
