-- Words for this claim.
import Derived.Test.YtbmiifhmgfhidaaVTriePlaysTab
namespace Go.Proofs.YtbmiifhmgfhidaaW.PrintLast
end Go.Proofs.YtbmiifhmgfhidaaW.PrintLast
