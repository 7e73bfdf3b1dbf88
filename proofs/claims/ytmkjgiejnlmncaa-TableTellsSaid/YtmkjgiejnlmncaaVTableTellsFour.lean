-- Words for this claim.
import Derived.Test.YtmkjgiejnlmncaaVTableTellsTab
namespace Go.Proofs.YtmkjgiejnlmncaaW.PrintLast
end Go.Proofs.YtmkjgiejnlmncaaW.PrintLast
