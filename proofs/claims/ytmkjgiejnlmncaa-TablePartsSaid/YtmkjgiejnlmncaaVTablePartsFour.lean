-- Words for this claim.
import Derived.Test.YtmkjgiejnlmncaaVTablePartsTab
namespace Go.Proofs.YtmkjgiejnlmncaaW.PrintLast
end Go.Proofs.YtmkjgiejnlmncaaW.PrintLast
