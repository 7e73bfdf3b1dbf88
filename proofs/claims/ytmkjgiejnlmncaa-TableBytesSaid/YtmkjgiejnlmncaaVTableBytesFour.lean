-- Words for this claim.
import Derived.Test.YtmkjgiejnlmncaaVTableBytesTab
namespace Go.Proofs.YtmkjgiejnlmncaaW.PrintLast
end Go.Proofs.YtmkjgiejnlmncaaW.PrintLast
