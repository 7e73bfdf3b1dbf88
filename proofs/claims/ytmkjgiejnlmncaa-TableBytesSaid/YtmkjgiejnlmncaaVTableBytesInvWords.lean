-- Words for this claim.
import Derived.Test.YtmkjgiejnlmncaaVTableBytesInv
import Derived.Test.YtmkjgiejnlmncaaVTableBytesFootNe
namespace Go.Proofs.YtmkjgiejnlmncaaW.PrintWords
open Go.RowKit
end Go.Proofs.YtmkjgiejnlmncaaW.PrintWords
namespace Go.Proofs.YtmkjgiejnlmncaaW.PrintLast
end Go.Proofs.YtmkjgiejnlmncaaW.PrintLast
