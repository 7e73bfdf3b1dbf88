-- Words for this claim.
import Derived.Test.YtmkjgiejnlmncaaVTablePartsInv
import Derived.Test.YtmkjgiejnlmncaaVTablePartsFootNe
namespace Go.Proofs.YtmkjgiejnlmncaaW.PrintWords
open Go.RowKit
end Go.Proofs.YtmkjgiejnlmncaaW.PrintWords
namespace Go.Proofs.YtmkjgiejnlmncaaW.PrintLast
end Go.Proofs.YtmkjgiejnlmncaaW.PrintLast
