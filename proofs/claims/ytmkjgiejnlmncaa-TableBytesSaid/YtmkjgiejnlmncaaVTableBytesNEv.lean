-- Words for this claim.
import Derived.Test.YtmkjgiejnlmncaaVTableBytesN
namespace Go.Proofs.YtmkjgiejnlmncaaW.PrintWords
open Go.RowKit
namespace Kd
end Kd
end Go.Proofs.YtmkjgiejnlmncaaW.PrintWords
