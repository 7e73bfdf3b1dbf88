-- Words for this claim.
import Derived.Test.YtmkjgiejnlmncaaVTableTellsWords
import Derived.Test.YtmkjgiejnlmncaaVTableTellsLast
namespace Go.Proofs.YtmkjgiejnlmncaaW.PrintWords
open Go.RowKit
namespace Kd
end Kd
end Go.Proofs.YtmkjgiejnlmncaaW.PrintWords
