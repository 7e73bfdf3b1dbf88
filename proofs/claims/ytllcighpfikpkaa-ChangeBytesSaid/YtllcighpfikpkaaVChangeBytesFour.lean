-- Words for this claim.
import Derived.Test.YtllcighpfikpkaaVChangeBytesTab
namespace Go.Proofs.YtllcighpfikpkaaW.PrintLast
end Go.Proofs.YtllcighpfikpkaaW.PrintLast
