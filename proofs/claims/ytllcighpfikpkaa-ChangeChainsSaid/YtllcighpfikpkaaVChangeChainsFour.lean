-- Words for this claim.
import Derived.Test.YtllcighpfikpkaaVChangeChainsTab
namespace Go.Proofs.YtllcighpfikpkaaW.PrintLast
end Go.Proofs.YtllcighpfikpkaaW.PrintLast
