-- Words for this claim.
import Derived.Test.YtbmiifhmgfhidaaVTrieRisesWords
import Derived.Test.YtbmiifhmgfhidaaVTrieRisesLast
namespace Go.Proofs.YtbmiifhmgfhidaaW.PrintWords
open Go.RowKit
namespace Kd
end Kd
end Go.Proofs.YtbmiifhmgfhidaaW.PrintWords
