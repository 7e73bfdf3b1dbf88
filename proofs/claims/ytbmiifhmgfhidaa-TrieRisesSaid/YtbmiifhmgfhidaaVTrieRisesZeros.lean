-- Words for this claim.
import Derived.Test.YtbmiifhmgfhidaaVTrieRisesApart
import Derived.Test.YtbmiifhmgfhidaaVTrieRisesArr
namespace Go.Proofs.YtbmiifhmgfhidaaW.PrintWords
open Go.RowKit
namespace Kd
end Kd
end Go.Proofs.YtbmiifhmgfhidaaW.PrintWords
