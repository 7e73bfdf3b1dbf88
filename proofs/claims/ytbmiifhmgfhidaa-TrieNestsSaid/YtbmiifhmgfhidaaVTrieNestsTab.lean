-- Words for this claim.
import Derived.Test.YtbmiifhmgfhidaaVTrieNestsLast
import Derived.Test.YtbmiifhmgfhidaaVTrieNestsWords
namespace Go.Proofs.YtbmiifhmgfhidaaW.PrintLast
open Go.Proofs.YtbmiifhmgfhidaaW.PrintWords (Aside0)
end Go.Proofs.YtbmiifhmgfhidaaW.PrintLast
