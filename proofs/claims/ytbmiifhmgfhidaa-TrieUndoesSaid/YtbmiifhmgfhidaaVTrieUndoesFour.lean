-- Words for this claim.
import Derived.Test.YtbmiifhmgfhidaaVTrieUndoesTab
namespace Go.Proofs.YtbmiifhmgfhidaaW.PrintLast
end Go.Proofs.YtbmiifhmgfhidaaW.PrintLast
