-- Words for this claim.
import Derived.Test.YtbmiifhmgfhidaaVTriePlaysTab
namespace Go.Proofs.YtbmiifhmgfhidaaW.PrintLast
def up (b : Nat → Bool) (i : Nat) : Nat → Bool := fun j => if j = i then true else b j
end Go.Proofs.YtbmiifhmgfhidaaW.PrintLast
