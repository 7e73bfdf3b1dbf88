-- Words for this claim.
import Derived.Test.YtkngncckidlniaaVSourcePlaysTab
namespace Go.Proofs.YtkngncckidlniaaW.PrintLast
def up (b : Nat → Bool) (i : Nat) : Nat → Bool := fun j => if j = i then true else b j
end Go.Proofs.YtkngncckidlniaaW.PrintLast
