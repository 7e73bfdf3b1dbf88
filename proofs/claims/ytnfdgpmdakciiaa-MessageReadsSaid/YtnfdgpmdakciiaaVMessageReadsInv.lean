-- Words for this claim.
import Derived.Test.YtnfdgpmdakciiaaVMessageReadsTab
namespace Go.Proofs.YtnfdgpmdakciiaaW.PrintLast
def up (b : Nat → Bool) (i : Nat) : Nat → Bool := fun j => if j = i then true else b j
end Go.Proofs.YtnfdgpmdakciiaaW.PrintLast
