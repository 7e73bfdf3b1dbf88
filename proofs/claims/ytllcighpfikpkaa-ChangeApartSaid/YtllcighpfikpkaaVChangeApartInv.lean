-- Words for this claim.
import Derived.Test.YtllcighpfikpkaaVChangeApartTab
namespace Go.Proofs.YtllcighpfikpkaaW.PrintLast
def up (b : Nat → Bool) (i : Nat) : Nat → Bool := fun j => if j = i then true else b j
end Go.Proofs.YtllcighpfikpkaaW.PrintLast
