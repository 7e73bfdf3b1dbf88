-- Words for this claim.
import Derived.Test.YtmkjgiejnlmncaaVTableBytesTab
namespace Go.Proofs.YtmkjgiejnlmncaaW.PrintLast
def up (b : Nat → Bool) (i : Nat) : Nat → Bool := fun j => if j = i then true else b j
end Go.Proofs.YtmkjgiejnlmncaaW.PrintLast
