-- Words for this claim.
import Derived.Test.YtbmiifhmgfhidaaVTriePlaysFootNe
namespace Go.Proofs.YtbmiifhmgfhidaaW.PrintWords
open Go.RowKit
namespace Kd
section
variable {α : Type} {d : Kd α} {e base n m : Nat} {ok : Nat → Prop} {w w' : World} {v : Value} {A : Option Addr} {xs : List α}
theorem R_at (hq : w.drewN m = w') (h : d.R e w base ok v xs) : d.R e w' base ok v xs := by subst hq; exact R_drewN h m
end
end Kd
end Go.Proofs.YtbmiifhmgfhidaaW.PrintWords
