-- Lines by a program of this session, for this claim.
import Derived.Test.YtkdjpkgaknfdeaaQLinkPlaysx0
import Derived.Test.YtkdjpkgaknfdeaaQLinkPlaysx2
import Derived.Test.YtkdjpkgaknfdeaaQLinkPlaysx3
namespace Go.Proofs.Ytkdjpkgaknfdeaa.QLinkPlays
open Go.RowKit Go.Proofs.YtkdjpkgaknfdeaaW.PrintWords Go.Proofs.YtkdjpkgaknfdeaaW.PrintLast Go.Proofs.YtkdjpkgaknfdeaaW.PrintMore
attribute [local go_sem] max2_int min2_int max_two min_two max_three min_three max_four min_four   -- for this text's walks alone
set_option linter.unusedVariables false
set_option linter.unusedSimpArgs false

/-- THE ONE PURE STATEMENT of milestonelaw14_LinkPlays: yours. -/
def milestonelaw14_LinkPlays.Pure : Prop := ∀ (a0 : Int) (l1 : List (S33)), (Lit.int .u8 a0).wf = true → l1.length ≤ maxLen → (∀ x ∈ l1, ((Lit.int .u8 x.f0).wf = true ∧ ((Lit.int .u8 x.f1).wf = true ∧ (Lit.int .u16 x.f2).wf = true))) → ∃ k, milestonelaw14_LinkPlays.f k a0 l1 = some true
theorem milestonelaw14_LinkPlays.walk (P : milestonelaw14_LinkPlays.Pure) (a0 : Int) (a1 : Option Addr) (cap1 : Nat) (l1 : List (S33)) (w : World) (w0 : (Lit.int .u8 a0).wf = true) (hr1 : Kd.C k33 w a1 l1.length l1) (hc1 : l1.length ≤ cap1) (hm1 : l1.length ≤ maxLen) (hw1 : ∀ x ∈ l1, ((Lit.int .u8 x.f0).wf = true ∧ ((Lit.int .u8 x.f1).wf = true ∧ (Lit.int .u16 x.f2).wf = true))) :
    Calls Try.prog 4 #[.int .u8 a0, .slice a1 l1.length cap1] w fun e w' => e = .returned (.bool true) ∧ Below w.heap.size w w' := by
  obtain ⟨k, h⟩ := P a0 l1 w0 hm1 hw1
  refine (milestonelaw14_LinkPlays.calls k a0 _ _ l1 true w hr1 hc1 h rfl).mono ?_
  rintro e w' ⟨rfl, hd⟩
  exact ⟨rfl, hd⟩

end Go.Proofs.Ytkdjpkgaknfdeaa.QLinkPlays
