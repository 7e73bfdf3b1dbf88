/- So many steps on are newer as long as they are fewer than half of all; a whole round is none; and so many back are where one was.
For every input; no condition is added to the given statement. -/
import Derived.Test.YtpcohoeafldpmaaPSerialRoundsx1
import Derived.OpenShut
namespace Go.Proofs.Ytpcohoeafldpmaa.Pure
open Go.RowKit Go.Proofs.Ytpcohoeafldpmaa.PSerialRounds Go.Proofs.YtpcohoeafldpmaaW.PrintWords Go.Proofs.YtpcohoeafldpmaaW.PrintLast

theorem wr16_SerialRounds (n : Int) : IntKind.u16.wrap n = n % 65536 := by
  simp [IntKind.wrap, IntKind.signed, IntKind.bits]

theorem newer_SerialRounds (a b : Int) (ha : 0 ≤ a ∧ a ≤ 65535) (hb : 0 ≤ b ∧ b ≤ 65535) :
    serial_Newer.f a b = some (decide (1 ≤ (a - b) % 65536 ∧ (a - b) % 65536 ≤ 32767)) := by
  unfold serial_Newer.f
  rw [wr16_SerialRounds]
  split
  · congr 1; symm; rw [decide_eq_false_iff_not]; omega
  · congr 1; rw [decide_eq_decide]; omega

theorem awake_SerialRounds : milestonelaw02_awake.f = some true := by
  unfold milestonelaw02_awake.f
  rw [newer_SerialRounds _ _ (by omega) (by omega)]
  simp only [Option.bind_some]
  rw [if_pos (by decide), newer_SerialRounds _ _ (by omega) (by omega)]
  simp only [Option.bind_some]
  decide

theorem SerialRounds : milestonelaw02_SerialRounds.Pure := by
  intro a n ha hn
  have ha := Go.bounds_u16 ha
  have hn := Go.bounds_u16 hn
  have ek : Int.tmod (wrap64 n) 40000 = n % 40000 := by
    have : wrap64 n = n := by unfold wrap64; omega
    rw [this, Int.tmod_eq_emod_of_nonneg hn.1]
  have wm : wrap64 (-(n % 40000)) = -(n % 40000) := by unfold wrap64; omega
  have nx : ∀ x y : Int, serial_Next.f x y = some ((x + y) % 65536) := by
    intro x y; unfold serial_Next.f; rw [wr16_SerialRounds, wr16_SerialRounds]; congr 1; omega
  unfold milestonelaw02_SerialRounds.f
  rw [ek, wm, nx a]; simp only [Option.bind_some]
  rw [awake_SerialRounds]; simp only [Option.bind_some, if_true]
  rw [newer_SerialRounds _ a (by omega) ha, nx a, nx]; simp only [Option.bind_some]
  have e1 : (a + 65536) % 65536 = a := by omega
  have e2 : ((a + n % 40000) % 65536 + -(n % 40000)) % 65536 = a := by omega
  rw [if_pos e1, e2]
  by_cases h : n % 40000 ≥ 1
  · rw [if_pos h, if_pos]
    · simp
    · rw [beq_iff_eq, decide_eq_decide]; omega
  · rw [if_neg h, if_pos]
    · simp
    · rw [beq_iff_eq, decide_eq_false_iff_not]; omega

end Go.Proofs.Ytpcohoeafldpmaa.Pure
