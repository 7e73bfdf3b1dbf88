/- The sum of two metrics is their sum, 65535 at most, and it does not matter which two of three are taken together first.
For every input; no condition is added to the given statement. -/
import Derived.Test.YtpcohoeafldpmaaQSerialSumsx1
import Derived.OpenShut
namespace Go.Proofs.Ytpcohoeafldpmaa.Pure
open Go.RowKit Go.Proofs.Ytpcohoeafldpmaa.QSerialSums Go.Proofs.YtpcohoeafldpmaaW.PrintWords Go.Proofs.YtpcohoeafldpmaaW.PrintLast

theorem wr16_SerialSums (n : Int) : IntKind.u16.wrap n = n % 65536 := by
  simp [IntKind.wrap, IntKind.signed, IntKind.bits]

theorem newer_SerialSums (a b : Int) (ha : 0 ≤ a ∧ a ≤ 65535) (hb : 0 ≤ b ∧ b ≤ 65535) :
    serial_Newer.f a b = some (decide (1 ≤ (a - b) % 65536 ∧ (a - b) % 65536 ≤ 32767)) := by
  unfold serial_Newer.f
  rw [wr16_SerialSums]
  split
  · congr 1; symm; rw [decide_eq_false_iff_not]; omega
  · congr 1; rw [decide_eq_decide]; omega

theorem awake_SerialSums : milestonelaw02_awake.f = some true := by
  unfold milestonelaw02_awake.f
  rw [newer_SerialSums _ _ (by omega) (by omega)]
  simp only [Option.bind_some]
  rw [if_pos (by decide), newer_SerialSums _ _ (by omega) (by omega)]
  simp only [Option.bind_some]
  decide

theorem sum_s (a b : Int) (ha : 0 ≤ a ∧ a ≤ 65535) (hb : 0 ≤ b ∧ b ≤ 65535) :
    serial_Sum.f a b = some (if a + b ≤ 65535 then a + b else 65535) := by
  unfold serial_Sum.f mn
  congr 1
  (repeat' split) <;> omega

theorem SerialSums : milestonelaw02_SerialSums.Pure := by
  intro a b c ha hb hc
  have ha := Go.bounds_u16 ha
  have hb := Go.bounds_u16 hb
  have hc := Go.bounds_u16 hc
  refine ⟨1, ?_⟩
  have key : ∀ x : Int, x = (if a + b ≤ 65535 then a + b else 65535) → milestonelaw02_SerialSums.j0 1 a b c x = some true := by
    intro x hx
    unfold milestonelaw02_SerialSums.j0
    rw [awake_SerialSums]; simp only [Option.bind_some, if_true]
    rw [sum_s a b ha hb]; simp only [Option.bind_some]
    have hn : ∃ n, (if a + b ≤ 65535 then a + b else 65535) = n ∧ 0 ≤ n ∧ n ≤ 65535 ∧ (a + b ≤ 65535 → n = a + b) ∧ (¬ a + b ≤ 65535 → n = 65535) := by
      split <;> exact ⟨_, rfl, by omega, by omega, by omega, by omega⟩
    obtain ⟨n, e, h0, h1, h2, h3⟩ := hn
    rw [e] at hx ⊢
    subst hx
    rw [if_pos (by unfold wrap64; omega)]
    rw [sum_s x c ⟨h0, h1⟩ hc, sum_s b c hb hc]; simp only [Option.bind_some]
    have hm : ∃ n, (if b + c ≤ 65535 then b + c else 65535) = n ∧ 0 ≤ n ∧ n ≤ 65535 ∧ (b + c ≤ 65535 → n = b + c) ∧ (¬ b + c ≤ 65535 → n = 65535) := by
      split <;> exact ⟨_, rfl, by omega, by omega, by omega, by omega⟩
    obtain ⟨m, e2, g0, g1, g2, g3⟩ := hm
    rw [e2, sum_s a m ha ⟨g0, g1⟩]; simp only [Option.bind_some]
    congr 1
    rw [beq_iff_eq]
    (repeat' split) <;> omega
  unfold milestonelaw02_SerialSums.f
  have w1 : wrap64 (wrap64 a + wrap64 b) = a + b := by unfold wrap64; omega
  rw [w1]
  split
  · exact key _ (by rw [if_neg (by omega)])
  · exact key _ (by rw [if_pos (by omega)])

end Go.Proofs.Ytpcohoeafldpmaa.Pure
