/- Which of two serials stands behind the other one, going round, and what stands so many steps behind one.
For every input; no condition is added to the given statement. -/
import Derived.Test.YtpcohoeafldpmaaQSerialNewerx1
import Derived.OpenShut
namespace Go.Proofs.Ytpcohoeafldpmaa.Pure
open Go.RowKit Go.Proofs.Ytpcohoeafldpmaa.QSerialNewer Go.Proofs.YtpcohoeafldpmaaW.PrintWords Go.Proofs.YtpcohoeafldpmaaW.PrintLast

theorem wr16_SerialNewer (n : Int) : IntKind.u16.wrap n = n % 65536 := by
  simp [IntKind.wrap, IntKind.signed, IntKind.bits]

theorem newer_SerialNewer (a b : Int) (ha : 0 ≤ a ∧ a ≤ 65535) (hb : 0 ≤ b ∧ b ≤ 65535) :
    serial_Newer.f a b = some (decide (1 ≤ (a - b) % 65536 ∧ (a - b) % 65536 ≤ 32767)) := by
  unfold serial_Newer.f
  rw [wr16_SerialNewer]
  split
  · congr 1; symm; rw [decide_eq_false_iff_not]; omega
  · congr 1; rw [decide_eq_decide]; omega

theorem awake_SerialNewer : milestonelaw02_awake.f = some true := by
  unfold milestonelaw02_awake.f
  rw [newer_SerialNewer _ _ (by omega) (by omega)]
  simp only [Option.bind_some]
  rw [if_pos (by decide), newer_SerialNewer _ _ (by omega) (by omega)]
  simp only [Option.bind_some]
  decide

theorem ref_n (a b : Int) (ha : 0 ≤ a ∧ a ≤ 65535) (hb : 0 ≤ b ∧ b ≤ 65535) :
    milestoneref01_Newer.f a b = some (decide (1 ≤ (a - b) % 65536 ∧ (a - b) % 65536 ≤ 32767)) := by
  unfold milestoneref01_Newer.f
  have e : Int.tmod (wrap64 ((wrap64 ((wrap64 a) - (wrap64 b))) + 65536)) 65536 = (a - b) % 65536 := by
    rw [Int.tmod_eq_emod_of_nonneg (by unfold wrap64; omega)]
    unfold wrap64; omega
  rw [e]
  split
  · congr 1; rw [decide_eq_decide]; omega
  · congr 1; symm; rw [decide_eq_false_iff_not]; omega

theorem SerialNewer : milestonelaw02_SerialNewer.Pure := by
  intro a b c ha hb hc
  have ha := Go.bounds_u16 ha
  have hb := Go.bounds_u16 hb
  have hc := Go.bounds_i32 hc
  have hn : ∀ x : Int, -9223372036854775808 ≤ x → x ≤ 9223372036854775807 → wrap64 x = x := by intro x h1 h2; unfold wrap64; omega
  have en : serial_Next.f a (wrap64 c) = some ((a + c) % 65536) := by
    unfold serial_Next.f
    rw [wr16_SerialNewer, wr16_SerialNewer, hn c (by omega) (by omega)]; congr 1; omega
  have et : wrap64 ((a + c) % 65536) = Int.tmod (wrap64 ((Int.tmod (wrap64 ((wrap64 a) + (wrap64 c))) 65536) + 65536)) 65536 := by
    rw [hn a (by omega) (by omega), hn c (by omega) (by omega), hn (a + c) (by omega) (by omega)]
    have h1 := Int.tmod_lt_of_pos (a + c) (b := 65536) (by omega)
    have h2 := Int.lt_tmod_of_pos (a + c) (b := 65536) (by omega)
    have h3 := Int.tmod_add_mul_tdiv (a + c) 65536
    rw [hn (_ + 65536) (by omega) (by omega), Int.tmod_eq_emod_of_nonneg (by omega), hn _ (by omega) (by omega)]
    omega
  unfold milestonelaw02_SerialNewer.f
  rw [awake_SerialNewer]; simp only [Option.bind_some, if_true]
  rw [newer_SerialNewer a b ha hb, newer_SerialNewer b a hb ha, ref_n a b ha hb, en, wr16_SerialNewer]; simp only [Option.bind_some, beq_self_eq_true, if_true]
  by_cases h1 : (1 ≤ (a - b) % 65536 ∧ (a - b) % 65536 ≤ 32767)
  · have h2 : ¬ (1 ≤ (b - a) % 65536 ∧ (b - a) % 65536 ≤ 32767) := by omega
    rw [decide_eq_true h1, decide_eq_false h2, if_pos rfl, if_neg (by decide), if_pos et]
  · rw [decide_eq_false h1, if_neg (by decide), if_pos et]
    by_cases h2 : (1 ≤ (b - a) % 65536 ∧ (b - a) % 65536 ≤ 32767)
    · rw [decide_eq_true h2, if_pos rfl]
    · rw [decide_eq_false h2, if_neg (by decide)]
      split
      · rfl
      · congr 1; rw [beq_iff_eq]; omega

end Go.Proofs.Ytpcohoeafldpmaa.Pure
