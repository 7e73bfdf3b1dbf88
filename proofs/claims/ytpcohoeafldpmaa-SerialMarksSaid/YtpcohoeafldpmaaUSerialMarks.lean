/- Which mark is nearer, and the nearer one of two, are the document's; none is nearer than itself, and of two at most one is.
For every input; no condition is added to the given statement. -/
import Derived.Test.YtpcohoeafldpmaaQSerialMarksx3
import Derived.Laws.BitsAllLaws
import Derived.OpenShut
import Derived.Lib.Bytes
namespace Go.Proofs.Ytpcohoeafldpmaa.Pure
open Go.RowKit Go.Proofs.Ytpcohoeafldpmaa.QSerialMarks Go.Proofs.YtpcohoeafldpmaaW.PrintWords Go.Proofs.YtpcohoeafldpmaaW.PrintLast Go.Proofs.YtpcohoeafldpmaaW.PrintMore
set_option linter.unusedSimpArgs false
set_option linter.unusedVariables false

theorem wr16 (n : Int) : IntKind.u16.wrap n = n % 65536 := by
  simp [IntKind.wrap, IntKind.signed, IntKind.bits]
theorem newer_is (a b : Int) (ha : 0 ≤ a ∧ a ≤ 65535) (hb : 0 ≤ b ∧ b ≤ 65535) :
    serial_Newer.f a b = some (decide (1 ≤ (a - b) % 65536 ∧ (a - b) % 65536 ≤ 32767)) := by
  unfold serial_Newer.f
  rw [wr16]
  split
  · refine congrArg some ?_; symm; rw [decide_eq_false_iff_not]; omega
  · refine congrArg some ?_; rw [decide_eq_decide]; omega
theorem rnewer_is (a b : Int) (ha : 0 ≤ a ∧ a ≤ 65535) (hb : 0 ≤ b ∧ b ≤ 65535) :
    milestoneref01_Newer.f a b = some (decide (1 ≤ (a - b) % 65536 ∧ (a - b) % 65536 ≤ 32767)) := by
  unfold milestoneref01_Newer.f
  have e1 : Aside0 (wrap64 a = a) := ⟨by unfold wrap64; omega⟩
  have e2 : Aside0 (wrap64 b = b) := ⟨by unfold wrap64; omega⟩
  have e3 : Aside0 (wrap64 (a - b) = a - b) := ⟨by unfold wrap64; omega⟩
  have e4 : Aside0 (wrap64 (a - b + 65536) = a - b + 65536) := ⟨by unfold wrap64; omega⟩
  have e5 : Aside0 (Int.tmod (a - b + 65536) 65536 = (a - b) % 65536) := ⟨by rw [Int.tmod_eq_emod_of_nonneg (by omega)]; omega⟩
  rw [e1.out, e2.out, e3.out, e4.out, e5.out]
  split
  · refine congrArg some ?_; rw [decide_eq_decide]; omega
  · refine congrArg some ?_; symm; rw [decide_eq_false_iff_not]; omega
def Nw (a b : Int) : Prop := 1 ≤ (a - b) % 65536 ∧ (a - b) % 65536 ≤ 32767
instance (a b : Int) : Decidable (Nw a b) := inferInstanceAs (Decidable (_ ∧ _))
def nr (s m t n : Int) : Bool := decide (Nw s t ∨ (s = t ∧ m < n))
theorem nearer_is (s m t n : Int) (hs : 0 ≤ s ∧ s ≤ 65535) (ht : 0 ≤ t ∧ t ≤ 65535) : serial_Nearer.f s m t n = some (nr s m t n) := by
  unfold serial_Nearer.f nr
  rw [newer_is s t hs ht, Option.bind_some]
  by_cases h : 1 ≤ (s - t) % 65536 ∧ (s - t) % 65536 ≤ 32767
  · rw [decide_eq_true h, if_pos rfl]; refine congrArg some ?_; symm; exact decide_eq_true (Or.inl h)
  · rw [decide_eq_false h, if_neg (by decide)]
    split
    · next e => refine congrArg some ?_; rw [decide_eq_decide]; exact ⟨fun q => Or.inr ⟨e, q⟩, fun q => q.elim (fun z => absurd z h) (·.2)⟩
    · next e => refine congrArg some ?_; symm; rw [decide_eq_false_iff_not]; exact fun q => q.elim (fun z => h z) (fun z => e z.1)
theorem rnearer_is (s m t n : Int) (hs : 0 ≤ s ∧ s ≤ 65535) (ht : 0 ≤ t ∧ t ≤ 65535) : milestoneref01_Nearer.f s m t n = some (nr s m t n) := by
  unfold milestoneref01_Nearer.f nr
  by_cases e : s = t
  · rw [if_pos e]
    refine congrArg some ?_
    rw [decide_eq_decide]
    exact ⟨fun q => Or.inr ⟨e, q⟩, fun q => q.elim (fun z => by unfold Nw at z; omega) (·.2)⟩
  · rw [if_neg e, rnewer_is s t hs ht, Option.bind_some]
    refine congrArg some ?_
    rw [decide_eq_decide]
    exact ⟨fun q => Or.inl q, fun q => q.elim id (fun z => absurd z.1 e)⟩
theorem best_is (s m t n : Int) (hs : 0 ≤ s ∧ s ≤ 65535) (ht : 0 ≤ t ∧ t ≤ 65535) : serial_Best.f s m t n = some (if nr t n s m = true then (t, n) else (s, m)) := by
  unfold serial_Best.f
  rw [nearer_is t n s m ht hs, Option.bind_some]
  by_cases h : nr t n s m = true
  · rw [if_pos h, if_pos h]
  · rw [if_neg h, if_neg h]
theorem rbest_is (s m t n : Int) (hs : 0 ≤ s ∧ s ≤ 65535) (ht : 0 ≤ t ∧ t ≤ 65535) : milestoneref01_Best.f s m t n = some (if nr t n s m = true then (t, n) else (s, m)) := by
  unfold milestoneref01_Best.f
  rw [rnearer_is t n s m ht hs, Option.bind_some]
  by_cases h : nr t n s m = true
  · rw [if_pos h, if_pos h]
  · rw [if_neg h, if_neg h]

theorem awake_is : milestonelaw02_awake.f = some true := by decide +kernel
theorem marks_j0 (k : Nat) (s m t n : Int) (hs : 0 ≤ s ∧ s ≤ 65535) (ht : 0 ≤ t ∧ t ≤ 65535) : milestonelaw02_SerialMarks.j0 (k + 1) s m t n = some true := by
  have h0 : nr s m s m = false := by
    unfold nr Nw
    rw [decide_eq_false_iff_not]
    omega
  have h1 : nr s m t n = true → nr t n s m = false := by
    unfold nr Nw
    rw [decide_eq_true_iff, decide_eq_false_iff_not]
    omega
  have hb : serial_Best.f s m s m = some (s, m) := by rw [best_is s m s m hs hs, h0, if_neg (by decide)]
  rw [milestonelaw02_SerialMarks.j0, awake_is, Option.bind_some, if_pos rfl, nearer_is s m t n hs ht, Option.bind_some, rnearer_is s m t n hs ht, Option.bind_some, if_pos (by simp), nearer_is s m s m hs hs, Option.bind_some, h0, if_neg (by decide), Option.bind_some]
  have fin : ((serial_Best.f s m t n).bind fun bt131 => ((milestoneref01_Best.f s m t n).bind fun bt133 => (if (bt131.1 == bt133.1 && (bt131.2 == bt133.2)) = true then ((serial_Best.f s m s m).bind fun bt135 => (some (bt135.1 == s && (bt135.2 == m)))) else (some false)))) = some true := by
    rw [best_is s m t n hs ht, Option.bind_some, rbest_is s m t n hs ht, Option.bind_some, if_pos (by simp), hb, Option.bind_some]
    simp
  by_cases hx : nr s m t n = true
  · rw [if_pos hx, nearer_is t n s m ht hs, Option.bind_some, h1 hx, if_neg (by decide)]
    exact fin
  · rw [if_neg hx]
    exact fin
theorem SerialMarks : milestonelaw02_SerialMarks.Pure := by
  intro s m t n same hs hm ht hn
  have hs := Go.bounds_u16 hs
  have ht := Go.bounds_u16 ht
  refine ⟨1, ?_⟩
  unfold milestonelaw02_SerialMarks.f
  by_cases h : same = true
  · rw [if_pos h]
    exact marks_j0 0 s m s n hs hs
  · rw [if_neg h]
    exact marks_j0 0 s m t n hs ht

end Go.Proofs.Ytpcohoeafldpmaa.Pure
