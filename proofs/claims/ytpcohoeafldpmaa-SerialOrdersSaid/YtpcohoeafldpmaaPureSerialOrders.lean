/- Of marks whose serials lie within 16000 of one another: what is nearer than a nearer one is nearer, and of two unlike ones one is nearer.
For every input; no condition is added to the given statement. -/
import Derived.Test.YtpcohoeafldpmaaPSerialOrdersx2
import Derived.OpenShut
namespace Go.Proofs.Ytpcohoeafldpmaa.Pure
open Go.RowKit Go.Proofs.Ytpcohoeafldpmaa.PSerialOrders Go.Proofs.YtpcohoeafldpmaaW.PrintWords Go.Proofs.YtpcohoeafldpmaaW.PrintLast

theorem wr16_SerialOrders (n : Int) : IntKind.u16.wrap n = n % 65536 := by
  simp [IntKind.wrap, IntKind.signed, IntKind.bits]

theorem newer_SerialOrders (a b : Int) (ha : 0 ≤ a ∧ a ≤ 65535) (hb : 0 ≤ b ∧ b ≤ 65535) :
    serial_Newer.f a b = some (decide (1 ≤ (a - b) % 65536 ∧ (a - b) % 65536 ≤ 32767)) := by
  unfold serial_Newer.f
  rw [wr16_SerialOrders]
  split
  · congr 1; symm; rw [decide_eq_false_iff_not]; omega
  · congr 1; rw [decide_eq_decide]; omega

theorem awake_SerialOrders : milestonelaw02_awake.f = some true := by
  unfold milestonelaw02_awake.f
  rw [newer_SerialOrders _ _ (by omega) (by omega)]
  simp only [Option.bind_some]
  rw [if_pos (by decide), newer_SerialOrders _ _ (by omega) (by omega)]
  simp only [Option.bind_some]
  decide

/-- the one serial stands behind the other one -/
def Nw (a b : Int) : Prop := 1 ≤ (a - b) % 65536 ∧ (a - b) % 65536 ≤ 32767
instance (a b : Int) : Decidable (Nw a b) := inferInstanceAs (Decidable (_ ∧ _))

theorem nearer_o (s m t n : Int) (hs : 0 ≤ s ∧ s ≤ 65535) (ht : 0 ≤ t ∧ t ≤ 65535) :
    serial_Nearer.f s m t n = some (decide (Nw s t ∨ (s = t ∧ m < n))) := by
  unfold serial_Nearer.f
  rw [newer_SerialOrders s t hs ht]; simp only [Option.bind_some]
  by_cases h : 1 ≤ (s - t) % 65536 ∧ (s - t) % 65536 ≤ 32767
  · rw [decide_eq_true h, if_pos rfl]; congr 1; symm; exact decide_eq_true (Or.inl h)
  · rw [decide_eq_false h, if_neg (by decide)]
    split
    · next e => congr 1; rw [decide_eq_decide]; exact ⟨fun q => Or.inr ⟨e, q⟩, fun q => q.elim (fun z => absurd z h) (·.2)⟩
    · next e => congr 1; symm; rw [decide_eq_false_iff_not]; exact fun q => q.elim (fun z => h z) (fun z => e z.1)

theorem SerialOrders : milestonelaw02_SerialOrders.Pure := by
  intro s x y z a b c hs hx hy hz ha hb hc
  have hs := Go.bounds_u16 hs
  have hx := Go.bounds_u16 hx
  have hy := Go.bounds_u16 hy
  have hz := Go.bounds_u16 hz
  have ha := Go.bounds_u16 ha
  have hb := Go.bounds_u16 hb
  have hc := Go.bounds_u16 hc
  have mk : ∀ v : Int, 0 ≤ v → ∃ p d : Int, IntKind.u16.wrap (s + Int.tmod v 16000) = p ∧ p = (s + d) % 65536 ∧ 0 ≤ d ∧ d < 16000 := by
    intro v hv
    rw [wr16_SerialOrders, Int.tmod_eq_emod_of_nonneg hv]
    exact ⟨_, v % 16000, rfl, rfl, by omega, by omega⟩
  obtain ⟨p, dx, ep, hp, p0, p1⟩ := mk x hx.1
  obtain ⟨q, dy, eq, hq, q0, q1⟩ := mk y hy.1
  obtain ⟨r, dz, er, hr, r0, r1⟩ := mk z hz.1
  unfold milestonelaw02_SerialOrders.f
  rw [awake_SerialOrders]; simp only [Option.bind_some, if_true]
  rw [ep, eq, er]
  rw [nearer_o p a q b (by omega) (by omega), nearer_o q b r c (by omega) (by omega), nearer_o p a r c (by omega) (by omega), nearer_o q b p a (by omega) (by omega)]
  have t1 : (Nw p q ∨ (p = q ∧ a < b)) → (Nw q r ∨ (q = r ∧ b < c)) → (Nw p r ∨ (p = r ∧ a < c)) := by
    unfold Nw; omega
  have t2 : ¬ (Nw p q ∨ (p = q ∧ a < b)) → ¬ (Nw q p ∨ (q = p ∧ b < a)) → p = q ∧ a = b := by
    unfold Nw; omega
  by_cases h1 : (Nw p q ∨ (p = q ∧ a < b))
  · rw [decide_eq_true h1]; simp only [Option.bind_some, if_true]
    by_cases h2 : (Nw q r ∨ (q = r ∧ b < c))
    · rw [decide_eq_true h2, decide_eq_true (t1 h1 h2)]; simp only [if_true]
    · rw [decide_eq_false h2]; simp
  · rw [decide_eq_false h1]; simp only [Option.bind_some, Bool.false_eq_true, if_false]
    by_cases h2 : (Nw q p ∨ (q = p ∧ b < a))
    · rw [decide_eq_true h2]; simp
    · obtain ⟨e1, e2⟩ := t2 h1 h2
      rw [decide_eq_false h2]; simp [e1, e2]

end Go.Proofs.Ytpcohoeafldpmaa.Pure
