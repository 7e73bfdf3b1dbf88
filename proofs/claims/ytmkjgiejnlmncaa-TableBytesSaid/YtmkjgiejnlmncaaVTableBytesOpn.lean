-- Words for this claim.
import Derived.Test.YtmkjgiejnlmncaaVTableBytesWords
import Derived.Deep.Slices
import Derived.ChangeSame
import Derived.ChangeArms
import Derived.WideShapes
namespace Go.Proofs.YtmkjgiejnlmncaaW.Opn
open Go.ChangeShapes Go.WideShapes Go.Deep Go.RowKit Go.Proofs.YtmkjgiejnlmncaaW.PrintWords
section
variable {H : Type} {enc : TypeId × Value → H} {P : Program} {w : World} {base : Nat} {spare : Nat → Bool} {held : Bool}
def Opn (enc : TypeId × Value → H) (P : Program) (w : World) (base : Nat) (spare : Nat → Bool) (held : Bool) {α : Type} (t : TypeId) (d : Kd α) (F : α → Prop) : Prop :=
  ∀ (fuel : Nat) (cs : List Value) (x : DataW H × List MemPlace), DataW.trod enc P w base spare held fuel t cs = some x → ∃ a : α, d.K w a cs ∧ F a
theorem opn_int {t : TypeId} {k : IntKind} (ht : P.underlying t = some (.int k)) : Opn enc P w base spare held t (Kd.int k) (fun a => (Lit.int k a).wf = true) := by
  intro fuel cs x h
  obtain ⟨n, rfl, _, hw⟩ := DataW.trod_int ht h
  exact ⟨n, rfl, hw⟩
theorem choose_list {α : Type} {n : Nat} {Q : Nat → α → Prop} (h : ∀ i, i < n → ∃ a, Q i a) : ∃ l : List α, l.length = n ∧ ∀ i a, l[i]? = some a → Q i a := by
  induction n with
  | zero => exact ⟨[], rfl, fun i a hi => by simp at hi⟩
  | succ n ih =>
    obtain ⟨l, hl, hq⟩ := ih (fun i hi => h i (by omega))
    obtain ⟨b, hb⟩ := h n (by omega)
    refine ⟨l ++ [b], by simp [hl], fun i a hi => ?_⟩
    by_cases hlt : i < l.length
    · rw [List.getElem?_append_left hlt] at hi
      exact hq i a hi
    · rw [List.getElem?_append_right (by omega)] at hi
      have e : i = n := by
        have := (List.getElem?_eq_some_iff.1 hi).1
        simp at this
        omega
      subst e
      rw [hl] at hi
      simp at hi
      subst hi
      exact hb
theorem opn_slice {α : Type} {t e : TypeId} {d : Kd α} {F : α → Prop} (ht : P.underlying t = some (.slice e)) (hC : P.cellsOf e = d.sz) (hE : Opn enc P w base spare held e d F) :
    Opn enc P w base spare held t (Kd.slice e d) (fun l => l.length ≤ maxLen ∧ ∀ x ∈ l, F x) := by
  intro fuel cs x h
  rcases open_slice ht h with ⟨rfl, _⟩ | ⟨a, len, cap, m, n, D, Pl, rfl, hb, hl, hm, hmm, hx, hi⟩
  · exact ⟨[], ⟨none, 0, rfl, Nat.le_refl _, rfl, by simp, fun h => by simp at h⟩, by simp, fun x hx => by simp at hx⟩
  · have hlm : len ≤ m := by rw [hmm]; split <;> omega
    obtain ⟨l, hll, hq⟩ := choose_list (n := len) (Q := fun i (y : α) => (∃ c : List Value, c.length = d.sz ∧ d.K w y c ∧ ∀ j u, c[j]? = some u → w.cell? (a.add (i * d.sz + j)) = some u) ∧ F y) (fun i hil => by
      obtain ⟨cs', hc, ht'⟩ := hi i (by omega)
      obtain ⟨y, hK, hF⟩ := hE _ _ _ ht'
      rw [hC] at hc
      obtain ⟨_, hcl, hat⟩ := World.cells?_some hc
      refine ⟨y, ⟨cs', hcl, hK, fun j u hj => ?_⟩, hF⟩
      have hjl : j < d.sz := by
        have := (List.getElem?_eq_some_iff.1 hj).1
        omega
      rw [← Go.Deep.add_add, hat j hjl, hj])
    subst hll
    unfold maxLen at hm
    refine ⟨l, ⟨some a, cap, rfl, hl, rfl, by omega, fun _ => ⟨a, rfl, fun j p hj => ?_⟩⟩, by unfold maxLen; omega, fun x hx => ?_⟩
    · exact (hq j p hj).1
    · obtain ⟨i, hi', he⟩ := List.getElem_of_mem hx
      exact (hq i x (by rw [List.getElem?_eq_getElem hi', he])).2
def OpnL (enc : TypeId × Value → H) (P : Program) (w : World) (base : Nat) (spare : Nat → Bool) (held : Bool) {α : Type} (fs : List Field) (off : Nat) (d : Kd α) (F : α → Prop) : Prop :=
  ∀ (n : Nat) (cs : List Value), (∀ f ∈ fs, ∃ y, DataW.trod enc P w base spare held n f.type ((cs.drop f.offset).take (P.cellsOf f.type)) = some y) → cs.length = off + d.sz → ∃ a : α, d.K w a (cs.drop off) ∧ F a
theorem opnl_one {α : Type} {f : Field} {off : Nat} {d : Kd α} {F : α → Prop} (ho : f.offset = off) (hC : P.cellsOf f.type = d.sz) (h : Opn enc P w base spare held f.type d F) : OpnL enc P w base spare held [f] off d F := by
  intro n cs hf hl
  obtain ⟨y, hy⟩ := hf f List.mem_cons_self
  rw [ho, hC, List.take_of_length_le (by simp; omega)] at hy
  exact h _ _ _ hy
theorem opnl_cons {α β : Type} {f : Field} {fs : List Field} {off : Nat} {d : Kd α} {d2 : Kd β} {F : α → Prop} {F2 : β → Prop} (ho : f.offset = off) (hC : P.cellsOf f.type = d.sz) (h : Opn enc P w base spare held f.type d F)
    (h2 : OpnL enc P w base spare held fs (off + d.sz) d2 F2) : OpnL enc P w base spare held (f :: fs) off (Kd.pair d d2) (fun p => F p.1 ∧ F2 p.2) := by
  intro n cs hf hl
  have hl' : cs.length = off + (d.sz + d2.sz) := hl
  obtain ⟨y, hy⟩ := hf f List.mem_cons_self
  rw [ho, hC] at hy
  obtain ⟨a, hK, hF⟩ := h _ _ _ hy
  obtain ⟨b, hK2, hF2⟩ := h2 n cs (fun g hg => hf g (List.mem_cons_of_mem _ hg)) (by omega)
  refine ⟨(a, b), ⟨_, _, ?_, hK, hK2⟩, hF, hF2⟩
  rw [← List.drop_drop, List.take_append_drop]
theorem opn_struct {α β : Type} {t : TypeId} {fs : Array Field} {d : Kd α} {F : α → Prop} (f : β → α) (hs : ∀ y, ∃ x, f x = y) (ht : P.underlying t = some (.struct fs)) (hC : P.cellsOf t = d.sz) (h : OpnL enc P w base spare held fs.toList 0 d F) :
    Opn enc P w base spare held t (Kd.iso d f) (fun x => F (f x)) := by
  intro fuel cs x hx
  obtain ⟨xs, n, _, _, hl, hlen, hf⟩ := DataW.trod_struct ht hx
  obtain ⟨a, hK, hF⟩ := h n cs (fun g hg => by
    obtain ⟨i, hi, he⟩ := List.getElem_of_mem hg
    have hi' : i < fs.size := by simpa using hi
    have e : fs[i]? = some g := by
      rw [Array.getElem?_eq_getElem hi']
      simpa using he
    exact ⟨xs[i]'(by omega), by rw [hf i g e, List.getElem?_eq_getElem (by omega)]⟩) (by rw [hl, hC, Nat.zero_add])
  obtain ⟨z, rfl⟩ := hs a
  rw [List.drop_zero] at hK
  exact ⟨z, hK, hF⟩
end
end Go.Proofs.YtmkjgiejnlmncaaW.Opn
