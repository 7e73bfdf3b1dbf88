-- Lines by a program of this session, for this claim.
import Derived.Test.YtbmiifhmgfhidaaQTriePlaysx0
import Derived.Test.YtbmiifhmgfhidaaQTriePlaysx2
import Derived.Test.YtbmiifhmgfhidaaQTriePlaysx4
import Derived.Test.YtbmiifhmgfhidaaQTriePlaysx5
import Derived.Test.YtbmiifhmgfhidaaQTriePlaysx6
import Derived.Test.YtbmiifhmgfhidaaQTriePlaysx7
import Derived.Test.YtbmiifhmgfhidaaQTriePlaysx8
import Derived.Test.YtbmiifhmgfhidaaQTriePlaysx9
namespace Go.Proofs.Ytbmiifhmgfhidaa.QTriePlays
open Go.RowKit Go.Proofs.YtbmiifhmgfhidaaW.PrintWords Go.Proofs.YtbmiifhmgfhidaaW.PrintLast Go.Proofs.YtbmiifhmgfhidaaW.PrintMore
attribute [local go_sem] max2_int min2_int max_two min_two max_three min_three max_four min_four   -- for this text's walks alone
set_option linter.unusedVariables false
set_option linter.unusedSimpArgs false
/-! ### a row of one's own, or what came in -/
/-- Either a row of the call's own, or one that came in: then its block is below base. -/
def Kx {α : Type} (d : Kd α) (e : Nat) (W : World) (base : Nat) (ok : Nat → Prop) (v : Value) (xs : List α) : Prop :=
 d.R e W base ok v xs ∨ (∃ A c, v = .slice A xs.length c ∧ xs.length ≤ c ∧ Kd.F d W (fun k => k < base) A xs.length xs ∧ (∀ k, v.ownBlock = some k → k < base) ∧ base ≤ W.heap.size)
section
variable {α : Type} {d : Kd α} {e base n c : Nat} {ok ok' : Nat → Prop} {W w w1 : World} {v : Value} {xs : List α} {A : Option Addr}
theorem Kx.of_C (hd : Kd.Heap d) (h : d.C w A xs.length xs) (hc : xs.length ≤ c) (hb : ∀ ad, A = some ad → ad.block < w.heap.size) : Kx d e w w.heap.size ok (.slice A xs.length c) xs :=
 .inr ⟨A, c, rfl, hc, Kd.C_F hd h, fun k hk => by
  cases A with
  | none => simp [Value.ownBlock] at hk
  | some ad =>
   simp [Value.ownBlock] at hk
   subst hk
   exact hb ad rfl, Nat.le_refl _⟩
theorem Kx.of_R (h : d.R e W base ok v xs) : Kx d e W base ok v xs := .inl h
theorem Kx.step (h : Kx d e W base ok v xs) (h1 : d.R e W base ok v xs → d.R e w1 base ok' v xs) (h2 : ∀ k, k < base → k < W.heap.size → w1.heap[k]? = W.heap[k]?) (hs : W.heap.size ≤ w1.heap.size) : Kx d e w1 base ok' v xs := by
 rcases h with h | ⟨A, c, rfl, hc, hf, hb, hz⟩
 · exact .inl (h1 h)
 · exact .inr ⟨A, c, rfl, hc, Kd.F_step hf h2, hb, Nat.le_trans hz hs⟩
theorem Kx.R_below (h : Kx d e W base ok v xs) (hb : Below W.heap.size W w1) : Kx d e w1 base ok v xs := h.step (fun h => Kd.R_below h hb) (fun k _ hk => hb.block k hk) hb.size
theorem Kx.R_alloc (h : Kx d e W base ok v xs) (o : Obj) : Kx d e (W.alloc o) base ok v xs := h.R_below (below_alloc (Below.refl _ _) o)
theorem Kx.R_drew (h : Kx d e W base ok v xs) : Kx d e W.drew base ok v xs := h.R_below (below_drew (Below.refl _ _))
theorem Kx.R_drewN (h : Kx d e W base ok v xs) (m : Nat) : Kx d e (W.drewN m) base ok v xs := h.R_below (pw_below_drewN (Below.refl _ _) m)
theorem Kx.R_at {w' : World} {m : Nat} (hq : W.drewN m = w') (h : Kx d e W base ok v xs) : Kx d e w' base ok v xs := by subst hq; exact h.R_drewN m
theorem Kx.R_mono (h : Kx d e W base ok v xs) (hok : ∀ k, ok k → ok' k) : Kx d e W base ok' v xs := h.step (fun h => Kd.R_mono h hok) (fun _ _ _ => rfl) (Nat.le_refl _)
theorem Kx.R_lower (h : Kx d e W base ok v xs) (_ : base ≤ base) : Kx d e W base ok v xs := h
theorem Kx.R_far (h : Kx d e W base ok v xs) {p : Addr} (hok : ∀ k, ok k → k ≠ p.block) (hp : base ≤ p.block) (u : Value) : Kx d e (W.setCell p u) base ok v xs :=
 h.step (fun h => Kd.R_far h hok u) (fun k hk _ => Below.heap_setCell W p u k (by omega)) (by simp [World.setCell])
theorem Kx.R_types (h : Kx d e W base ok v xs) {g t : Nat} {cells : Array Value} (hb : W.heap[g]? = some (.cells cells t (0, 0))) (ht : ∀ q, q ∈ e :: d.E → q ≠ t) : Kx d e W base (fun k => ok k ∧ k ≠ g) v xs := h.step (fun h => Kd.R_types h hb ht) (fun _ _ _ => rfl) (Nat.le_refl _)
theorem Kx.R_keepT (h : Kx d e W base ok v xs) (hk : KeepT W w1) (ht : ∀ q, q ∈ e :: d.E → q ≠ 44 ∧ q ≠ 46) {w0 : World} (h0 : Below base w0 W) (h1 : Below base w0 w1) : Kx d e w1 base ok v xs :=
 h.step (fun h => Kd.R_keepT h hk ht) (fun k hk2 _ => (h1.block k hk2).trans (h0.block k hk2).symm) hk.1
theorem Kx.R_lt (h : Kx d e W base ok v xs) : ∀ k, v.ownBlock = some k → k < W.heap.size := by
 rcases h with h | ⟨A, c, rfl, hc, hf, hb, hz⟩
 · exact Kd.R_lt h
 · exact fun k hk => Nat.lt_of_lt_of_le (hb k hk) hz
theorem Kx.R_grown {row : Option Nat} (h : Kx d e W base ok v xs) (hg : W.grownBy w1 row) (hok : ∀ k, ok k → some k ≠ row) (hb : ∀ k, row = some k → base ≤ k) : Kx d e w1 base ok v xs :=
 h.step (fun h => Kd.R_grown h hg hok) (fun k hk hlt => hg.block k hlt (fun e => by have := hb k e.symm; omega)) hg.size
theorem Kx.R_elderB (h : Kx d e W base ok v xs) (a : Nat) (ha : W.heap.size ≤ a) : Kx d e W base (fun k => ok k ∧ k ≠ a) v xs := h.step (fun h => Kd.R_elderB h a ha) (fun _ _ _ => rfl) (Nat.le_refl _)
theorem Kx.R_apart_nil (h : Kx d e W base ok v xs) : Kx d e W base (fun k => ok k ∧ some k ≠ (Value.slice none 0 0).ownBlock) v xs := h.step (fun h => Kd.R_apart_nil h) (fun _ _ _ => rfl) (Nat.le_refl _)
theorem Kx.R_ne (h : Kx d e W base ok v xs) {g t : Nat} {cells : Array Value} (hb : W.heap[g]? = some (.cells cells t (0, 0))) (ht : e ≠ t) (hg : base ≤ g) : some g ≠ v.ownBlock := by
 rcases h with h | ⟨A, c, rfl, hc, hf, hb2, hz⟩
 · exact Kd.R_ne h hb ht
 · intro e; have := hb2 g e.symm; omega
theorem Kx.R_slice (h : Kx d e W base ok v xs) : ∃ A c, v = .slice A xs.length c := by
 rcases h with h | ⟨A, c, rfl, _⟩
 · exact Kd.R_slice h
 · exact ⟨A, c, rfl⟩
theorem Kx.R_reads' (h : Kx d e W base ok (.slice A n c) xs) : n = xs.length ∧ n ≤ c ∧ d.C W A xs.length xs := by
 rcases h with h | ⟨A', c', e, hc, hf, _, _⟩
 · exact Kd.R_reads' h
 · injection e with e1 e2 e3
   subst e1 e2 e3; exact ⟨rfl, hc, Kd.F_now hf⟩
end
section
variable {α : Type} {d : Kd α} {e base : Nat} {ok : Nat → Prop} {W w1 : World} {u v v1 : Value} {xs : List α}
theorem Kx.R_after (h : Kx d e W base (fun k => ok k ∧ some k ≠ v.ownBlock) u xs) (hg : W.grownBy w1 v.ownBlock) (hat : v1.ownBlock = v.ownBlock ∨ ∃ b, v1.ownBlock = some b ∧ W.heap.size ≤ b) (hb : ∀ k, v.ownBlock = some k → base ≤ k) : Kx d e w1 base (fun k => ok k ∧ some k ≠ v1.ownBlock) u xs :=
 h.step (fun h => Kd.R_after h hg hat) (fun k hk hlt => hg.block k hlt (fun e => by have := hb k e.symm; omega)) hg.size
theorem Kx.R_over' {e' : Nat} (h : Kx d e W base ok u xs) (hty : ∀ k, v.ownBlock = some k → ∃ cells, W.heap[k]? = some (.cells cells e' (0, 0))) (ht : ∀ q, q ∈ e :: d.E → q ≠ e') (hg : W.grownBy w1 v.ownBlock) (hb : ∀ k, v.ownBlock = some k → base ≤ k) : Kx d e w1 base ok u xs :=
 h.step (fun h => Kd.R_over' h hty ht hg) (fun k hk hlt => hg.block k hlt (fun e => by have := hb k e.symm; omega)) hg.size
theorem Kx.R_elder' (h : Kx d e W base ok u xs) (hbase : ∀ k, v.ownBlock = some k → W.heap.size ≤ k) (hb : Below W.heap.size W w1) : Kx d e w1 base (fun k => ok k ∧ some k ≠ v.ownBlock) u xs :=
 h.step (fun h => Kd.R_elder' h hbase hb) (fun k _ hk => hb.block k hk) hb.size
end
end Go.Proofs.Ytbmiifhmgfhidaa.QTriePlays
