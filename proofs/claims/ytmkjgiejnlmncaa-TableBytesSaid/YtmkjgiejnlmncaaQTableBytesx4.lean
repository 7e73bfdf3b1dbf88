-- Lines by a program of this session, for this claim.
import Derived.Test.YtmkjgiejnlmncaaQTableBytesx0
namespace Go.Proofs.Ytmkjgiejnlmncaa.QTableBytes
open Go.RowKit Go.Proofs.YtmkjgiejnlmncaaW.PrintWords Go.Proofs.YtmkjgiejnlmncaaW.PrintLast Go.Proofs.YtmkjgiejnlmncaaW.PrintMore
attribute [local go_sem] max2_int min2_int max_two min_two max_three min_three max_four min_four   -- for this text's walks alone
set_option linter.unusedVariables false
set_option maxRecDepth 100000
set_option maxHeartbeats 8000000
set_option linter.unusedSimpArgs false

-- NOT PRINTED: function 27 (api_Row_27)

def cmpI (a n c m : Int) : Int := if a < c then -1 else if c < a then 1 else if n < m then -1 else if m < n then 1 else 0
theorem cmpI_lt {a n c m : Int} : cmpI a n c m < 0 ↔ a < c ∨ (a = c ∧ n < m) := by
 unfold cmpI
 repeat' split
 all_goals omega
theorem cmpI_eq {a n c m : Int} : cmpI a n c m = 0 ↔ a = c ∧ n = m := by
 unfold cmpI
 repeat' split
 all_goals omega
theorem cmpI_trans {a n c m e o : Int} (h : cmpI a n c m < 0) (h' : cmpI c m e o < 0) : cmpI a n e o < 0 := by
 rw [cmpI_lt] at *; omega
theorem cmpI_gt {a n c m : Int} (h : ¬ cmpI a n c m < 0) (h' : ¬ cmpI a n c m = 0) : cmpI c m a n < 0 := by
 rw [cmpI_lt] at *; rw [cmpI_eq] at h'; omega
def rowPos : List S43 → Int → Int → Nat
 | [], _, _ => 0
 | x :: l, a, n => if cmpI x.f0.f0 x.f0.f1 a n < 0 then rowPos l a n + 1 else 0
def rowHit (l : List S43) (a n : Int) : Bool := decide (rowPos l a n < l.length) && (cmpI (rd_T43 l (rowPos l a n : Int)).f0.f0 (rd_T43 l (rowPos l a n : Int)).f0.f1 a n == 0)
def rowSrt (l : List S43) : Prop := l.Pairwise (fun x y => cmpI x.f0.f0 x.f0.f1 y.f0.f0 y.f0.f1 < 0)
def rowInv (l : List S43) : Prop := rowSrt l ∧ l.length ≤ 256
theorem rd_cast (l : List S43) (j : Nat) (h : j < l.length) : rd_T43 l (j : Int) = l[j] := by
 show l.getD (j : Int).toNat _ = l[j]
 rw [Int.toNat_natCast, List.getD_eq_getElem?_getD, List.getElem?_eq_getElem h]; rfl
theorem rowPos_le : ∀ (l : List S43) (a n : Int), rowPos l a n ≤ l.length
 | [], _, _ => Nat.le_refl _
 | x :: l, a, n => by
  unfold rowPos
  split
  · exact Nat.succ_le_succ (rowPos_le l a n)
  · exact Nat.zero_le _
theorem rowPos_lt : ∀ (l : List S43) (a n : Int), rowSrt l → ∀ (j : Nat) (h : j < l.length), (cmpI (l[j]).f0.f0 (l[j]).f0.f1 a n < 0 ↔ j < rowPos l a n)
 | [], _, _, _, j, h => by simp at h
 | x :: l, a, n, hs, j, h => by
  obtain ⟨h1, h2⟩ := List.pairwise_cons.1 hs
  unfold rowPos
  by_cases hx : cmpI x.f0.f0 x.f0.f1 a n < 0
  · rw [if_pos hx]
    cases j with
    | zero => simpa using hx
    | succ j =>
     rw [List.getElem_cons_succ, rowPos_lt l a n h2 j (by simpa using h)]; omega
  · rw [if_neg hx]
    cases j with
    | zero => simpa using hx
    | succ j =>
     have hj : j < l.length := by simpa using h
     rw [List.getElem_cons_succ]; have := h1 l[j] (List.getElem_mem hj); exact ⟨fun h3 => absurd (cmpI_trans this h3) hx, fun h3 => by omega⟩
theorem rowPos_cv (l : List S43) (a n : Int) (hs : rowSrt l) (j : Nat) (h : j < l.length) : cmpI (rd_T43 l (j : Int)).f0.f0 (rd_T43 l (j : Int)).f0.f1 a n < 0 ↔ j < rowPos l a n := by
 rw [rd_cast l j h]; exact rowPos_lt l a n hs j h
/-- a key that isn't there: below it, what is ahead of its place; above it, what is behind -/
theorem rowIns_srt : ∀ (l : List S43) (x : S43), rowSrt l → rowHit l x.f0.f0 x.f0.f1 = false → rowSrt (l.take (rowPos l x.f0.f0 x.f0.f1) ++ x :: l.drop (rowPos l x.f0.f0 x.f0.f1))
 | [], x, _, _ => by simp [rowSrt, rowPos]
 | y :: l, x, hs, hh => by
  obtain ⟨h1, h2⟩ := List.pairwise_cons.1 hs
  by_cases hy : cmpI y.f0.f0 y.f0.f1 x.f0.f0 x.f0.f1 < 0
  · have e : rowPos (y :: l) x.f0.f0 x.f0.f1 = rowPos l x.f0.f0 x.f0.f1 + 1 := by rw [rowPos, if_pos hy]
    have hh' : rowHit l x.f0.f0 x.f0.f1 = false := by
     rw [← hh]
     unfold rowHit
     rw [e]
     by_cases hl : rowPos l x.f0.f0 x.f0.f1 < l.length
     · have a1 : (((rowPos l x.f0.f0 x.f0.f1 + 1 : Nat) : Int)) = ((rowPos l x.f0.f0 x.f0.f1 + 1 : Nat) : Int) := rfl
       rw [rd_cast l _ hl, rd_cast (y :: l) _ (by simpa using hl), List.getElem_cons_succ]
       simp
     · simp [hl]
    have ih := rowIns_srt l x h2 hh'; rw [e, List.take_succ_cons, List.drop_succ_cons, List.cons_append]; refine List.pairwise_cons.2 ⟨fun z hz => ?_, ih⟩
    rcases List.mem_append.1 hz with hz | hz
    · exact h1 z (List.mem_of_mem_take hz)
    · rcases List.mem_cons.1 hz with rfl | hz
      · exact hy
      · exact h1 z (List.mem_of_mem_drop hz)
  · have e : rowPos (y :: l) x.f0.f0 x.f0.f1 = 0 := by rw [rowPos, if_neg hy]
    have hne : ¬ cmpI y.f0.f0 y.f0.f1 x.f0.f0 x.f0.f1 = 0 := fun h0 => by
     unfold rowHit at hh
     rw [e, rd_cast (y :: l) 0 (by simp)] at hh
     simp [h0] at hh
    have hxy := cmpI_gt hy hne; rw [e]
    exact List.pairwise_cons.2 ⟨fun z hz => by
     rcases List.mem_cons.1 hz with rfl | hz
     · exact hxy
     · exact cmpI_trans hxy (h1 z hz), hs⟩
theorem rowSet_srt (l : List S43) (i : Nat) (y : S43) (hs : rowSrt l) (hi : i < l.length) (ha : y.f0.f0 = (l[i]).f0.f0) (hn : y.f0.f1 = (l[i]).f0.f1) : rowSrt (l.set i y) := by
 unfold rowSrt at *
 rw [List.pairwise_iff_getElem] at *; intro p q hp hq hpq
 have hp' : p < l.length := by simpa using hp
 have hq' : q < l.length := by simpa using hq
 have h := hs p q hp' hq' hpq; rw [List.getElem_set, List.getElem_set]
 by_cases e1 : i = p
 · subst e1; rw [if_pos rfl, if_neg (by omega), ha, hn]; exact h
 · rw [if_neg e1]
   by_cases e2 : i = q
   · subst e2; rw [if_pos rfl, ha, hn]; exact h
   · rw [if_neg e2]; exact h
/-- the struct at block g of W; its row was made since w0 -/
def IsS70 (w0 W : World) (g : Nat) (T : (List S43 × Int × Int)) : Prop := ∃ v, W.heap[g]? = some (.cells #[v, .int .u64 T.2.1, .int .u64 T.2.2] 70 (0, 0)) ∧ w0.heap.size ≤ g ∧ k43.R 43 W w0.heap.size (fun _ => True) v T.1 ∧ rowInv T.1
def Oth (W : World) (k : Nat) : Prop := ∃ cs t, W.heap[k]? = some (.cells cs t (0, 0)) ∧ t ≠ 43 ∧ t ≠ 70
def KeepT (W W' : World) : Prop := W.heap.size ≤ W'.heap.size ∧ ∀ k, Oth W k → W'.heap[k]? = W.heap[k]?
theorem Oth.not {W : World} {k : Nat} (h : Oth W k) {cs : Array Value} {t : TypeId} (hb : W.heap[k]? = some (.cells cs t (0, 0))) : ¬ (t = 43 ∨ t = 70) := by
 obtain ⟨cs', t', h1, h2, h3⟩ := h; rw [h1] at hb
 injection hb with hb
 injection hb with _ e
 subst e
 exact fun h => h.elim h2 h3
theorem IsS70.frame {w0 W W1 : World} {g : Nat} {T : (List S43 × Int × Int)} (h : IsS70 w0 W g T) (hk : ∀ k, k < W.heap.size → ¬ Oth W k → W1.heap[k]? = W.heap[k]?) : IsS70 w0 W1 g T := by
 obtain ⟨v, hb, hg, hR, hi⟩ := h; refine ⟨v, (hk g (blk_lt hb) (fun ho => ho.not hb (.inr rfl))).trans hb, hg, ?_, hi⟩; refine Kd.R_mono (Kd.R_move (Kd.R_bound hR) (fun k hk2 => hk k hk2.2.2.1 (fun ho => ?_))) (fun _ h => h.1); obtain ⟨_, _, _, q, hq, cs, hc⟩ := hk2; have hq' : q = 43 := List.mem_singleton.1 (show q ∈ [43] from hq); subst hq'; exact ho.not hc (.inl rfl)
theorem IsS70.lt {w0 W : World} {g : Nat} {T : (List S43 × Int × Int)} (h : IsS70 w0 W g T) : g < W.heap.size := by
 obtain ⟨v, hb, _⟩ := h; exact blk_lt hb
theorem IsS70.ge {w0 W : World} {g : Nat} {T : (List S43 × Int × Int)} (h : IsS70 w0 W g T) : w0.heap.size ≤ g := by
 obtain ⟨v, _, hg, _⟩ := h; exact hg
theorem IsS70.below {w0 W W1 : World} {g : Nat} {T : (List S43 × Int × Int)} (h : IsS70 w0 W g T) (hb : Below W.heap.size W W1) : IsS70 w0 W1 g T := h.frame (fun k hk _ => hb.block k hk)
theorem IsS70.root {w0 W : World} {g : Nat} {T : (List S43 × Int × Int)} (h : IsS70 w0 W g T) : ∃ cs, W.heap[g]? = some (.cells cs 70 (0, 0)) := by
 obtain ⟨v, hb, _⟩ := h; exact ⟨_, hb⟩
theorem KeepT.refl (w : World) : KeepT w w := ⟨Nat.le_refl _, fun _ _ => rfl⟩
theorem KeepT.trans {w w1 w2 : World} (h : KeepT w w1) (k : KeepT w1 w2) : KeepT w w2 := ⟨Nat.le_trans h.1 k.1, fun i hi => by
 have h1 := h.2 i hi; obtain ⟨cs, t, e, h2, h3⟩ := hi
 exact (k.2 i ⟨cs, t, h1.trans e, h2, h3⟩).trans h1⟩
theorem KeepT.of_below {w w1 : World} (h : Below w.heap.size w w1) : KeepT w w1 := ⟨h.size, fun i hi => by
 obtain ⟨cs, t, e, _⟩ := hi
 exact h.block i (blk_lt e)⟩
theorem KeepT.blk {w w1 : World} (h : KeepT w w1) {g : Nat} {o : Obj} (hb : w.heap[g]? = some o) {cs : Array Value} {t : TypeId} (e : o = .cells cs t (0, 0)) (h1 : t ≠ 43) (h2 : t ≠ 70) : w1.heap[g]? = some o := (h.2 g ⟨cs, t, by rw [hb, e], h1, h2⟩).trans hb
theorem Oth.of_blk {W : World} {k : Nat} {cs : Array Value} {t : TypeId} (h : W.heap[k]? = some (.cells cs t (0, 0))) (h1 : t ≠ 43) (h2 : t ≠ 70) : Oth W k := ⟨cs, t, h, h1, h2⟩
theorem Oth.set {W : World} {k : Nat} (h : Oth W k) {p : Addr} {u : Value} : Oth (W.setCell p u) k := by
 obtain ⟨cs, t, hb, h1, h2⟩ := h
 by_cases e : k = p.block
 · subst e
   by_cases hs : p.spot.isSome = true
   · exact ⟨cs, t, by simp [World.setCell, Array.getElem?_modify, hb, hs], h1, h2⟩
   · exact ⟨cs.setIfInBounds p.off u, t, by simp [World.setCell, Array.getElem?_modify, hb, hs], h1, h2⟩
 · exact ⟨cs, t, (Below.heap_setCell W p u k e).trans hb, h1, h2⟩
theorem Oth.alloc {W : World} {k : Nat} (h : Oth W k) {o : Obj} : Oth (W.alloc o) k := by
 obtain ⟨cs, t, hb, h1, h2⟩ := h; exact ⟨cs, t, blk_alloc hb o, h1, h2⟩
theorem Oth.drewN {W : World} {k m : Nat} (h : Oth W k) : Oth (W.drewN m) k := h
theorem Oth.drew {W : World} {k : Nat} (h : Oth W k) : Oth W.drew k := h
section
variable {w0 W : World} {g : Nat} {T : (List S43 × Int × Int)} {α : Type} {d : Kd α} {e : Nat} {base : Nat} {ok : Nat → Prop} {v : Value} {xs : List α}
theorem IsS70.grown {W1 : World} {row : Option Nat} (h : IsS70 w0 W g T) (hw : W.grownBy W1 row) (hne : ∀ k, row = some k → Oth W k) : IsS70 w0 W1 g T := h.frame (fun k hk hn => hw.block k hk (fun e => hn (hne k e.symm)))
theorem IsS70.off (ho : d.R e W base ok v xs) (ht : e ≠ 43 ∧ e ≠ 70) : ∀ k, v.ownBlock = some k → Oth W k := fun k hk => by
 obtain ⟨cs, hc⟩ := Kd.R_typed ho k hk; exact ⟨cs, e, hc, ht.1, ht.2⟩
theorem IsS70.own_ne (h : IsS70 w0 W g T) (ho : d.R e W base ok v xs) (ht : e ≠ 70) : some g ≠ v.ownBlock := by
 obtain ⟨cs, hb⟩ := h.root; exact Kd.R_ne ho hb ht
theorem IsS70.own_neQ (h : IsS70 w0 W g T) (ho : d.Q e W base ok v xs) (ht : e ≠ 70) : some g ≠ v.ownBlock := by
 obtain ⟨cs, hb⟩ := h.root; exact Kd.Q_ne ho hb ht
theorem IsS70.fresh (h : IsS70 w0 W g T) : ∀ k, W.heap.size ≤ k → k ≠ g := fun k hk => by have := h.lt; omega
theorem IsS70.alloc (h : IsS70 w0 W g T) (o : Obj) : IsS70 w0 (W.alloc o) g T := h.below (below_alloc (Below.refl _ _) o)
theorem IsS70.drewN (h : IsS70 w0 W g T) (m : Nat) : IsS70 w0 (W.drewN m) g T := h.frame (fun _ _ _ => rfl)
theorem IsS70.drew (h : IsS70 w0 W g T) : IsS70 w0 W.drew g T := h.frame (fun _ _ _ => rfl)
theorem IsS70.at_ {w' : World} {m : Nat} (hq : W.drewN m = w') (h : IsS70 w0 W g T) : IsS70 w0 w' g T := by subst hq; exact IsS70.drewN h m
theorem IsS70.apart (h : IsS70 w0 W g T) (ho : d.R e W base ok v xs) (ht : ∀ q, q ∈ e :: d.E → q ≠ 70) : d.R e W base (fun k => ok k ∧ k ≠ g) v xs := by
 obtain ⟨cs, hb⟩ := h.root; exact Kd.R_types ho hb ht
theorem IsS70.apartQ (h : IsS70 w0 W g T) (ho : d.Q e W base ok v xs) (ht : ∀ q, q ∈ e :: d.E → q ≠ 70) : d.Q e W base (fun k => ok k ∧ k ≠ g) v xs := by
 obtain ⟨cs, hb⟩ := h.root; exact Kd.Q_types ho hb ht
theorem IsS70.ne_blk {a : Nat} {cs : Array Value} {t : TypeId} {fr : Nat × Nat} (h : IsS70 w0 W g T) (hb2 : W.heap[a]? = some (.cells cs t fr)) (ht : t ≠ 70) : g ≠ a := by
 obtain ⟨cs', hb⟩ := h.root; rintro rfl; rw [hb] at hb2
 injection hb2 with hb2
 injection hb2 with _ ht2
 exact ht ht2.symm
theorem IsS70.far {p : Addr} (h : IsS70 w0 W g T) (ho : Oth W p.block) (u : Value) : IsS70 w0 (W.setCell p u) g T := h.frame (fun k _ hn => Below.heap_setCell W p u k (fun e => hn (by rw [e]; exact ho)))
theorem IsS70.mk0 (hb : W.heap[g]? = some (.cells #[.slice none 0 0, .int .u64 0, .int .u64 0] 70 (0, 0))) (hg : w0.heap.size ≤ g) : IsS70 w0 W g (([] : List S43), 0, 0) :=
 ⟨_, hb, hg, Kd.R_nil _ _ _ _ _, List.Pairwise.nil, Nat.zero_le _⟩
theorem Kd.R_keepT {w w1 : World} (h : d.R e w base ok v xs) (hk : KeepT w w1) (ht : ∀ q, q ∈ e :: d.E → q ≠ 43 ∧ q ≠ 70) : d.R e w1 base ok v xs :=
 Kd.R_mono (Kd.R_move (Kd.R_bound h) (fun k hk2 => hk.2 k (by
  obtain ⟨_, _, _, q, hq, cs, hc⟩ := hk2
  exact ⟨cs, q, hc, (ht q hq).1, (ht q hq).2⟩))) (fun _ h => h.1)
theorem Kd.R_oldT {w w1 : World} (h : d.R e w base ok v xs) (hk : KeepT w w1) (ht : ∀ q, q ∈ e :: d.E → q ≠ 43 ∧ q ≠ 70) : d.R e w1 base (fun k => ok k ∧ k < w.heap.size) v xs :=
 Kd.R_mono (Kd.R_move (Kd.R_bound h) (fun k hk2 => hk.2 k (by
  obtain ⟨_, _, _, q, hq, cs, hc⟩ := hk2
  exact ⟨cs, q, hc, (ht q hq).1, (ht q hq).2⟩))) (fun _ h => ⟨h.1, h.2.2.1⟩)
theorem Kd.R_oldB {w w1 : World} (h : d.R e w base ok v xs) (hk : Below w.heap.size w w1) : d.R e w1 base (fun k => ok k ∧ k < w.heap.size) v xs :=
 Kd.R_mono (Kd.R_move (Kd.R_bound h) (fun k hk2 => hk.block k hk2.2.2.1)) (fun _ h => ⟨h.1, h.2.2.1⟩)
end

/-! ### table_Table_Rows: function 14 -/
theorem table_Table_Rows.clone (A : Option Addr) (c : Nat) (l : List S43) (w : World) (hC : Kd.C k43 w A l.length l) (hn : A = none → l = []) (hl : l.length ≤ 1000) :
 Calls Try.prog 27 #[.slice A l.length c] w fun e w' => ∃ v0_ : Value, e = .returned v0_ ∧ Kd.R k43 43 w' w.heap.size (fun _ => True) v0_ l ∧ Below w.heap.size w w' := by
 have hu43 := Try.underlying43; have HC := Ad hC
 have heq := fun (W : World) (n c n' c' : Nat) => Lib.run_eql_slice_nil (P := Try.prog) W 48 43 A n c n' c' Try.underlying48
 clear hC
 cases A with
 | none =>
  have hz := hn rfl; subst hz; clear hn HC
  go_enter Try.func27, Try.ntmps27
  go_wp2_with (fail)
  go_ret; exact ⟨.slice none 0 0, rfl, Kd.R_nil _ _ _ _ _, Below.refl _ _⟩
 | some ad =>
  clear hn
  go_enter Try.func27, Try.ntmps27
  go_wp2_with (first | ((with_reducible refine gate_dst (N := 5) rfl ?_); refine Kd.R_lit k43 (w0 := w) w.heap.size 43 ?hg (N := 5) ?hd (xs := ([] : List S43)) (inner := []) (ok := fun _ => True) (okp := fun _ => False) ?hr ?hp (fun _ hk => hk.elim) trivial (Below.refl _ _) (Nat.le_refl _) (by simp) ?_; (case hd => rfl); (case hg => rfl); (case hr => first | (go_simp; done)); (case hp => exact Reps.none _ _); intro v5 w5 hR5 hB5 hG5 _; obtain ⟨A5, c5, e5, hl5, _⟩ := Kd.R_reads hR5; subst e5; have HR5 := Ad hR5; have HB5 := Ad hB5; clear hR5 hB5 hG5 hl5) | ((with_reducible refine gate_builtin (b := .append) (xs := #[.tmp 5, .tmp 6]) rfl ?_); at_builtin; refine Kd.R_append_rows k43 (w0 := w) w.heap.size rfl (.tmp 5) (.tmp 6) 48 43 (.agg #[.int .u32 0, .int .u8 0, .bool false, .int .u32 0, .int .u8 0, .int .i64 0, .int .u16 0, .int .u16 0, .int .u16 0, .int .u16 0]) 48 rfl Try.underlying48 (by kernel_rfl) rfl (by decide) (by omega) (.slice A5 0 c5) [] l (some ad) l.length c (fun _ => True) (fun _ => False) rfl rfl HR5.out (Kd.C_below HC.out HB5.out) (fun x cs hk => by rw [k43_open hk]; exact k43_mkM _ _ _ x) (fun _ h => h.elim) (fun _ _ => trivial) HB5.out HB5.out.size (by simp only [List.length_nil]; omega) ?_; intro v1 w1 hR1 hB1 hG1 _))
  all_goals
   go_ret; exact ⟨v1, rfl, hR1, hB1⟩
def table_Table_Rows.f (T : (List S43 × Int × Int)) : Option (List S43 × (List S43 × Int × Int)) := some (T.1, T)
theorem table_Table_Rows.calls (g : Nat) (T : (List S43 × Int × Int)) (r1 : List S43) (r2 : (List S43 × Int × Int)) (w0 w : World) (hI : IsS70 w0 w g T) (hB : Below w0.heap.size w0 w) (h : table_Table_Rows.f T = some (r1, r2)) :
 Calls Try.prog 14 #[.pointer (some ⟨g, 0, none⟩)] w fun e w' => ∃ v0_ : Value, e = .returned (v0_) ∧ Kd.R k43 43 w' w.heap.size (fun _ => True) v0_ r1 ∧ IsS70 w0 w' g r2 ∧ Below w0.heap.size w0 w' ∧ Below w.heap.size w w' := by
 have hu70 := Try.underlying70
 unfold table_Table_Rows.f at h
 simp only [Option.some.injEq, Prod.mk.injEq] at h
 obtain ⟨rfl, rfl⟩ := h; refine Calls.mono (R := fun e w' => ∃ v0_ : Value, e = .returned (v0_) ∧ Kd.R k43 43 w' w.heap.size (fun _ => True) v0_ T.1 ∧ Below w.heap.size w w') ?_ (fun e w' ⟨v0_, h1, h2, h3⟩ => ⟨v0_, h1, h2, hI.below h3, below_step hB h3, h3⟩); clear hB; obtain ⟨v, hg, _, hR, hs, hl⟩ := hI
 have hnil : ∀ c, v = .slice none T.1.length c → T.1 = [] := fun c e => by
  by_cases hp : 0 < T.1.length
  · obtain ⟨g2, cp, e2, _⟩ := Kd.R_form hR hp
    rw [e2] at e
    injection e with e _ _
    cases e
  · exact List.length_eq_zero_iff.1 (by omega)
 obtain ⟨A, c, rfl, _, hC⟩ := Kd.R_reads hR
 have hnil2 : A = none → T.1 = [] := fun e => hnil c (by rw [e])
 have HC := Ad hC; have t0 : w.cell? ⟨g, 0, none⟩ = some (.slice A T.1.length c) := (blk_cell hg 0).trans rfl; clear hC hg hR hnil
 go_enter Try.func14, Try.ntmps14
 go_wp2_with (fail)
 refine (table_Table_Rows.clone A c T.1 _ HC.out hnil2 (by omega)).mono ?_; rintro e w1 ⟨v1, rfl, hr1, hb1⟩; have HR1 := Ad hr1; have HB1 := Ad hb1; clear hr1 hb1
 go_wp2_with (fail)
 go_ret; exact ⟨v1, rfl, HR1.out, HB1.out⟩

/-! ### table_Table_Routes: function 17 -/
def table_Table_Routes.acc (l : List S43) : List S36 := (l.filter (fun x => x.f1)).map (fun x => x.f2)
theorem table_Table_Routes.acc_yes (l : List S43) (j : Nat) (h : j < l.length) (hf : (rd_T43 l (j : Int)).f1 = true) : table_Table_Routes.acc (l.take (j + 1)) = table_Table_Routes.acc (l.take j) ++ [(rd_T43 l (j : Int)).f2] := by
 rw [rd_cast l j h] at hf ⊢; rw [List.take_succ_eq_append_getElem h]
 unfold table_Table_Routes.acc
 rw [List.filter_append, List.map_append, List.filter_cons, if_pos hf]; rfl
theorem table_Table_Routes.acc_no (l : List S43) (j : Nat) (h : j < l.length) (hf : (rd_T43 l (j : Int)).f1 = false) : table_Table_Routes.acc (l.take (j + 1)) = table_Table_Routes.acc (l.take j) := by
 rw [rd_cast l j h] at hf; rw [List.take_succ_eq_append_getElem h]
 unfold table_Table_Routes.acc
 rw [List.filter_append, List.map_append, List.filter_cons, if_neg (by rw [hf]; simp)]
 simp
theorem table_Table_Routes.acc_len (l : List S43) : (table_Table_Routes.acc l).length ≤ l.length := by
 unfold table_Table_Routes.acc
 rw [List.length_map]; exact List.length_filter_le _ _
def table_Table_Routes.f (T : (List S43 × Int × Int)) : Option (List S36 × (List S43 × Int × Int)) := some (table_Table_Routes.acc T.1, T)
theorem table_Table_Routes.calls (g : Nat) (T : (List S43 × Int × Int)) (r1 : List S36) (r2 : (List S43 × Int × Int)) (w0 w : World) (hI : IsS70 w0 w g T) (hB : Below w0.heap.size w0 w) (h : table_Table_Routes.f T = some (r1, r2)) :
 Calls Try.prog 17 #[.pointer (some ⟨g, 0, none⟩)] w fun e w' => ∃ v0_ : Value, e = .returned (v0_) ∧ Kd.R k36 36 w' w.heap.size (fun _ => True) v0_ r1 ∧ IsS70 w0 w' g r2 ∧ Below w0.heap.size w0 w' ∧ Below w.heap.size w w' := by
 have hu33 := Try.underlying33; have hu43 := Try.underlying43; have hu36 := Try.underlying36; have hu41 := Try.underlying41; have hu70 := Try.underlying70
 unfold table_Table_Routes.f at h
 simp only [Option.some.injEq, Prod.mk.injEq] at h
 obtain ⟨rfl, rfl⟩ := h; refine Calls.mono (R := fun e w' => ∃ v0_ : Value, e = .returned (v0_) ∧ Kd.R k36 36 w' w.heap.size (fun _ => True) v0_ (table_Table_Routes.acc T.1) ∧ Below w.heap.size w w') ?_ (fun e w' ⟨v0_, h1, h2, h3⟩ => ⟨v0_, h1, h2, hI.below h3, below_step hB h3, h3⟩)
 have hlen : T.1.length ≤ 256 := by obtain ⟨_, _, _, _, _, hl⟩ := hI; exact hl
 have HI := Ad hI; have HB := Ad hB; clear hI hB
 go_enter Try.func17, Try.ntmps17
 go_wp2_with (fail)
 refine (table_Table_Rows.calls g T T.1 T w0 w HI.out HB.out rfl).mono ?_; rintro e w1 ⟨v1, rfl, hr1, _, _, hb1⟩; obtain ⟨A1, c1, rfl, hl1, hC1⟩ := Kd.R_reads hr1; have HC1 := Ad hC1; have HB1 := Ad hb1; clear hr1 hC1 hb1 HI HB
 go_wp2_with (fail)
 go_loopg [3, 9] T.1.length (fun kx s3 s9 wr => ∃ (j : Nat) (v : Value), s3 = v ∧ s9 = .int .i64 j ∧ j ≤ T.1.length ∧ T.1.length - j ≤ kx ∧ Aside0 (k36.R 36 wr w1.heap.size (fun _ => True) v (table_Table_Routes.acc (T.1.take j))) ∧ Aside0 (Below w1.heap.size w1 wr))
 case atStart => exact ⟨0, _, rfl, rfl, Nat.zero_le _, Nat.le_refl _, ⟨by rw [List.take_zero]; exact Kd.R_nil _ _ _ _ _⟩, ⟨Below.refl _ _⟩⟩
 case round =>
  obtain ⟨j, v, e3, rfl, hj, hgas, HRV, HBW⟩ := hrel; have e3' := e3.symm; clear e3; subst e3'
  by_cases hlt : j < T.1.length
  · have p1 : decide ((j : Int) < (T.1.length : Int)) = true := decide_eq_true (by omega)
    have p2 : decide (0 ≤ (j : Int)) = true := decide_eq_true (by omega); have hacc := table_Table_Routes.acc_len (T.1.take j); rw [List.length_take] at hacc; obtain ⟨ad, e0, hx0, hx1, hx2, hx3, hx4, hx5, hx6, hx7, hx8, hx9⟩ := at_T43 (Kd.C_below HC1.out HBW.out) (j : Int) (by omega) (by omega); cases e0
    simp only [Int.toNat_natCast] at hx0 hx1 hx2 hx3 hx4 hx5 hx6 hx7 hx8 hx9
    go_upto_region 5 with ((with_reducible refine gate_dst (N := 5) rfl ?_); (try (refine gate_guard (by rfl) ?_; dsimp only)); refine box_event ?hg (N := 5) ?hd (cs := #[.int .u32 0, .int .u8 0, .bool false, .int .u32 0, .int .u8 0, .int .i64 0, .int .u16 0, .int .u16 0, .int .u16 0, .int .u16 0]) (t := 43) ?hr ?_; (case hd => rfl); (case hg => rfl); (case hr => first | (go_simp; done)); intro g5 hg w5 hbox hb; have BK := Ad hbox; have GE := Ad (Nat.le_of_eq hg.symm); have HB5 := Ad hb; clear hb hbox hg; have z0 : w5.cell? ⟨g5, 0, none⟩ = some (.int .u32 0) := (blk_cell BK.out 0).trans rfl; have z1 : w5.cell? ⟨g5, 1, none⟩ = some (.int .u8 0) := (blk_cell BK.out 1).trans rfl; have z2 : w5.cell? ⟨g5, 2, none⟩ = some (.bool false) := (blk_cell BK.out 2).trans rfl; have z3 : w5.cell? ⟨g5, 3, none⟩ = some (.int .u32 0) := (blk_cell BK.out 3).trans rfl; have z4 : w5.cell? ⟨g5, 4, none⟩ = some (.int .u8 0) := (blk_cell BK.out 4).trans rfl; have z5 : w5.cell? ⟨g5, 5, none⟩ = some (.int .i64 0) := (blk_cell BK.out 5).trans rfl; have z6 : w5.cell? ⟨g5, 6, none⟩ = some (.int .u16 0) := (blk_cell BK.out 6).trans rfl; have z7 : w5.cell? ⟨g5, 7, none⟩ = some (.int .u16 0) := (blk_cell BK.out 7).trans rfl; have z8 : w5.cell? ⟨g5, 8, none⟩ = some (.int .u16 0) := (blk_cell BK.out 8).trans rfl; have z9 : w5.cell? ⟨g5, 9, none⟩ = some (.int .u16 0) := (blk_cell BK.out 9).trans rfl; have y0 := blk_frozen BK.out 0; have y1 := blk_frozen BK.out 1; have y2 := blk_frozen BK.out 2; have y3 := blk_frozen BK.out 3; have y4 := blk_frozen BK.out 4; have y5 := blk_frozen BK.out 5; have y6 := blk_frozen BK.out 6; have y7 := blk_frozen BK.out 7; have y8 := blk_frozen BK.out 8; have y9 := blk_frozen BK.out 9)
    obtain ⟨W, hW⟩ : ∃ W : World, W = ((((((((((w5.setCell ⟨g5, 0, none⟩ (.int .u32 (rd_T43 T.1 (j : Int)).f0.f0)).setCell ⟨g5, 1, none⟩ (.int .u8 (rd_T43 T.1 (j : Int)).f0.f1)).setCell ⟨g5, 2, none⟩ (.bool (rd_T43 T.1 (j : Int)).f1)).setCell ⟨g5, 3, none⟩ (.int .u32 (rd_T43 T.1 (j : Int)).f2.f0.f0)).setCell ⟨g5, 4, none⟩ (.int .u8 (rd_T43 T.1 (j : Int)).f2.f0.f1)).setCell ⟨g5, 5, none⟩ (.int .i64 (rd_T43 T.1 (j : Int)).f2.f1)).setCell ⟨g5, 6, none⟩ (.int .u16 (rd_T43 T.1 (j : Int)).f2.f2)).setCell ⟨g5, 7, none⟩ (.int .u16 (rd_T43 T.1 (j : Int)).f2.f3)).setCell ⟨g5, 8, none⟩ (.int .u16 (rd_T43 T.1 (j : Int)).f3.f0)).setCell ⟨g5, 9, none⟩ (.int .u16 (rd_T43 T.1 (j : Int)).f3.f1)) := ⟨_, rfl⟩
    rw [← hW]; have n1 := BK.out; have n2 := blk_put (cs' := #[.int .u32 (rd_T43 T.1 (j : Int)).f0.f0, .int .u8 0, .bool false, .int .u32 0, .int .u8 0, .int .i64 0, .int .u16 0, .int .u16 0, .int .u16 0, .int .u16 0]) n1 0 (.int .u32 (rd_T43 T.1 (j : Int)).f0.f0) rfl; have n3 := blk_put (cs' := #[.int .u32 (rd_T43 T.1 (j : Int)).f0.f0, .int .u8 (rd_T43 T.1 (j : Int)).f0.f1, .bool false, .int .u32 0, .int .u8 0, .int .i64 0, .int .u16 0, .int .u16 0, .int .u16 0, .int .u16 0]) n2 1 (.int .u8 (rd_T43 T.1 (j : Int)).f0.f1) rfl; have n4 := blk_put (cs' := #[.int .u32 (rd_T43 T.1 (j : Int)).f0.f0, .int .u8 (rd_T43 T.1 (j : Int)).f0.f1, .bool (rd_T43 T.1 (j : Int)).f1, .int .u32 0, .int .u8 0, .int .i64 0, .int .u16 0, .int .u16 0, .int .u16 0, .int .u16 0]) n3 2 (.bool (rd_T43 T.1 (j : Int)).f1) rfl; have n5 := blk_put (cs' := #[.int .u32 (rd_T43 T.1 (j : Int)).f0.f0, .int .u8 (rd_T43 T.1 (j : Int)).f0.f1, .bool (rd_T43 T.1 (j : Int)).f1, .int .u32 (rd_T43 T.1 (j : Int)).f2.f0.f0, .int .u8 0, .int .i64 0, .int .u16 0, .int .u16 0, .int .u16 0, .int .u16 0]) n4 3 (.int .u32 (rd_T43 T.1 (j : Int)).f2.f0.f0) rfl; have n6 := blk_put (cs' := #[.int .u32 (rd_T43 T.1 (j : Int)).f0.f0, .int .u8 (rd_T43 T.1 (j : Int)).f0.f1, .bool (rd_T43 T.1 (j : Int)).f1, .int .u32 (rd_T43 T.1 (j : Int)).f2.f0.f0, .int .u8 (rd_T43 T.1 (j : Int)).f2.f0.f1, .int .i64 0, .int .u16 0, .int .u16 0, .int .u16 0, .int .u16 0]) n5 4 (.int .u8 (rd_T43 T.1 (j : Int)).f2.f0.f1) rfl; have n7 := blk_put (cs' := #[.int .u32 (rd_T43 T.1 (j : Int)).f0.f0, .int .u8 (rd_T43 T.1 (j : Int)).f0.f1, .bool (rd_T43 T.1 (j : Int)).f1, .int .u32 (rd_T43 T.1 (j : Int)).f2.f0.f0, .int .u8 (rd_T43 T.1 (j : Int)).f2.f0.f1, .int .i64 (rd_T43 T.1 (j : Int)).f2.f1, .int .u16 0, .int .u16 0, .int .u16 0, .int .u16 0]) n6 5 (.int .i64 (rd_T43 T.1 (j : Int)).f2.f1) rfl; have n8 := blk_put (cs' := #[.int .u32 (rd_T43 T.1 (j : Int)).f0.f0, .int .u8 (rd_T43 T.1 (j : Int)).f0.f1, .bool (rd_T43 T.1 (j : Int)).f1, .int .u32 (rd_T43 T.1 (j : Int)).f2.f0.f0, .int .u8 (rd_T43 T.1 (j : Int)).f2.f0.f1, .int .i64 (rd_T43 T.1 (j : Int)).f2.f1, .int .u16 (rd_T43 T.1 (j : Int)).f2.f2, .int .u16 0, .int .u16 0, .int .u16 0]) n7 6 (.int .u16 (rd_T43 T.1 (j : Int)).f2.f2) rfl; have n9 := blk_put (cs' := #[.int .u32 (rd_T43 T.1 (j : Int)).f0.f0, .int .u8 (rd_T43 T.1 (j : Int)).f0.f1, .bool (rd_T43 T.1 (j : Int)).f1, .int .u32 (rd_T43 T.1 (j : Int)).f2.f0.f0, .int .u8 (rd_T43 T.1 (j : Int)).f2.f0.f1, .int .i64 (rd_T43 T.1 (j : Int)).f2.f1, .int .u16 (rd_T43 T.1 (j : Int)).f2.f2, .int .u16 (rd_T43 T.1 (j : Int)).f2.f3, .int .u16 0, .int .u16 0]) n8 7 (.int .u16 (rd_T43 T.1 (j : Int)).f2.f3) rfl; have n10 := blk_put (cs' := #[.int .u32 (rd_T43 T.1 (j : Int)).f0.f0, .int .u8 (rd_T43 T.1 (j : Int)).f0.f1, .bool (rd_T43 T.1 (j : Int)).f1, .int .u32 (rd_T43 T.1 (j : Int)).f2.f0.f0, .int .u8 (rd_T43 T.1 (j : Int)).f2.f0.f1, .int .i64 (rd_T43 T.1 (j : Int)).f2.f1, .int .u16 (rd_T43 T.1 (j : Int)).f2.f2, .int .u16 (rd_T43 T.1 (j : Int)).f2.f3, .int .u16 (rd_T43 T.1 (j : Int)).f3.f0, .int .u16 0]) n9 8 (.int .u16 (rd_T43 T.1 (j : Int)).f3.f0) rfl; have n11 := blk_put (cs' := #[.int .u32 (rd_T43 T.1 (j : Int)).f0.f0, .int .u8 (rd_T43 T.1 (j : Int)).f0.f1, .bool (rd_T43 T.1 (j : Int)).f1, .int .u32 (rd_T43 T.1 (j : Int)).f2.f0.f0, .int .u8 (rd_T43 T.1 (j : Int)).f2.f0.f1, .int .i64 (rd_T43 T.1 (j : Int)).f2.f1, .int .u16 (rd_T43 T.1 (j : Int)).f2.f2, .int .u16 (rd_T43 T.1 (j : Int)).f2.f3, .int .u16 (rd_T43 T.1 (j : Int)).f3.f0, .int .u16 (rd_T43 T.1 (j : Int)).f3.f1]) n10 9 (.int .u16 (rd_T43 T.1 (j : Int)).f3.f1) rfl; have BKW := Ad (show W.heap[g5]? = some (.cells #[.int .u32 (rd_T43 T.1 (j : Int)).f0.f0, .int .u8 (rd_T43 T.1 (j : Int)).f0.f1, .bool (rd_T43 T.1 (j : Int)).f1, .int .u32 (rd_T43 T.1 (j : Int)).f2.f0.f0, .int .u8 (rd_T43 T.1 (j : Int)).f2.f0.f1, .int .i64 (rd_T43 T.1 (j : Int)).f2.f1, .int .u16 (rd_T43 T.1 (j : Int)).f2.f2, .int .u16 (rd_T43 T.1 (j : Int)).f2.f3, .int .u16 (rd_T43 T.1 (j : Int)).f3.f0, .int .u16 (rd_T43 T.1 (j : Int)).f3.f1] 43 (0, 0)) from by rw [hW]; exact n11)
    have hbf : Below wr.heap.size wr W := by rw [hW]; exact (below_set (below_set (below_set (below_set (below_set (below_set (below_set (below_set (below_set (below_set (HB5.out) GE.out) GE.out) GE.out) GE.out) GE.out) GE.out) GE.out) GE.out) GE.out) GE.out)
    have HBW2 := Ad (below_step HBW.out hbf); have HRV2 := Ad (Kd.R_below HRV.out hbf); clear n1 n2 n3 n4 n5 n6 n7 n8 n9 n10 n11 hbf hW z0 z1 z2 z3 z4 z5 z6 z7 z8 z9 y0 y1 y2 y3 y4 y5 y6 y7 y8 y9 hx0 hx1 hx2 hx3 hx4 hx5 hx6 hx7 hx8 hx9 BK HB5 HRV HBW GE
    by_cases hf : (rd_T43 T.1 (j : Int)).f1 = true
    · have HF := Ad (table_Table_Routes.acc_yes T.1 j hlt hf)
      have z0 : W.cell? ⟨g5, 0, none⟩ = some (.int .u32 (rd_T43 T.1 (j : Int)).f0.f0) := (blk_cell BKW.out 0).trans rfl; have z1 : W.cell? ⟨g5, 1, none⟩ = some (.int .u8 (rd_T43 T.1 (j : Int)).f0.f1) := (blk_cell BKW.out 1).trans rfl; have z2 : W.cell? ⟨g5, 2, none⟩ = some (.bool (rd_T43 T.1 (j : Int)).f1) := (blk_cell BKW.out 2).trans rfl; have z3 : W.cell? ⟨g5, 3, none⟩ = some (.int .u32 (rd_T43 T.1 (j : Int)).f2.f0.f0) := (blk_cell BKW.out 3).trans rfl; have z4 : W.cell? ⟨g5, 4, none⟩ = some (.int .u8 (rd_T43 T.1 (j : Int)).f2.f0.f1) := (blk_cell BKW.out 4).trans rfl; have z5 : W.cell? ⟨g5, 5, none⟩ = some (.int .i64 (rd_T43 T.1 (j : Int)).f2.f1) := (blk_cell BKW.out 5).trans rfl; have z6 : W.cell? ⟨g5, 6, none⟩ = some (.int .u16 (rd_T43 T.1 (j : Int)).f2.f2) := (blk_cell BKW.out 6).trans rfl; have z7 : W.cell? ⟨g5, 7, none⟩ = some (.int .u16 (rd_T43 T.1 (j : Int)).f2.f3) := (blk_cell BKW.out 7).trans rfl; have z8 : W.cell? ⟨g5, 8, none⟩ = some (.int .u16 (rd_T43 T.1 (j : Int)).f3.f0) := (blk_cell BKW.out 8).trans rfl; have z9 : W.cell? ⟨g5, 9, none⟩ = some (.int .u16 (rd_T43 T.1 (j : Int)).f3.f1) := (blk_cell BKW.out 9).trans rfl
      rw [hf] at z2; clear hf
      go_wp2_with ((with_reducible refine gate_builtin (b := .append) (xs := #[.tmp 15, .tmp 18]) rfl ?_); at_builtin; refine Kd.R_append k36 (w0 := w1) w1.heap.size rfl (.tmp 15) (.tmp 18) 52 36 (.agg #[(.int .u32 0), (.int .u8 0), (.int .i64 0), (.int .u16 0), (.int .u16 0)]) 24 rfl Try.underlying52 (by kernel_rfl) rfl (by decide) (by omega) v (table_Table_Routes.acc (T.1.take j)) (⟨(⟨(rd_T43 T.1 (j : Int)).f2.f0.f0, (rd_T43 T.1 (j : Int)).f2.f0.f1⟩ : S33), (rd_T43 T.1 (j : Int)).f2.f1, (rd_T43 T.1 (j : Int)).f2.f2, (rd_T43 T.1 (j : Int)).f2.f3⟩ : S36) [.int .u32 (rd_T43 T.1 (j : Int)).f2.f0.f0, .int .u8 (rd_T43 T.1 (j : Int)).f2.f0.f1, .int .i64 (rd_T43 T.1 (j : Int)).f2.f1, .int .u16 (rd_T43 T.1 (j : Int)).f2.f2, .int .u16 (rd_T43 T.1 (j : Int)).f2.f3] (fun _ => True) (fun _ => False) rfl rfl ?aP (fun _ hk => hk.elim) ?aF ?aO ?aB ?aS ?aL ?_; (case aP => exact k36_mkM _ _ _ (⟨(⟨(rd_T43 T.1 (j : Int)).f2.f0.f0, (rd_T43 T.1 (j : Int)).f2.f0.f1⟩ : S33), (rd_T43 T.1 (j : Int)).f2.f1, (rd_T43 T.1 (j : Int)).f2.f2, (rd_T43 T.1 (j : Int)).f2.f3⟩ : S36)); (case aB => exact (by repeat (first | (with_reducible first | exact HBW2.out | apply below_drew1)))); (case aF => exact (fun _ _ => trivial)); (case aO => exact (by exact HRV2.out)); (case aS => exact (below_size (by repeat (first | (with_reducible first | exact HBW2.out | apply below_drew1))))); (case aL => omega); intro v2 w9 ho hb hg hat; have HO9 := Ad ho; have HB9 := Ad hb; clear ho hb hg hat)
      clear z0 z1 z2 z3 z4 z5 z6 z7 z8 z9
      go_roundg (T.1.length - (j + 1))
      case measure => omega
      case rel => exact ⟨j + 1, v2, rfl, by go_num, by omega, Nat.le_refl _, ⟨by rw [HF.out]; exact HO9.out⟩, HB9⟩
    · have hf' : (rd_T43 T.1 (j : Int)).f1 = false := by simpa using hf
      have HF := Ad (table_Table_Routes.acc_no T.1 j hlt hf')
      have z0 : W.cell? ⟨g5, 0, none⟩ = some (.int .u32 (rd_T43 T.1 (j : Int)).f0.f0) := (blk_cell BKW.out 0).trans rfl; have z1 : W.cell? ⟨g5, 1, none⟩ = some (.int .u8 (rd_T43 T.1 (j : Int)).f0.f1) := (blk_cell BKW.out 1).trans rfl; have z2 : W.cell? ⟨g5, 2, none⟩ = some (.bool (rd_T43 T.1 (j : Int)).f1) := (blk_cell BKW.out 2).trans rfl; have z3 : W.cell? ⟨g5, 3, none⟩ = some (.int .u32 (rd_T43 T.1 (j : Int)).f2.f0.f0) := (blk_cell BKW.out 3).trans rfl; have z4 : W.cell? ⟨g5, 4, none⟩ = some (.int .u8 (rd_T43 T.1 (j : Int)).f2.f0.f1) := (blk_cell BKW.out 4).trans rfl; have z5 : W.cell? ⟨g5, 5, none⟩ = some (.int .i64 (rd_T43 T.1 (j : Int)).f2.f1) := (blk_cell BKW.out 5).trans rfl; have z6 : W.cell? ⟨g5, 6, none⟩ = some (.int .u16 (rd_T43 T.1 (j : Int)).f2.f2) := (blk_cell BKW.out 6).trans rfl; have z7 : W.cell? ⟨g5, 7, none⟩ = some (.int .u16 (rd_T43 T.1 (j : Int)).f2.f3) := (blk_cell BKW.out 7).trans rfl; have z8 : W.cell? ⟨g5, 8, none⟩ = some (.int .u16 (rd_T43 T.1 (j : Int)).f3.f0) := (blk_cell BKW.out 8).trans rfl; have z9 : W.cell? ⟨g5, 9, none⟩ = some (.int .u16 (rd_T43 T.1 (j : Int)).f3.f1) := (blk_cell BKW.out 9).trans rfl
      rw [hf'] at z2; clear hf hf'
      go_wp2_with (fail)
      clear z0 z1 z2 z3 z4 z5 z6 z7 z8 z9
      go_roundg (T.1.length - (j + 1))
      case measure => omega
      case rel => exact ⟨j + 1, v, rfl, by go_num, by omega, Nat.le_refl _, ⟨by rw [HF.out]; exact HRV2.out⟩, HBW2⟩
  · have p1 : decide ((j : Int) < (T.1.length : Int)) = false := decide_eq_false (by omega)
    obtain rfl : j = T.1.length := by omega
    go_wp2_with (fail)
    go_ret; exact ⟨v, rfl, by have := Kd.R_lower HRV.out HB1.out.size; rwa [List.take_length] at this, below_step HB1.out HBW.out⟩

/-! ### cmp_Or_int: function 47 -/
def cmp_Or_int.l0 : Nat → Int → List Int → Int → Int → Option (Int)
 | 0, _, _, _, _ => none
 | k + 1, x3, x6, x7, x8 => if x8 < x7 then (if 0 ≤ x8 then (if x8 < (x6.length : Int) then (if (rd x6 x8) = x3 then (cmp_Or_int.l0 k x3 x6 x7 (wrap64 (x8 + 1))) else (some (rd x6 x8))) else (none)) else (none)) else (some x3)
def cmp_Or_int.f (k : Nat) (l0 : List Int) : Option (Int) := cmp_Or_int.l0 k 0 l0 (l0.length : Int) 0
theorem cmp_Or_int.mono_l : ∀ k, (∀ y0 y1 y2 y3, LeO (cmp_Or_int.l0 k y0 y1 y2 y3) (cmp_Or_int.l0 (k + 1) y0 y1 y2 y3))
 | 0 => fun _ _ _ _ r h => by simp [cmp_Or_int.l0] at h
 | k + 1 => by
  have ih0 := cmp_Or_int.mono_l k
  · intro y0 y1 y2 y3
    unfold cmp_Or_int.l0
    repeat' first
    | (with_reducible exact ih0 ..)
    | (with_reducible exact LeO.refl ..)
    | (with_reducible exact LeO.none ..)
    | (with_reducible refine LeO.ite ?_ ?_)
    | (with_reducible refine LeO.bind ?_ (fun _ => ?_))
theorem cmp_Or_int.mono : ∀ a0 k, LeO (cmp_Or_int.f k a0) (cmp_Or_int.f (k + 1) a0) := by
 intro a0 k; have ih0 := cmp_Or_int.mono_l k
 unfold cmp_Or_int.f
 repeat' first
  | (with_reducible exact ih0 ..)
  | (with_reducible exact LeO.refl ..)
  | (with_reducible exact LeO.none ..)
  | (with_reducible refine LeO.ite ?_ ?_)
  | (with_reducible refine LeO.bind ?_ (fun _ => ?_))
theorem cmp_Or_int.calls (k : Nat) (A0 : Option Addr) (c0 : Nat) (l0 : List Int) (r : Int) (w : World) (hr0 : Kd.C (Kd.int .i64) w A0 l0.length l0) (hc0 : l0.length ≤ c0) (h : cmp_Or_int.f k l0 = some r) :
 Calls Try.prog 47 #[.slice A0 l0.length c0] w fun e w' => e = .returned (.int .i64 r) ∧ Drawn0 w w' := by
 have HR0 := Ad hr0; have HC0 := Ad hc0; clear hr0 hc0; have H : (cmp_Or_int.l0 k 0 l0 (l0.length : Int) 0) = some r := h; clear h; have H' := Ad H; clear H
 go_enter Try.func47, Try.ntmps47
 go_wp2
 go_loopg [8] k (fun kq v8 w' => ∃ (x8_1 : Int), v8 = .int .i64 x8_1 ∧ Aside0 (cmp_Or_int.l0 kq 0 l0 (l0.length : Int) x8_1 = some r) ∧ Aside0 (kq ≤ k) ∧ Drawn0 w w')
 case atStart => exact ⟨(0), (by first | rfl | (refine qa_int ?_; simp <;> omega)), H', ⟨Nat.le_refl _⟩, by repeat (first | exact Drawn0.refl _)⟩
 case round =>
  clear H'; obtain ⟨x8_1, rfl, HA, HK1, ⟨m1, rfl⟩⟩ := hrel
  cases gk with
  | zero => exact absurd HA.out (by simp [cmp_Or_int.l0])
  | succ k1 =>
   have H := HA.out; clear HA
   simp only [cmp_Or_int.l0] at H
   by_cases c2 : x8_1 < (l0.length : Int)
   · rw [if_pos c2] at H
     have c2b0 : decide (x8_1 < (l0.length : Int)) = true := decide_eq_true c2; clear c2
     by_cases c3 : 0 ≤ x8_1
     · rw [if_pos c3] at H
       have c3b0 : decide (0 ≤ x8_1) = true := decide_eq_true c3; clear c3
       by_cases c4 : x8_1 < (l0.length : Int)
       · rw [if_pos c4] at H
         have c4b0 : decide (x8_1 < (l0.length : Int)) = true := decide_eq_true c4; clear c4
         by_cases c5 : (rd l0 x8_1) = 0
         · rw [if_pos c5] at H
           have c5b0 : ((rd l0 x8_1) == 0) = true := beq_iff_eq.mpr c5; have c5b1 : ((rd l0 x8_1) != 0) = false := bne_eq_false_iff_eq.mpr c5; clear c5; have H' := Ad H; clear H; have p101 : 0 ≤ (x8_1 : Int) := of_decide_eq_true (by first | (with_reducible assumption)); have q101 : x8_1 < (l0.length : Int) := of_decide_eq_true (by first | (with_reducible assumption)); obtain ⟨ad101, e101, hx101_0⟩ := Kd.at_int HR0.out x8_1 p101 q101; cases e101; replace p101 := eq_true p101; replace q101 := eq_true q101; go_wp2
           go_roundg k1
           case measure => have := HK1.out; omega
           case rel => exact ⟨(wrap64 (x8_1 + 1)), (by first | rfl | (refine qa_int ?_; simp <;> omega)), H', ⟨by have := HK1.out; omega⟩, by repeat (first | exact Drawn0.refl _ | apply Drawn0.step)⟩
         · rw [if_neg c5] at H
           have c5b0 : ((rd l0 x8_1) == 0) = false := beq_eq_false_iff_ne.mpr c5; have c5b1 : ((rd l0 x8_1) != 0) = true := bne_iff_ne.mpr c5; obtain rfl := Option.some.inj H
           simp only [Option.some.injEq, Prod.mk.injEq] at H
           obtain ⟨rfl⟩ := H; have p101 : 0 ≤ (x8_1 : Int) := of_decide_eq_true (by first | (with_reducible assumption)); have q101 : x8_1 < (l0.length : Int) := of_decide_eq_true (by first | (with_reducible assumption)); obtain ⟨ad101, e101, hx101_0⟩ := Kd.at_int HR0.out x8_1 p101 q101; cases e101; replace p101 := eq_true p101; replace q101 := eq_true q101; go_wp2; go_ret; exact ⟨by first | rfl | (refine qa_int ?_; simp <;> omega), by repeat (first | exact Drawn0.refl _ | apply Drawn0.step)⟩
       · rw [if_neg c4] at H; exact absurd H (by simp)
     · rw [if_neg c3] at H; exact absurd H (by simp)
   · rw [if_neg c2] at H
     have c2b0 : decide (x8_1 < (l0.length : Int)) = false := decide_eq_false c2; clear c2; obtain rfl := Option.some.inj H
     simp only [Option.some.injEq, Prod.mk.injEq] at H
     obtain ⟨rfl⟩ := H; go_wp2; go_ret; exact ⟨by first | rfl | (refine qa_int ?_; simp <;> omega), by repeat (first | exact Drawn0.refl _ | apply Drawn0.step)⟩

/-! ### cmp_isNaN_uint32: function 56 -/
def cmp_isNaN_uint32.f (a0 : Int) : Option (Bool) := some (a0 != a0)
theorem cmp_isNaN_uint32.calls (a0 : Int) (r : Bool) (w : World) (h : cmp_isNaN_uint32.f a0 = some r) :
 Calls Try.prog 56 #[.int .u32 a0] w fun e w' => e = .returned (.bool r) ∧ Drawn0 w w' := by
 have H : (some (a0 != a0)) = some r := h; clear h; obtain rfl := Option.some.inj H
 simp only [Option.some.injEq, Prod.mk.injEq] at H
 obtain ⟨rfl⟩ := H
 go_enter Try.func56, Try.ntmps56
 go_wp2; go_ret; exact ⟨by first | (simp; done) | (refine qa_int ?_; simp <;> omega), by repeat (first | exact Drawn0.refl _)⟩

/-! ### cmp_Compare_uint32: function 48 -/
def cmp_Compare_uint32.f (a0 : Int) (a1 : Int) : Option (Int) := (cmp_isNaN_uint32.f a0).bind fun t102 => ((cmp_isNaN_uint32.f a1).bind fun t103 => (if t102 = true then (if t103 = true then (some 0) else (some (-1))) else (if t103 = true then (some 1) else (if a0 < a1 then (some (-1)) else (if a0 > a1 then (some 1) else (some 0))))))
theorem cmp_Compare_uint32.calls (a0 : Int) (a1 : Int) (r : Int) (w : World) (h : cmp_Compare_uint32.f a0 a1 = some r) :
 Calls Try.prog 48 #[.int .u32 a0, .int .u32 a1] w fun e w' => e = .returned (.int .i64 r) ∧ Drawn0 w w' := by
 have H : ((cmp_isNaN_uint32.f a0).bind fun t102 => ((cmp_isNaN_uint32.f a1).bind fun t103 => (if t102 = true then (if t103 = true then (some 0) else (some (-1))) else (if t103 = true then (some 1) else (if a0 < a1 then (some (-1)) else (if a0 > a1 then (some 1) else (some 0))))))) = some r := h; clear h; replace H := Option.bind_eq_some_iff.mp H; obtain ⟨t102, A30, H⟩ := H; replace H : ((cmp_isNaN_uint32.f a1).bind fun t103 => (if t102 = true then (if t103 = true then (some 0) else (some (-1))) else (if t103 = true then (some 1) else (if a0 < a1 then (some (-1)) else (if a0 > a1 then (some 1) else (some 0)))))) = some r := H; have A3 := Ad A30; clear A30; replace H := Option.bind_eq_some_iff.mp H; obtain ⟨t103, A40, H⟩ := H; replace H : (if t102 = true then (if t103 = true then (some 0) else (some (-1))) else (if t103 = true then (some 1) else (if a0 < a1 then (some (-1)) else (if a0 > a1 then (some 1) else (some 0))))) = some r := H; have A4 := Ad A40; clear A40
 by_cases c5 : t102 = true
 · subst c5
   have H1 : (if t103 = true then (some 0) else (some (-1))) = some r := by rw [if_pos rfl] at H; exact H
   clear H; have H := H1; clear H1
   by_cases c6 : t103 = true
   · subst c6
     have H1 : (some 0) = some r := by rw [if_pos rfl] at H; exact H
     clear H; have H := H1; clear H1; obtain rfl := Option.some.inj H
     simp only [Option.some.injEq, Prod.mk.injEq] at H
     obtain ⟨rfl⟩ := H
     go_enter Try.func48, Try.ntmps48
     go_wp2_with (first | ((with_reducible refine gate_callee (f := 56) rfl ?_); refine goesL_ (some 8) rfl rfl Try.func56 (by kernel_rfl) rfl #[.int .u32 a0] rfl (by (try simp only [List.map_toArray, List.map_cons, List.map_nil]); first | rfl | (refine qa_arr ?_; (repeat' (first | rfl | refine qa_cons ?_ ?_ | refine qa_int ?_ | omega)); done)) ?_; (with_reducible refine (cmp_isNaN_uint32.calls a0 true _ A3.out).mono ?_); rintro e w' ⟨rfl, ⟨nd, rfl⟩⟩; refine ⟨_, rfl, ?_⟩) | ((with_reducible refine gate_callee (f := 56) rfl ?_); refine goesL_ (some 10) rfl rfl Try.func56 (by kernel_rfl) rfl #[.int .u32 a1] rfl (by (try simp only [List.map_toArray, List.map_cons, List.map_nil]); first | rfl | (refine qa_arr ?_; (repeat' (first | rfl | refine qa_cons ?_ ?_ | refine qa_int ?_ | refine qa_agg ?_ | refine qa_arr ?_ | omega)); done)) ?_; (with_reducible refine (cmp_isNaN_uint32.calls a1 true _ A4.out).mono ?_); rintro e w' ⟨rfl, ⟨nd, rfl⟩⟩; refine ⟨_, rfl, ?_⟩) | ((with_reducible refine gate_callee (f := 56) rfl ?_); refine goesL_ _ rfl rfl Try.func56 (by kernel_rfl) rfl #[.int .u32 a1] rfl (by (try simp only [List.map_toArray, List.map_cons, List.map_nil]); first | done | rfl | (simp only [List.length_drop, List.length_take]; rfl) | (simp; done) | (refine qa_arr ?_; (repeat' (first | rfl | refine qa_cons ?_ ?_ | refine qa_int ?_ | refine qa_agg ?_ | refine qa_arr ?_ | omega)); done)) ?_; (with_reducible refine (cmp_isNaN_uint32.calls a1 true _ A4.out).mono ?_); rintro e w' ⟨rfl, ⟨nd, rfl⟩⟩; refine ⟨_, rfl, ?_⟩))
     go_ret; exact ⟨by first | rfl | (refine qa_int ?_; simp <;> omega), by repeat (first | exact Drawn0.refl _ | apply Drawn0.step)⟩
   · replace c6 := Bool.eq_false_iff.mpr c6
     subst c6
     have H1 : (some (-1)) = some r := by rw [if_neg (show ¬ (false = true) by decide)] at H; exact H
     clear H; have H := H1; clear H1; obtain rfl := Option.some.inj H
     simp only [Option.some.injEq, Prod.mk.injEq] at H
     obtain ⟨rfl⟩ := H
     go_enter Try.func48, Try.ntmps48
     go_wp2_with (first | ((with_reducible refine gate_callee (f := 56) rfl ?_); refine goesL_ (some 8) rfl rfl Try.func56 (by kernel_rfl) rfl #[.int .u32 a0] rfl (by (try simp only [List.map_toArray, List.map_cons, List.map_nil]); first | rfl | (refine qa_arr ?_; (repeat' (first | rfl | refine qa_cons ?_ ?_ | refine qa_int ?_ | omega)); done)) ?_; (with_reducible refine (cmp_isNaN_uint32.calls a0 true _ A3.out).mono ?_); rintro e w' ⟨rfl, ⟨nd, rfl⟩⟩; refine ⟨_, rfl, ?_⟩) | ((with_reducible refine gate_callee (f := 56) rfl ?_); refine goesL_ (some 10) rfl rfl Try.func56 (by kernel_rfl) rfl #[.int .u32 a1] rfl (by (try simp only [List.map_toArray, List.map_cons, List.map_nil]); first | rfl | (refine qa_arr ?_; (repeat' (first | rfl | refine qa_cons ?_ ?_ | refine qa_int ?_ | refine qa_agg ?_ | refine qa_arr ?_ | omega)); done)) ?_; (with_reducible refine (cmp_isNaN_uint32.calls a1 false _ A4.out).mono ?_); rintro e w' ⟨rfl, ⟨nd, rfl⟩⟩; refine ⟨_, rfl, ?_⟩) | ((with_reducible refine gate_callee (f := 56) rfl ?_); refine goesL_ _ rfl rfl Try.func56 (by kernel_rfl) rfl #[.int .u32 a1] rfl (by (try simp only [List.map_toArray, List.map_cons, List.map_nil]); first | done | rfl | (simp only [List.length_drop, List.length_take]; rfl) | (simp; done) | (refine qa_arr ?_; (repeat' (first | rfl | refine qa_cons ?_ ?_ | refine qa_int ?_ | refine qa_agg ?_ | refine qa_arr ?_ | omega)); done)) ?_; (with_reducible refine (cmp_isNaN_uint32.calls a1 false _ A4.out).mono ?_); rintro e w' ⟨rfl, ⟨nd, rfl⟩⟩; refine ⟨_, rfl, ?_⟩))
     go_ret; exact ⟨by first | rfl | (refine qa_int ?_; simp <;> omega), by repeat (first | exact Drawn0.refl _ | apply Drawn0.step)⟩
 · replace c5 := Bool.eq_false_iff.mpr c5
   subst c5
   have H1 : (if t103 = true then (some 1) else (if a0 < a1 then (some (-1)) else (if a0 > a1 then (some 1) else (some 0)))) = some r := by rw [if_neg (show ¬ (false = true) by decide)] at H; exact H
   clear H; have H := H1; clear H1
   by_cases c7 : t103 = true
   · subst c7
     have H1 : (some 1) = some r := by rw [if_pos rfl] at H; exact H
     clear H; have H := H1; clear H1; obtain rfl := Option.some.inj H
     simp only [Option.some.injEq, Prod.mk.injEq] at H
     obtain ⟨rfl⟩ := H
     go_enter Try.func48, Try.ntmps48
     go_wp2_with (first | ((with_reducible refine gate_callee (f := 56) rfl ?_); refine goesL_ (some 8) rfl rfl Try.func56 (by kernel_rfl) rfl #[.int .u32 a0] rfl (by (try simp only [List.map_toArray, List.map_cons, List.map_nil]); first | rfl | (refine qa_arr ?_; (repeat' (first | rfl | refine qa_cons ?_ ?_ | refine qa_int ?_ | omega)); done)) ?_; (with_reducible refine (cmp_isNaN_uint32.calls a0 false _ A3.out).mono ?_); rintro e w' ⟨rfl, ⟨nd, rfl⟩⟩; refine ⟨_, rfl, ?_⟩) | ((with_reducible refine gate_callee (f := 56) rfl ?_); refine goesL_ (some 10) rfl rfl Try.func56 (by kernel_rfl) rfl #[.int .u32 a1] rfl (by (try simp only [List.map_toArray, List.map_cons, List.map_nil]); first | rfl | (refine qa_arr ?_; (repeat' (first | rfl | refine qa_cons ?_ ?_ | refine qa_int ?_ | refine qa_agg ?_ | refine qa_arr ?_ | omega)); done)) ?_; (with_reducible refine (cmp_isNaN_uint32.calls a1 true _ A4.out).mono ?_); rintro e w' ⟨rfl, ⟨nd, rfl⟩⟩; refine ⟨_, rfl, ?_⟩) | ((with_reducible refine gate_callee (f := 56) rfl ?_); refine goesL_ _ rfl rfl Try.func56 (by kernel_rfl) rfl #[.int .u32 a1] rfl (by (try simp only [List.map_toArray, List.map_cons, List.map_nil]); first | done | rfl | (simp only [List.length_drop, List.length_take]; rfl) | (simp; done) | (refine qa_arr ?_; (repeat' (first | rfl | refine qa_cons ?_ ?_ | refine qa_int ?_ | refine qa_agg ?_ | refine qa_arr ?_ | omega)); done)) ?_; (with_reducible refine (cmp_isNaN_uint32.calls a1 true _ A4.out).mono ?_); rintro e w' ⟨rfl, ⟨nd, rfl⟩⟩; refine ⟨_, rfl, ?_⟩))
     go_ret; exact ⟨by first | rfl | (refine qa_int ?_; simp <;> omega), by repeat (first | exact Drawn0.refl _ | apply Drawn0.step)⟩
   · replace c7 := Bool.eq_false_iff.mpr c7
     subst c7
     have H1 : (if a0 < a1 then (some (-1)) else (if a0 > a1 then (some 1) else (some 0))) = some r := by rw [if_neg (show ¬ (false = true) by decide)] at H; exact H
     clear H; have H := H1; clear H1
     by_cases c8 : a0 < a1
     · rw [if_pos c8] at H
       have c8b0 : decide (a0 < a1) = true := decide_eq_true c8; clear c8; obtain rfl := Option.some.inj H
       simp only [Option.some.injEq, Prod.mk.injEq] at H
       obtain ⟨rfl⟩ := H
       go_enter Try.func48, Try.ntmps48
       go_wp2_with (first | ((with_reducible refine gate_callee (f := 56) rfl ?_); refine goesL_ (some 8) rfl rfl Try.func56 (by kernel_rfl) rfl #[.int .u32 a0] rfl (by (try simp only [List.map_toArray, List.map_cons, List.map_nil]); first | rfl | (refine qa_arr ?_; (repeat' (first | rfl | refine qa_cons ?_ ?_ | refine qa_int ?_ | omega)); done)) ?_; (with_reducible refine (cmp_isNaN_uint32.calls a0 false _ A3.out).mono ?_); rintro e w' ⟨rfl, ⟨nd, rfl⟩⟩; refine ⟨_, rfl, ?_⟩) | ((with_reducible refine gate_callee (f := 56) rfl ?_); refine goesL_ (some 10) rfl rfl Try.func56 (by kernel_rfl) rfl #[.int .u32 a1] rfl (by (try simp only [List.map_toArray, List.map_cons, List.map_nil]); first | rfl | (refine qa_arr ?_; (repeat' (first | rfl | refine qa_cons ?_ ?_ | refine qa_int ?_ | refine qa_agg ?_ | refine qa_arr ?_ | omega)); done)) ?_; (with_reducible refine (cmp_isNaN_uint32.calls a1 false _ A4.out).mono ?_); rintro e w' ⟨rfl, ⟨nd, rfl⟩⟩; refine ⟨_, rfl, ?_⟩) | ((with_reducible refine gate_callee (f := 56) rfl ?_); refine goesL_ _ rfl rfl Try.func56 (by kernel_rfl) rfl #[.int .u32 a1] rfl (by (try simp only [List.map_toArray, List.map_cons, List.map_nil]); first | done | rfl | (simp only [List.length_drop, List.length_take]; rfl) | (simp; done) | (refine qa_arr ?_; (repeat' (first | rfl | refine qa_cons ?_ ?_ | refine qa_int ?_ | refine qa_agg ?_ | refine qa_arr ?_ | omega)); done)) ?_; (with_reducible refine (cmp_isNaN_uint32.calls a1 false _ A4.out).mono ?_); rintro e w' ⟨rfl, ⟨nd, rfl⟩⟩; refine ⟨_, rfl, ?_⟩))
       go_ret; exact ⟨by first | rfl | (refine qa_int ?_; simp <;> omega), by repeat (first | exact Drawn0.refl _ | apply Drawn0.step)⟩
     · rw [if_neg c8] at H
       have c8b0 : decide (a0 < a1) = false := decide_eq_false c8; clear c8
       by_cases c9 : a0 > a1
       · rw [if_pos c9] at H
         have c9b0 : decide (a1 < a0) = true := decide_eq_true c9; clear c9; obtain rfl := Option.some.inj H
         simp only [Option.some.injEq, Prod.mk.injEq] at H
         obtain ⟨rfl⟩ := H
         go_enter Try.func48, Try.ntmps48
         go_wp2_with (first | ((with_reducible refine gate_callee (f := 56) rfl ?_); refine goesL_ (some 8) rfl rfl Try.func56 (by kernel_rfl) rfl #[.int .u32 a0] rfl (by (try simp only [List.map_toArray, List.map_cons, List.map_nil]); first | rfl | (refine qa_arr ?_; (repeat' (first | rfl | refine qa_cons ?_ ?_ | refine qa_int ?_ | omega)); done)) ?_; (with_reducible refine (cmp_isNaN_uint32.calls a0 false _ A3.out).mono ?_); rintro e w' ⟨rfl, ⟨nd, rfl⟩⟩; refine ⟨_, rfl, ?_⟩) | ((with_reducible refine gate_callee (f := 56) rfl ?_); refine goesL_ (some 10) rfl rfl Try.func56 (by kernel_rfl) rfl #[.int .u32 a1] rfl (by (try simp only [List.map_toArray, List.map_cons, List.map_nil]); first | rfl | (refine qa_arr ?_; (repeat' (first | rfl | refine qa_cons ?_ ?_ | refine qa_int ?_ | refine qa_agg ?_ | refine qa_arr ?_ | omega)); done)) ?_; (with_reducible refine (cmp_isNaN_uint32.calls a1 false _ A4.out).mono ?_); rintro e w' ⟨rfl, ⟨nd, rfl⟩⟩; refine ⟨_, rfl, ?_⟩) | ((with_reducible refine gate_callee (f := 56) rfl ?_); refine goesL_ _ rfl rfl Try.func56 (by kernel_rfl) rfl #[.int .u32 a1] rfl (by (try simp only [List.map_toArray, List.map_cons, List.map_nil]); first | done | rfl | (simp only [List.length_drop, List.length_take]; rfl) | (simp; done) | (refine qa_arr ?_; (repeat' (first | rfl | refine qa_cons ?_ ?_ | refine qa_int ?_ | refine qa_agg ?_ | refine qa_arr ?_ | omega)); done)) ?_; (with_reducible refine (cmp_isNaN_uint32.calls a1 false _ A4.out).mono ?_); rintro e w' ⟨rfl, ⟨nd, rfl⟩⟩; refine ⟨_, rfl, ?_⟩))
         go_ret; exact ⟨by first | rfl | (refine qa_int ?_; simp <;> omega), by repeat (first | exact Drawn0.refl _ | apply Drawn0.step)⟩
       · rw [if_neg c9] at H
         have c9b0 : decide (a1 < a0) = false := decide_eq_false c9; clear c9; obtain rfl := Option.some.inj H
         simp only [Option.some.injEq, Prod.mk.injEq] at H
         obtain ⟨rfl⟩ := H
         go_enter Try.func48, Try.ntmps48
         go_wp2_with (first | ((with_reducible refine gate_callee (f := 56) rfl ?_); refine goesL_ (some 8) rfl rfl Try.func56 (by kernel_rfl) rfl #[.int .u32 a0] rfl (by (try simp only [List.map_toArray, List.map_cons, List.map_nil]); first | rfl | (refine qa_arr ?_; (repeat' (first | rfl | refine qa_cons ?_ ?_ | refine qa_int ?_ | omega)); done)) ?_; (with_reducible refine (cmp_isNaN_uint32.calls a0 false _ A3.out).mono ?_); rintro e w' ⟨rfl, ⟨nd, rfl⟩⟩; refine ⟨_, rfl, ?_⟩) | ((with_reducible refine gate_callee (f := 56) rfl ?_); refine goesL_ (some 10) rfl rfl Try.func56 (by kernel_rfl) rfl #[.int .u32 a1] rfl (by (try simp only [List.map_toArray, List.map_cons, List.map_nil]); first | rfl | (refine qa_arr ?_; (repeat' (first | rfl | refine qa_cons ?_ ?_ | refine qa_int ?_ | refine qa_agg ?_ | refine qa_arr ?_ | omega)); done)) ?_; (with_reducible refine (cmp_isNaN_uint32.calls a1 false _ A4.out).mono ?_); rintro e w' ⟨rfl, ⟨nd, rfl⟩⟩; refine ⟨_, rfl, ?_⟩) | ((with_reducible refine gate_callee (f := 56) rfl ?_); refine goesL_ _ rfl rfl Try.func56 (by kernel_rfl) rfl #[.int .u32 a1] rfl (by (try simp only [List.map_toArray, List.map_cons, List.map_nil]); first | done | rfl | (simp only [List.length_drop, List.length_take]; rfl) | (simp; done) | (refine qa_arr ?_; (repeat' (first | rfl | refine qa_cons ?_ ?_ | refine qa_int ?_ | refine qa_agg ?_ | refine qa_arr ?_ | omega)); done)) ?_; (with_reducible refine (cmp_isNaN_uint32.calls a1 false _ A4.out).mono ?_); rintro e w' ⟨rfl, ⟨nd, rfl⟩⟩; refine ⟨_, rfl, ?_⟩))
         go_ret; exact ⟨by first | rfl | (refine qa_int ?_; simp <;> omega), by repeat (first | exact Drawn0.refl _ | apply Drawn0.step)⟩

/-! ### cmp_isNaN_uint8: function 57 -/
def cmp_isNaN_uint8.f (a0 : Int) : Option (Bool) := some (a0 != a0)
theorem cmp_isNaN_uint8.calls (a0 : Int) (r : Bool) (w : World) (h : cmp_isNaN_uint8.f a0 = some r) :
 Calls Try.prog 57 #[.int .u8 a0] w fun e w' => e = .returned (.bool r) ∧ Drawn0 w w' := by
 have H : (some (a0 != a0)) = some r := h; clear h; obtain rfl := Option.some.inj H
 simp only [Option.some.injEq, Prod.mk.injEq] at H
 obtain ⟨rfl⟩ := H
 go_enter Try.func57, Try.ntmps57
 go_wp2; go_ret; exact ⟨by first | (simp; done) | (refine qa_int ?_; simp <;> omega), by repeat (first | exact Drawn0.refl _)⟩

/-! ### cmp_Compare_uint8: function 49 -/
def cmp_Compare_uint8.f (a0 : Int) (a1 : Int) : Option (Int) := (cmp_isNaN_uint8.f a0).bind fun t104 => ((cmp_isNaN_uint8.f a1).bind fun t105 => (if t104 = true then (if t105 = true then (some 0) else (some (-1))) else (if t105 = true then (some 1) else (if a0 < a1 then (some (-1)) else (if a0 > a1 then (some 1) else (some 0))))))
theorem cmp_Compare_uint8.calls (a0 : Int) (a1 : Int) (r : Int) (w : World) (h : cmp_Compare_uint8.f a0 a1 = some r) :
 Calls Try.prog 49 #[.int .u8 a0, .int .u8 a1] w fun e w' => e = .returned (.int .i64 r) ∧ Drawn0 w w' := by
 have H : ((cmp_isNaN_uint8.f a0).bind fun t104 => ((cmp_isNaN_uint8.f a1).bind fun t105 => (if t104 = true then (if t105 = true then (some 0) else (some (-1))) else (if t105 = true then (some 1) else (if a0 < a1 then (some (-1)) else (if a0 > a1 then (some 1) else (some 0))))))) = some r := h; clear h; replace H := Option.bind_eq_some_iff.mp H; obtain ⟨t104, A30, H⟩ := H; replace H : ((cmp_isNaN_uint8.f a1).bind fun t105 => (if t104 = true then (if t105 = true then (some 0) else (some (-1))) else (if t105 = true then (some 1) else (if a0 < a1 then (some (-1)) else (if a0 > a1 then (some 1) else (some 0)))))) = some r := H; have A3 := Ad A30; clear A30; replace H := Option.bind_eq_some_iff.mp H; obtain ⟨t105, A40, H⟩ := H; replace H : (if t104 = true then (if t105 = true then (some 0) else (some (-1))) else (if t105 = true then (some 1) else (if a0 < a1 then (some (-1)) else (if a0 > a1 then (some 1) else (some 0))))) = some r := H; have A4 := Ad A40; clear A40
 by_cases c5 : t104 = true
 · subst c5
   have H1 : (if t105 = true then (some 0) else (some (-1))) = some r := by rw [if_pos rfl] at H; exact H
   clear H; have H := H1; clear H1
   by_cases c6 : t105 = true
   · subst c6
     have H1 : (some 0) = some r := by rw [if_pos rfl] at H; exact H
     clear H; have H := H1; clear H1; obtain rfl := Option.some.inj H
     simp only [Option.some.injEq, Prod.mk.injEq] at H
     obtain ⟨rfl⟩ := H
     go_enter Try.func49, Try.ntmps49
     go_wp2_with (first | ((with_reducible refine gate_callee (f := 57) rfl ?_); refine goesL_ (some 8) rfl rfl Try.func57 (by kernel_rfl) rfl #[.int .u8 a0] rfl (by (try simp only [List.map_toArray, List.map_cons, List.map_nil]); first | rfl | (refine qa_arr ?_; (repeat' (first | rfl | refine qa_cons ?_ ?_ | refine qa_int ?_ | omega)); done)) ?_; (with_reducible refine (cmp_isNaN_uint8.calls a0 true _ A3.out).mono ?_); rintro e w' ⟨rfl, ⟨nd, rfl⟩⟩; refine ⟨_, rfl, ?_⟩) | ((with_reducible refine gate_callee (f := 57) rfl ?_); refine goesL_ (some 10) rfl rfl Try.func57 (by kernel_rfl) rfl #[.int .u8 a1] rfl (by (try simp only [List.map_toArray, List.map_cons, List.map_nil]); first | rfl | (refine qa_arr ?_; (repeat' (first | rfl | refine qa_cons ?_ ?_ | refine qa_int ?_ | refine qa_agg ?_ | refine qa_arr ?_ | omega)); done)) ?_; (with_reducible refine (cmp_isNaN_uint8.calls a1 true _ A4.out).mono ?_); rintro e w' ⟨rfl, ⟨nd, rfl⟩⟩; refine ⟨_, rfl, ?_⟩) | ((with_reducible refine gate_callee (f := 57) rfl ?_); refine goesL_ _ rfl rfl Try.func57 (by kernel_rfl) rfl #[.int .u8 a1] rfl (by (try simp only [List.map_toArray, List.map_cons, List.map_nil]); first | done | rfl | (simp only [List.length_drop, List.length_take]; rfl) | (simp; done) | (refine qa_arr ?_; (repeat' (first | rfl | refine qa_cons ?_ ?_ | refine qa_int ?_ | refine qa_agg ?_ | refine qa_arr ?_ | omega)); done)) ?_; (with_reducible refine (cmp_isNaN_uint8.calls a1 true _ A4.out).mono ?_); rintro e w' ⟨rfl, ⟨nd, rfl⟩⟩; refine ⟨_, rfl, ?_⟩))
     go_ret; exact ⟨by first | rfl | (refine qa_int ?_; simp <;> omega), by repeat (first | exact Drawn0.refl _ | apply Drawn0.step)⟩
   · replace c6 := Bool.eq_false_iff.mpr c6
     subst c6
     have H1 : (some (-1)) = some r := by rw [if_neg (show ¬ (false = true) by decide)] at H; exact H
     clear H; have H := H1; clear H1; obtain rfl := Option.some.inj H
     simp only [Option.some.injEq, Prod.mk.injEq] at H
     obtain ⟨rfl⟩ := H
     go_enter Try.func49, Try.ntmps49
     go_wp2_with (first | ((with_reducible refine gate_callee (f := 57) rfl ?_); refine goesL_ (some 8) rfl rfl Try.func57 (by kernel_rfl) rfl #[.int .u8 a0] rfl (by (try simp only [List.map_toArray, List.map_cons, List.map_nil]); first | rfl | (refine qa_arr ?_; (repeat' (first | rfl | refine qa_cons ?_ ?_ | refine qa_int ?_ | omega)); done)) ?_; (with_reducible refine (cmp_isNaN_uint8.calls a0 true _ A3.out).mono ?_); rintro e w' ⟨rfl, ⟨nd, rfl⟩⟩; refine ⟨_, rfl, ?_⟩) | ((with_reducible refine gate_callee (f := 57) rfl ?_); refine goesL_ (some 10) rfl rfl Try.func57 (by kernel_rfl) rfl #[.int .u8 a1] rfl (by (try simp only [List.map_toArray, List.map_cons, List.map_nil]); first | rfl | (refine qa_arr ?_; (repeat' (first | rfl | refine qa_cons ?_ ?_ | refine qa_int ?_ | refine qa_agg ?_ | refine qa_arr ?_ | omega)); done)) ?_; (with_reducible refine (cmp_isNaN_uint8.calls a1 false _ A4.out).mono ?_); rintro e w' ⟨rfl, ⟨nd, rfl⟩⟩; refine ⟨_, rfl, ?_⟩) | ((with_reducible refine gate_callee (f := 57) rfl ?_); refine goesL_ _ rfl rfl Try.func57 (by kernel_rfl) rfl #[.int .u8 a1] rfl (by (try simp only [List.map_toArray, List.map_cons, List.map_nil]); first | done | rfl | (simp only [List.length_drop, List.length_take]; rfl) | (simp; done) | (refine qa_arr ?_; (repeat' (first | rfl | refine qa_cons ?_ ?_ | refine qa_int ?_ | refine qa_agg ?_ | refine qa_arr ?_ | omega)); done)) ?_; (with_reducible refine (cmp_isNaN_uint8.calls a1 false _ A4.out).mono ?_); rintro e w' ⟨rfl, ⟨nd, rfl⟩⟩; refine ⟨_, rfl, ?_⟩))
     go_ret; exact ⟨by first | rfl | (refine qa_int ?_; simp <;> omega), by repeat (first | exact Drawn0.refl _ | apply Drawn0.step)⟩
 · replace c5 := Bool.eq_false_iff.mpr c5
   subst c5
   have H1 : (if t105 = true then (some 1) else (if a0 < a1 then (some (-1)) else (if a0 > a1 then (some 1) else (some 0)))) = some r := by rw [if_neg (show ¬ (false = true) by decide)] at H; exact H
   clear H; have H := H1; clear H1
   by_cases c7 : t105 = true
   · subst c7
     have H1 : (some 1) = some r := by rw [if_pos rfl] at H; exact H
     clear H; have H := H1; clear H1; obtain rfl := Option.some.inj H
     simp only [Option.some.injEq, Prod.mk.injEq] at H
     obtain ⟨rfl⟩ := H
     go_enter Try.func49, Try.ntmps49
     go_wp2_with (first | ((with_reducible refine gate_callee (f := 57) rfl ?_); refine goesL_ (some 8) rfl rfl Try.func57 (by kernel_rfl) rfl #[.int .u8 a0] rfl (by (try simp only [List.map_toArray, List.map_cons, List.map_nil]); first | rfl | (refine qa_arr ?_; (repeat' (first | rfl | refine qa_cons ?_ ?_ | refine qa_int ?_ | omega)); done)) ?_; (with_reducible refine (cmp_isNaN_uint8.calls a0 false _ A3.out).mono ?_); rintro e w' ⟨rfl, ⟨nd, rfl⟩⟩; refine ⟨_, rfl, ?_⟩) | ((with_reducible refine gate_callee (f := 57) rfl ?_); refine goesL_ (some 10) rfl rfl Try.func57 (by kernel_rfl) rfl #[.int .u8 a1] rfl (by (try simp only [List.map_toArray, List.map_cons, List.map_nil]); first | rfl | (refine qa_arr ?_; (repeat' (first | rfl | refine qa_cons ?_ ?_ | refine qa_int ?_ | refine qa_agg ?_ | refine qa_arr ?_ | omega)); done)) ?_; (with_reducible refine (cmp_isNaN_uint8.calls a1 true _ A4.out).mono ?_); rintro e w' ⟨rfl, ⟨nd, rfl⟩⟩; refine ⟨_, rfl, ?_⟩) | ((with_reducible refine gate_callee (f := 57) rfl ?_); refine goesL_ _ rfl rfl Try.func57 (by kernel_rfl) rfl #[.int .u8 a1] rfl (by (try simp only [List.map_toArray, List.map_cons, List.map_nil]); first | done | rfl | (simp only [List.length_drop, List.length_take]; rfl) | (simp; done) | (refine qa_arr ?_; (repeat' (first | rfl | refine qa_cons ?_ ?_ | refine qa_int ?_ | refine qa_agg ?_ | refine qa_arr ?_ | omega)); done)) ?_; (with_reducible refine (cmp_isNaN_uint8.calls a1 true _ A4.out).mono ?_); rintro e w' ⟨rfl, ⟨nd, rfl⟩⟩; refine ⟨_, rfl, ?_⟩))
     go_ret; exact ⟨by first | rfl | (refine qa_int ?_; simp <;> omega), by repeat (first | exact Drawn0.refl _ | apply Drawn0.step)⟩
   · replace c7 := Bool.eq_false_iff.mpr c7
     subst c7
     have H1 : (if a0 < a1 then (some (-1)) else (if a0 > a1 then (some 1) else (some 0))) = some r := by rw [if_neg (show ¬ (false = true) by decide)] at H; exact H
     clear H; have H := H1; clear H1
     by_cases c8 : a0 < a1
     · rw [if_pos c8] at H
       have c8b0 : decide (a0 < a1) = true := decide_eq_true c8; clear c8; obtain rfl := Option.some.inj H
       simp only [Option.some.injEq, Prod.mk.injEq] at H
       obtain ⟨rfl⟩ := H
       go_enter Try.func49, Try.ntmps49
       go_wp2_with (first | ((with_reducible refine gate_callee (f := 57) rfl ?_); refine goesL_ (some 8) rfl rfl Try.func57 (by kernel_rfl) rfl #[.int .u8 a0] rfl (by (try simp only [List.map_toArray, List.map_cons, List.map_nil]); first | rfl | (refine qa_arr ?_; (repeat' (first | rfl | refine qa_cons ?_ ?_ | refine qa_int ?_ | omega)); done)) ?_; (with_reducible refine (cmp_isNaN_uint8.calls a0 false _ A3.out).mono ?_); rintro e w' ⟨rfl, ⟨nd, rfl⟩⟩; refine ⟨_, rfl, ?_⟩) | ((with_reducible refine gate_callee (f := 57) rfl ?_); refine goesL_ (some 10) rfl rfl Try.func57 (by kernel_rfl) rfl #[.int .u8 a1] rfl (by (try simp only [List.map_toArray, List.map_cons, List.map_nil]); first | rfl | (refine qa_arr ?_; (repeat' (first | rfl | refine qa_cons ?_ ?_ | refine qa_int ?_ | refine qa_agg ?_ | refine qa_arr ?_ | omega)); done)) ?_; (with_reducible refine (cmp_isNaN_uint8.calls a1 false _ A4.out).mono ?_); rintro e w' ⟨rfl, ⟨nd, rfl⟩⟩; refine ⟨_, rfl, ?_⟩) | ((with_reducible refine gate_callee (f := 57) rfl ?_); refine goesL_ _ rfl rfl Try.func57 (by kernel_rfl) rfl #[.int .u8 a1] rfl (by (try simp only [List.map_toArray, List.map_cons, List.map_nil]); first | done | rfl | (simp only [List.length_drop, List.length_take]; rfl) | (simp; done) | (refine qa_arr ?_; (repeat' (first | rfl | refine qa_cons ?_ ?_ | refine qa_int ?_ | refine qa_agg ?_ | refine qa_arr ?_ | omega)); done)) ?_; (with_reducible refine (cmp_isNaN_uint8.calls a1 false _ A4.out).mono ?_); rintro e w' ⟨rfl, ⟨nd, rfl⟩⟩; refine ⟨_, rfl, ?_⟩))
       go_ret; exact ⟨by first | rfl | (refine qa_int ?_; simp <;> omega), by repeat (first | exact Drawn0.refl _ | apply Drawn0.step)⟩
     · rw [if_neg c8] at H
       have c8b0 : decide (a0 < a1) = false := decide_eq_false c8; clear c8
       by_cases c9 : a0 > a1
       · rw [if_pos c9] at H
         have c9b0 : decide (a1 < a0) = true := decide_eq_true c9; clear c9; obtain rfl := Option.some.inj H
         simp only [Option.some.injEq, Prod.mk.injEq] at H
         obtain ⟨rfl⟩ := H
         go_enter Try.func49, Try.ntmps49
         go_wp2_with (first | ((with_reducible refine gate_callee (f := 57) rfl ?_); refine goesL_ (some 8) rfl rfl Try.func57 (by kernel_rfl) rfl #[.int .u8 a0] rfl (by (try simp only [List.map_toArray, List.map_cons, List.map_nil]); first | rfl | (refine qa_arr ?_; (repeat' (first | rfl | refine qa_cons ?_ ?_ | refine qa_int ?_ | omega)); done)) ?_; (with_reducible refine (cmp_isNaN_uint8.calls a0 false _ A3.out).mono ?_); rintro e w' ⟨rfl, ⟨nd, rfl⟩⟩; refine ⟨_, rfl, ?_⟩) | ((with_reducible refine gate_callee (f := 57) rfl ?_); refine goesL_ (some 10) rfl rfl Try.func57 (by kernel_rfl) rfl #[.int .u8 a1] rfl (by (try simp only [List.map_toArray, List.map_cons, List.map_nil]); first | rfl | (refine qa_arr ?_; (repeat' (first | rfl | refine qa_cons ?_ ?_ | refine qa_int ?_ | refine qa_agg ?_ | refine qa_arr ?_ | omega)); done)) ?_; (with_reducible refine (cmp_isNaN_uint8.calls a1 false _ A4.out).mono ?_); rintro e w' ⟨rfl, ⟨nd, rfl⟩⟩; refine ⟨_, rfl, ?_⟩) | ((with_reducible refine gate_callee (f := 57) rfl ?_); refine goesL_ _ rfl rfl Try.func57 (by kernel_rfl) rfl #[.int .u8 a1] rfl (by (try simp only [List.map_toArray, List.map_cons, List.map_nil]); first | done | rfl | (simp only [List.length_drop, List.length_take]; rfl) | (simp; done) | (refine qa_arr ?_; (repeat' (first | rfl | refine qa_cons ?_ ?_ | refine qa_int ?_ | refine qa_agg ?_ | refine qa_arr ?_ | omega)); done)) ?_; (with_reducible refine (cmp_isNaN_uint8.calls a1 false _ A4.out).mono ?_); rintro e w' ⟨rfl, ⟨nd, rfl⟩⟩; refine ⟨_, rfl, ?_⟩))
         go_ret; exact ⟨by first | rfl | (refine qa_int ?_; simp <;> omega), by repeat (first | exact Drawn0.refl _ | apply Drawn0.step)⟩
       · rw [if_neg c9] at H
         have c9b0 : decide (a1 < a0) = false := decide_eq_false c9; clear c9; obtain rfl := Option.some.inj H
         simp only [Option.some.injEq, Prod.mk.injEq] at H
         obtain ⟨rfl⟩ := H
         go_enter Try.func49, Try.ntmps49
         go_wp2_with (first | ((with_reducible refine gate_callee (f := 57) rfl ?_); refine goesL_ (some 8) rfl rfl Try.func57 (by kernel_rfl) rfl #[.int .u8 a0] rfl (by (try simp only [List.map_toArray, List.map_cons, List.map_nil]); first | rfl | (refine qa_arr ?_; (repeat' (first | rfl | refine qa_cons ?_ ?_ | refine qa_int ?_ | omega)); done)) ?_; (with_reducible refine (cmp_isNaN_uint8.calls a0 false _ A3.out).mono ?_); rintro e w' ⟨rfl, ⟨nd, rfl⟩⟩; refine ⟨_, rfl, ?_⟩) | ((with_reducible refine gate_callee (f := 57) rfl ?_); refine goesL_ (some 10) rfl rfl Try.func57 (by kernel_rfl) rfl #[.int .u8 a1] rfl (by (try simp only [List.map_toArray, List.map_cons, List.map_nil]); first | rfl | (refine qa_arr ?_; (repeat' (first | rfl | refine qa_cons ?_ ?_ | refine qa_int ?_ | refine qa_agg ?_ | refine qa_arr ?_ | omega)); done)) ?_; (with_reducible refine (cmp_isNaN_uint8.calls a1 false _ A4.out).mono ?_); rintro e w' ⟨rfl, ⟨nd, rfl⟩⟩; refine ⟨_, rfl, ?_⟩) | ((with_reducible refine gate_callee (f := 57) rfl ?_); refine goesL_ _ rfl rfl Try.func57 (by kernel_rfl) rfl #[.int .u8 a1] rfl (by (try simp only [List.map_toArray, List.map_cons, List.map_nil]); first | done | rfl | (simp only [List.length_drop, List.length_take]; rfl) | (simp; done) | (refine qa_arr ?_; (repeat' (first | rfl | refine qa_cons ?_ ?_ | refine qa_int ?_ | refine qa_agg ?_ | refine qa_arr ?_ | omega)); done)) ?_; (with_reducible refine (cmp_isNaN_uint8.calls a1 false _ A4.out).mono ?_); rintro e w' ⟨rfl, ⟨nd, rfl⟩⟩; refine ⟨_, rfl, ?_⟩))
         go_ret; exact ⟨by first | rfl | (refine qa_int ?_; simp <;> omega), by repeat (first | exact Drawn0.refl _ | apply Drawn0.step)⟩

end Go.Proofs.Ytmkjgiejnlmncaa.QTableBytes
