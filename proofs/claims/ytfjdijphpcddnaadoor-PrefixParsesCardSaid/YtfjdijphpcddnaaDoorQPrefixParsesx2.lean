-- Lines by a program of this session, for this claim.
import Derived.Test.YtfjdijphpcddnaaDoorQPrefixParsesx0
import Derived.Test.YtfjdijphpcddnaaDoorQPrefixParsesx1
namespace Go.Proofs.YtfjdijphpcddnaaDoor.QPrefixParses
open Go.RowKit Go.Proofs.YtfjdijphpcddnaaDoorW.PrintWords Go.Proofs.YtfjdijphpcddnaaDoorW.PrintLast Go.Proofs.YtfjdijphpcddnaaDoorW.PrintMore
attribute [local go_sem] max2_int min2_int max_two min_two max_three min_three max_four min_four   -- for this text's walks alone
set_option linter.unusedVariables false
set_option linter.unusedSimpArgs false

/-! ### prefix_Parse: function 22 -/
/-- one sign: the numbers so far, which one, how many digits it has -/
def prefix_Parse.step (n : List Int) (a d : Nat) (c : Nat) : Option (List Int × Nat × Nat) :=
  if 48 ≤ c ∧ c ≤ 57 ∧ d < 3 ∧ ¬ (0 < d ∧ n.getD a 0 = 0) then
    (if 255 < 10 * n.getD a 0 + ((c : Int) - 48) then none else some (n.set a (10 * n.getD a 0 + ((c : Int) - 48)), a, d + 1))
  else if 0 < d ∧ ((a < 3 ∧ c = 46) ∨ (a = 3 ∧ c = 47)) then some (n, a + 1, 0) else none
def prefix_Parse.run : List UInt8 → List Int → Nat → Nat → Option (List Int × Nat × Nat)
  | [], n, a, d => some (n, a, d)
  | c :: l, n, a, d => if 128 ≤ c.toNat then none else (prefix_Parse.step n a d c.toNat).bind fun x => prefix_Parse.run l x.1 x.2.1 x.2.2
def prefix_Parse.addr (n : List Int) : Int := Go.bits .or .u32 (Go.bits .or .u32 (Go.bits .or .u32 (n.getD 0 0 * 16777216) (n.getD 1 0 * 65536)) (n.getD 2 0 * 256)) (n.getD 3 0)
def prefix_Parse.fin (n : List Int) (a d : Nat) : Option (Int × Int × Int) := if a = 4 ∧ 0 < d then (prefix_Right.f (prefix_Parse.addr n) (n.getD 4 0)).bind fun rt => if rt = true then some (prefix_Parse.addr n, n.getD 4 0, 0) else some (0, 0, 4) else some (0, 0, 4)
def prefix_Parse.f (s0 : ByteArray) : Option (Int × Int × Int) := match prefix_Parse.run s0.data.toList [0, 0, 0, 0, 0] 0 0 with
  | none => some (0, 0, 4)
  | some x => prefix_Parse.fin x.1 x.2.1 x.2.2
/-- what holds at each head -/
def prefix_Parse.ok (n : List Int) (a d : Nat) : Prop := n.length = 5 ∧ a ≤ 4 ∧ d ≤ 3 ∧ ∀ i, 0 ≤ n.getD i 0 ∧ n.getD i 0 ≤ 255
theorem prefix_Parse.ok_step {n : List Int} {a d c : Nat} {x : List Int × Nat × Nat} (h : prefix_Parse.ok n a d) (hs : prefix_Parse.step n a d c = some x) : prefix_Parse.ok x.1 x.2.1 x.2.2 := by
  obtain ⟨h1, h2, h3, h4⟩ := h
  unfold prefix_Parse.step at hs
  split at hs
  · rename_i hd
    split at hs
    · cases hs
    · rename_i h5
      have := Option.some.inj hs
      subst this
      refine ⟨by rw [List.length_set]; exact h1, h2, by show d + 1 ≤ 3; omega, fun i => ?_⟩
      have ha := h4 a
      by_cases e : i = a
      · subst e
        show 0 ≤ (n.set i _).getD i 0 ∧ (n.set i _).getD i 0 ≤ 255
        rw [List.getD_eq_getElem?_getD, List.getElem?_set_self (by omega)]
        simp only [Option.getD_some]
        omega
      · show 0 ≤ (n.set a _).getD i 0 ∧ (n.set a _).getD i 0 ≤ 255
        rw [List.getD_eq_getElem?_getD, List.getElem?_set_ne (fun e2 => e e2.symm), ← List.getD_eq_getElem?_getD]
        exact h4 i
  · split at hs
    · rename_i hd
      have := Option.some.inj hs
      subst this
      exact ⟨h1, by show a + 1 ≤ 4; omega, Nat.zero_le _, h4⟩
    · cases hs
theorem prefix_Parse.step_dig {n : List Int} {a d c : Nat} (h : 48 ≤ c ∧ c ≤ 57 ∧ d < 3 ∧ ¬ (0 < d ∧ n.getD a 0 = 0)) (h2 : ¬ 255 < 10 * n.getD a 0 + ((c : Int) - 48)) : prefix_Parse.step n a d c = some (n.set a (10 * n.getD a 0 + ((c : Int) - 48)), a, d + 1) := by
  unfold prefix_Parse.step
  rw [if_pos h, if_neg h2]
theorem prefix_Parse.step_big {n : List Int} {a d c : Nat} (h : 48 ≤ c ∧ c ≤ 57 ∧ d < 3 ∧ ¬ (0 < d ∧ n.getD a 0 = 0)) (h2 : 255 < 10 * n.getD a 0 + ((c : Int) - 48)) : prefix_Parse.step n a d c = none := by
  unfold prefix_Parse.step
  rw [if_pos h, if_pos h2]
theorem prefix_Parse.step_sep {n : List Int} {a d c : Nat} (h : ¬ (48 ≤ c ∧ c ≤ 57 ∧ d < 3 ∧ ¬ (0 < d ∧ n.getD a 0 = 0))) (h1 : 0 < d) (h2 : (a < 3 ∧ c = 46) ∨ (a = 3 ∧ c = 47)) : prefix_Parse.step n a d c = some (n, a + 1, 0) := by
  unfold prefix_Parse.step
  rw [if_neg h, if_pos ⟨h1, h2⟩]
theorem prefix_Parse.step_no {n : List Int} {a d c : Nat} (h : ¬ (48 ≤ c ∧ c ≤ 57 ∧ d < 3 ∧ ¬ (0 < d ∧ n.getD a 0 = 0))) (h1 : ¬ (0 < d ∧ ((a < 3 ∧ c = 46) ∨ (a = 3 ∧ c = 47)))) : prefix_Parse.step n a d c = none := by
  unfold prefix_Parse.step
  rw [if_neg h, if_neg h1]
theorem prefix_Parse.drop_cons {s0 : ByteArray} {k : Nat} (h : k < s0.size) : s0.data.toList.drop k = s0[k] :: s0.data.toList.drop (k + 1) := by
  rw [List.drop_eq_getElem_cons (by simpa using h)]
  rfl
theorem prefix_Parse.run_none {s0 : ByteArray} {k : Nat} (h : k < s0.size) {n : List Int} {a d : Nat} (ha : (s0[k]'h).toNat < 128) (hs : prefix_Parse.step n a d (s0[k]'h).toNat = none) : prefix_Parse.run (s0.data.toList.drop k) n a d = none := by
  rw [prefix_Parse.drop_cons h, prefix_Parse.run, if_neg (by omega), hs]
  rfl
theorem prefix_Parse.run_high {s0 : ByteArray} {k : Nat} (h : k < s0.size) {n : List Int} {a d : Nat} (ha : ¬ (s0[k]'h).toNat < 128) : prefix_Parse.run (s0.data.toList.drop k) n a d = none := by
  rw [prefix_Parse.drop_cons h, prefix_Parse.run, if_pos (by omega)]
theorem prefix_Parse.run_next {s0 : ByteArray} {k : Nat} (h : k < s0.size) {n : List Int} {a d : Nat} {x : List Int × Nat × Nat} (ha : (s0[k]'h).toNat < 128) (hs : prefix_Parse.step n a d (s0[k]'h).toNat = some x) : prefix_Parse.run (s0.data.toList.drop k) n a d = prefix_Parse.run (s0.data.toList.drop (k + 1)) x.1 x.2.1 x.2.2 := by
  rw [prefix_Parse.drop_cons h, prefix_Parse.run, if_neg (by omega), hs]
  rfl
theorem prefix_Parse.err_of {s0 : ByteArray} {r1 r2 r3 : Int} {k a d : Nat} {n : List Int} (h : prefix_Parse.f s0 = some (r1, r2, r3)) (hr : prefix_Parse.run (s0.data.toList.drop k) n a d = prefix_Parse.run s0.data.toList [0, 0, 0, 0, 0] 0 0) (hn : prefix_Parse.run (s0.data.toList.drop k) n a d = none) : r1 = 0 ∧ r2 = 0 ∧ r3 = 4 := by
  unfold prefix_Parse.f at h
  rw [← hr, hn] at h
  simp only [Option.some.injEq, Prod.mk.injEq] at h
  exact ⟨h.1.symm, h.2.1.symm, h.2.2.symm⟩
theorem prefix_Parse.fin_of {s0 : ByteArray} {r1 r2 r3 : Int} {a d : Nat} {n : List Int} (h : prefix_Parse.f s0 = some (r1, r2, r3)) (hr : prefix_Parse.run (s0.data.toList.drop s0.size) n a d = prefix_Parse.run s0.data.toList [0, 0, 0, 0, 0] 0 0) : prefix_Parse.fin n a d = some (r1, r2, r3) := by
  have e : s0.data.toList.drop s0.size = [] := List.drop_eq_nil_of_le (by simp)
  unfold prefix_Parse.f at h
  rw [← hr, e] at h
  exact h
theorem prefix_Parse.cell_at {W : World} {g a : Nat} {n : List Int} (h : W.heap[g]? = some (.cells (n.map (Value.int .u32)).toArray 47 (0, 0))) (ha : a < n.length) : W.cell? ⟨g, a, none⟩ = some (.int .u32 (n.getD a 0)) := by
  have e : n[a]? = some (n.getD a 0) := by rw [List.getD_eq_getElem?_getD, List.getElem?_eq_getElem ha]; rfl
  refine (blk_cell h a).trans ?_
  rw [List.getElem?_toArray, List.getElem?_map, e]
  rfl
theorem prefix_Parse.set_arr (n : List Int) (a : Nat) (v : Int) : (n.map (Value.int .u32)).toArray.setIfInBounds a (.int .u32 v) = ((n.set a v).map (Value.int .u32)).toArray := by
  simp [List.map_set]
set_option maxHeartbeats 8000000 in
set_option maxRecDepth 100000 in
theorem prefix_Parse.calls (s0 : ByteArray) (r1 r2 r3 : Int) (w : World) (h : prefix_Parse.f s0 = some (r1, r2, r3)) :
    Calls Tryd.prog 22 #[.string s0] w fun e w' => e = .returned (.tuple #[.agg #[.int .u32 r1, .int .u8 r2], .int .i64 r3]) ∧ Below w.heap.size w w' := by
  have hu24 := Tryd.underlying24
  have hu47 := Tryd.underlying47
  have HF := Aside0.mk h
  clear h
  go_enter Tryd.func22, Tryd.ntmps22
  go_wp2_with (first | ((with_reducible refine gate_dst (N := 2) rfl ?_); (try (refine gate_guard (by rfl) ?_; dsimp only)); refine box_event ?hg (N := 2) ?hd (cs := #[.int .u32 0, .int .u8 0]) (t := 24) ?hr ?_; (case hd => rfl); (case hg => rfl); (case hr => first | (go_simp; done) | (go_simp; rfl)); intro g2 hg w2 hbox hb; have BK2 := Aside0.mk hbox; have HB2 := Aside0.mk hb; have GE2 := Aside0.mk (Nat.le_of_eq hg.symm); clear hb hbox hg) | ((with_reducible refine gate_dst (N := 4) rfl ?_); (try (refine gate_guard (by rfl) ?_; dsimp only)); refine box_event ?hg (N := 4) ?hd (cs := #[.int .u32 0, .int .u32 0, .int .u32 0, .int .u32 0, .int .u32 0]) (t := 47) ?hr ?_; (case hd => rfl); (case hg => rfl); (case hr => first | (go_simp; done) | (go_simp; rfl)); intro g4 hg w4 hbox hb; have BK4 := Aside0.mk hbox; have BK24 := Aside0.mk (blk_below BK2.out hb); have HB4 := Aside0.mk (below_step HB2.out hb); have GE4 := Aside0.mk (show w.heap.size ≤ g4 from by rw [hg]; exact HB2.out.size); clear hb hbox hg BK2 HB2))
  obtain ⟨hi, hhi⟩ : ∃ hi : Nat, hi = w4.heap.size := ⟨_, rfl⟩
  obtain ⟨wi, hwi⟩ : ∃ wi : World, wi = w4.iter s0 0 := ⟨_, rfl⟩
  rw [← hwi, ← hhi]
  have IT := Aside0.mk (show wi.heap[hi]? = some (.stringIter s0 0) from by rw [hwi, hhi]; exact World.iter_heap w4 s0 0)
  have hbi : Below w4.heap.size w4 wi := by rw [hwi]; exact below_alloc (Below.refl _ _) _
  have BK2i := Aside0.mk (blk_below BK24.out hbi)
  have BK4i := Aside0.mk (blk_below BK4.out hbi)
  have HBi := Aside0.mk (below_step HB4.out hbi)
  have HHI := Aside0.mk (show w.heap.size ≤ hi from by rw [hhi]; exact HB4.out.size)
  have HNE := Aside0.mk (show g2 ≠ g4 from blk_ne BK24.out BK4.out (by decide))
  clear hbi hwi hhi BK24 BK4 HB4
  go_loopg [5, 6] s0.size (fun kx s5 s6 wr => ∃ (k a d : Nat) (n : List Int), s5 = .int .i64 a ∧ s6 = .int .i64 d ∧ k ≤ s0.size ∧ s0.size - k ≤ kx ∧ prefix_Parse.ok n a d ∧ Aside0 (prefix_Parse.run (s0.data.toList.drop k) n a d = prefix_Parse.run s0.data.toList [0, 0, 0, 0, 0] 0 0) ∧ Aside0 (wr.heap[hi]? = some (.stringIter s0 k)) ∧ Aside0 (wr.heap[g2]? = some (.cells #[.int .u32 0, .int .u8 0] 24 (0, 0))) ∧ Aside0 (wr.heap[g4]? = some (.cells (n.map (Value.int .u32)).toArray 47 (0, 0))) ∧ Aside0 (Below w.heap.size w wr))
  case atStart => exact ⟨0, 0, 0, [0, 0, 0, 0, 0], rfl, rfl, Nat.zero_le _, Nat.le_refl _, ⟨rfl, by omega, by omega, fun i => by rcases i with _ | _ | _ | _ | _ | i <;> simp⟩, ⟨rfl⟩, IT, BK2i, BK4i, HBi⟩
  case round =>
    clear IT BK2i BK4i HBi
    obtain ⟨k, a, d, n, rfl, rfl, hk, hgas, hok, HR, IT, BK2, BK4, HB⟩ := hrel
    by_cases hlt : k < s0.size
    · have hne2 : g2 ≠ hi := fun e => by have h1 := BK2.out; rw [e, IT.out] at h1; cases h1
      have hne4 : g4 ≠ hi := fun e => by have h1 := BK4.out; rw [e, IT.out] at h1; cases h1
      have hnehi : hi ≠ g4 := fun e => hne4 e.symm
      have hne24 := HNE.out
      obtain ⟨o1, o2, o3, o4⟩ := hok
      by_cases ha : (s0[k]'hlt).toNat < 128
      · obtain ⟨c, hc⟩ : ∃ c : Nat, c = (s0[k]'hlt).toNat := ⟨_, rfl⟩
        have hnx := fun ty => Lib.run_next_ascii_at (P := Tryd.prog) wr hi s0 k ty IT.out hlt ha
        rw [← hc] at hnx ha
        obtain ⟨W1, hW1⟩ : ∃ W1 : World, W1 = wr.iterAt hi s0 (k + 1) := ⟨_, rfl⟩
        rw [← hW1] at hnx
        have IT1 := Aside0.mk (show W1.heap[hi]? = some (.stringIter s0 (k + 1)) from by rw [hW1]; exact Lib.iterAt_heap wr hi s0 k (k + 1) IT.out)
        have BK21 := Aside0.mk (show W1.heap[g2]? = some (.cells #[.int .u32 0, .int .u8 0] 24 (0, 0)) from by rw [hW1]; exact (Lib.iterAt_other wr hi g2 s0 _ hne2).trans BK2.out)
        have BK41 := Aside0.mk (show W1.heap[g4]? = some (.cells (n.map (Value.int .u32)).toArray 47 (0, 0)) from by rw [hW1]; exact (Lib.iterAt_other wr hi g4 s0 _ hne4).trans BK4.out)
        have HB1 := Aside0.mk (show Below w.heap.size w W1 from by rw [hW1]; exact Lib.below_iterAt HB.out HHI.out s0 _)
        clear hW1 hne2 hne4 IT BK2 BK4 HB
        have HC := Aside0.mk hc
        clear hc
        have OK4 := Aside0.mk o4
        have oa := o4 a
        have hcell := prefix_Parse.cell_at BK41.out (show a < n.length by omega)
        have hfz := blk_frozen BK41.out a
        have hfz0 := blk_frozen BK21.out 0
        have hfz1 := blk_frozen BK21.out 1
        have hg20 : W1.cell? ⟨g2, 0, none⟩ = some (.int .u32 0) := (blk_cell BK21.out 0).trans rfl
        have hg21 : W1.cell? ⟨g2, 1, none⟩ = some (.int .u8 0) := (blk_cell BK21.out 1).trans rfl
        have i1 : decide (0 ≤ (a : Int)) = true := decide_eq_true (by omega)
        have i2 : decide ((a : Int) < 5) = true := decide_eq_true (by omega)
        clear o4
        obtain ⟨m, hm⟩ : ∃ m : Int, n.getD a 0 = m := ⟨_, rfl⟩
        rw [hm] at hcell oa
        have HM := Aside0.mk hm
        clear hm
        by_cases t1 : 48 ≤ c
        · have u1 : decide ((c : Int) ≥ 48) = true := decide_eq_true (by omega)
          by_cases t2 : c ≤ 57
          · have u2 : decide ((c : Int) ≤ 57) = true := decide_eq_true (by omega)
            by_cases t3 : d < 3
            · have u3 : decide ((d : Int) < 3) = true := decide_eq_true (by omega)
              by_cases t4 : 0 < d
              · have u4 : decide ((d : Int) > 0) = true := decide_eq_true (by omega)
                by_cases t5 : m ≤ 0
                · have u5 : (m == 0) = true := beq_iff_eq.mpr (by omega)
                  have v1 : decide ((d : Int) > 0) = true := decide_eq_true (by omega)
                  by_cases a3 : a < 3
                  · have v2 : decide ((a : Int) < 3) = true := decide_eq_true (by omega)
                    have v3 : ((a : Int) == 3) = false := beq_eq_false_iff_ne.mpr (by omega)
                    have w46 : ((c : Int) == 46) = false := beq_eq_false_iff_ne.mpr (by omega)
                    go_wp2_with (fail)
                    refine bodyPost_ret (results_ct rfl _ _ g2 24 #[.int .u32 0, .int .u8 0] (0, 0) _ rfl (by refine blk_put (cs := #[.int .u32 0, .int .u8 0]) ?_ 1 _ rfl; refine blk_put (cs := #[.int .u32 0, .int .u8 0]) ?_ 0 _ rfl; exact BK21.out) Tryd.underlying24 rfl (by kernel_rfl)) rfl ?_
                    obtain ⟨rfl, rfl, rfl⟩ := prefix_Parse.err_of HF.out HR.out (prefix_Parse.run_none hlt (by rw [← HC.out]; exact ha) (by rw [← HC.out]; exact prefix_Parse.step_no (by rw [HM.out]; omega) (by omega)))
                    exact ⟨rfl, below_set (below_set (HB1.out) GE2.out) GE2.out⟩
                  · have v2 : decide ((a : Int) < 3) = false := decide_eq_false (by omega)
                    by_cases e3 : a ≤ 3
                    · have v3 : ((a : Int) == 3) = true := beq_iff_eq.mpr (by omega)
                      have w47 : ((c : Int) == 47) = false := beq_eq_false_iff_ne.mpr (by omega)
                      go_wp2_with (fail)
                      refine bodyPost_ret (results_ct rfl _ _ g2 24 #[.int .u32 0, .int .u8 0] (0, 0) _ rfl (by refine blk_put (cs := #[.int .u32 0, .int .u8 0]) ?_ 1 _ rfl; refine blk_put (cs := #[.int .u32 0, .int .u8 0]) ?_ 0 _ rfl; exact BK21.out) Tryd.underlying24 rfl (by kernel_rfl)) rfl ?_
                      obtain ⟨rfl, rfl, rfl⟩ := prefix_Parse.err_of HF.out HR.out (prefix_Parse.run_none hlt (by rw [← HC.out]; exact ha) (by rw [← HC.out]; exact prefix_Parse.step_no (by rw [HM.out]; omega) (by omega)))
                      exact ⟨rfl, below_set (below_set (HB1.out) GE2.out) GE2.out⟩
                    · have v3 : ((a : Int) == 3) = false := beq_eq_false_iff_ne.mpr (by omega)
                      go_wp2_with (fail)
                      refine bodyPost_ret (results_ct rfl _ _ g2 24 #[.int .u32 0, .int .u8 0] (0, 0) _ rfl (by refine blk_put (cs := #[.int .u32 0, .int .u8 0]) ?_ 1 _ rfl; refine blk_put (cs := #[.int .u32 0, .int .u8 0]) ?_ 0 _ rfl; exact BK21.out) Tryd.underlying24 rfl (by kernel_rfl)) rfl ?_
                      obtain ⟨rfl, rfl, rfl⟩ := prefix_Parse.err_of HF.out HR.out (prefix_Parse.run_none hlt (by rw [← HC.out]; exact ha) (by rw [← HC.out]; exact prefix_Parse.step_no (by rw [HM.out]; omega) (by omega)))
                      exact ⟨rfl, below_set (below_set (HB1.out) GE2.out) GE2.out⟩
                · have u5 : (m == 0) = false := beq_eq_false_iff_ne.mpr (by omega)
                  by_cases b255 : (10 * m + ((c : Int) - 48)) > 255
                  · have e255 : decide ((10 * m + ((c : Int) - 48)) > 255) = true := decide_eq_true (by omega)
                    go_wp2_with (fail)
                    refine bodyPost_ret (results_ct rfl _ _ g2 24 #[.int .u32 0, .int .u8 0] (0, 0) _ rfl (by refine blk_put (cs := #[.int .u32 0, .int .u8 0]) ?_ 1 _ rfl; refine blk_put (cs := #[.int .u32 0, .int .u8 0]) ?_ 0 _ rfl; exact blk_far BK21.out (p := ⟨g4, a, none⟩) hne24 _) Tryd.underlying24 rfl (by kernel_rfl)) rfl ?_
                    obtain ⟨rfl, rfl, rfl⟩ := prefix_Parse.err_of HF.out HR.out (prefix_Parse.run_none hlt (by rw [← HC.out]; exact ha) (by rw [← HC.out]; exact prefix_Parse.step_big (by rw [HM.out]; omega) (by rw [HM.out]; omega)))
                    exact ⟨rfl, below_set (below_set (below_set HB1.out GE4.out) GE2.out) GE2.out⟩
                  · have e255 : decide ((10 * m + ((c : Int) - 48)) > 255) = false := decide_eq_false (by omega)
                    have NX := Aside0.mk (prefix_Parse.run_next hlt (by rw [← HC.out]; exact ha) (by rw [← HC.out]; exact prefix_Parse.step_dig (n := n) (a := a) (d := d) (c := c) (by rw [HM.out]; omega) (by rw [HM.out]; omega)))
                    have OKX := Aside0.mk (prefix_Parse.ok_step (n := n) (a := a) (d := d) (c := c) ⟨o1, o2, o3, OK4.out⟩ (prefix_Parse.step_dig (by rw [HM.out]; omega) (by rw [HM.out]; omega)))
                    rw [HM.out] at NX OKX
                    go_wp2_with (fail)
                    go_roundg (s0.size - (k + 1))
                    case measure => omega
                    case rel => exact ⟨k + 1, a, d + 1, n.set a (10 * m + ((c : Int) - 48)), rfl, by go_num, by omega, Nat.le_refl _, OKX.out, ⟨by rw [← HR.out]; exact NX.out.symm⟩, ⟨(Below.heap_setCell _ _ _ _ hnehi).trans IT1.out⟩, ⟨blk_far BK21.out (p := ⟨g4, a, none⟩) hne24 _⟩, ⟨blk_put BK41.out a _ (prefix_Parse.set_arr n a _)⟩, ⟨below_set HB1.out GE4.out⟩⟩
              · have u4 : decide ((d : Int) > 0) = false := decide_eq_false (by omega)
                by_cases b255 : (10 * m + ((c : Int) - 48)) > 255
                · have e255 : decide ((10 * m + ((c : Int) - 48)) > 255) = true := decide_eq_true (by omega)
                  go_wp2_with (fail)
                  refine bodyPost_ret (results_ct rfl _ _ g2 24 #[.int .u32 0, .int .u8 0] (0, 0) _ rfl (by refine blk_put (cs := #[.int .u32 0, .int .u8 0]) ?_ 1 _ rfl; refine blk_put (cs := #[.int .u32 0, .int .u8 0]) ?_ 0 _ rfl; exact blk_far BK21.out (p := ⟨g4, a, none⟩) hne24 _) Tryd.underlying24 rfl (by kernel_rfl)) rfl ?_
                  obtain ⟨rfl, rfl, rfl⟩ := prefix_Parse.err_of HF.out HR.out (prefix_Parse.run_none hlt (by rw [← HC.out]; exact ha) (by rw [← HC.out]; exact prefix_Parse.step_big (by rw [HM.out]; omega) (by rw [HM.out]; omega)))
                  exact ⟨rfl, below_set (below_set (below_set HB1.out GE4.out) GE2.out) GE2.out⟩
                · have e255 : decide ((10 * m + ((c : Int) - 48)) > 255) = false := decide_eq_false (by omega)
                  have NX := Aside0.mk (prefix_Parse.run_next hlt (by rw [← HC.out]; exact ha) (by rw [← HC.out]; exact prefix_Parse.step_dig (n := n) (a := a) (d := d) (c := c) (by rw [HM.out]; omega) (by rw [HM.out]; omega)))
                  have OKX := Aside0.mk (prefix_Parse.ok_step (n := n) (a := a) (d := d) (c := c) ⟨o1, o2, o3, OK4.out⟩ (prefix_Parse.step_dig (by rw [HM.out]; omega) (by rw [HM.out]; omega)))
                  rw [HM.out] at NX OKX
                  go_wp2_with (fail)
                  go_roundg (s0.size - (k + 1))
                  case measure => omega
                  case rel => exact ⟨k + 1, a, d + 1, n.set a (10 * m + ((c : Int) - 48)), rfl, by go_num, by omega, Nat.le_refl _, OKX.out, ⟨by rw [← HR.out]; exact NX.out.symm⟩, ⟨(Below.heap_setCell _ _ _ _ hnehi).trans IT1.out⟩, ⟨blk_far BK21.out (p := ⟨g4, a, none⟩) hne24 _⟩, ⟨blk_put BK41.out a _ (prefix_Parse.set_arr n a _)⟩, ⟨below_set HB1.out GE4.out⟩⟩
            · have u3 : decide ((d : Int) < 3) = false := decide_eq_false (by omega)
              have v1 : decide ((d : Int) > 0) = true := decide_eq_true (by omega)
              by_cases a3 : a < 3
              · have v2 : decide ((a : Int) < 3) = true := decide_eq_true (by omega)
                have v3 : ((a : Int) == 3) = false := beq_eq_false_iff_ne.mpr (by omega)
                have w46 : ((c : Int) == 46) = false := beq_eq_false_iff_ne.mpr (by omega)
                go_wp2_with (fail)
                refine bodyPost_ret (results_ct rfl _ _ g2 24 #[.int .u32 0, .int .u8 0] (0, 0) _ rfl (by refine blk_put (cs := #[.int .u32 0, .int .u8 0]) ?_ 1 _ rfl; refine blk_put (cs := #[.int .u32 0, .int .u8 0]) ?_ 0 _ rfl; exact BK21.out) Tryd.underlying24 rfl (by kernel_rfl)) rfl ?_
                obtain ⟨rfl, rfl, rfl⟩ := prefix_Parse.err_of HF.out HR.out (prefix_Parse.run_none hlt (by rw [← HC.out]; exact ha) (by rw [← HC.out]; exact prefix_Parse.step_no (by rw [HM.out]; omega) (by omega)))
                exact ⟨rfl, below_set (below_set (HB1.out) GE2.out) GE2.out⟩
              · have v2 : decide ((a : Int) < 3) = false := decide_eq_false (by omega)
                by_cases e3 : a ≤ 3
                · have v3 : ((a : Int) == 3) = true := beq_iff_eq.mpr (by omega)
                  have w47 : ((c : Int) == 47) = false := beq_eq_false_iff_ne.mpr (by omega)
                  go_wp2_with (fail)
                  refine bodyPost_ret (results_ct rfl _ _ g2 24 #[.int .u32 0, .int .u8 0] (0, 0) _ rfl (by refine blk_put (cs := #[.int .u32 0, .int .u8 0]) ?_ 1 _ rfl; refine blk_put (cs := #[.int .u32 0, .int .u8 0]) ?_ 0 _ rfl; exact BK21.out) Tryd.underlying24 rfl (by kernel_rfl)) rfl ?_
                  obtain ⟨rfl, rfl, rfl⟩ := prefix_Parse.err_of HF.out HR.out (prefix_Parse.run_none hlt (by rw [← HC.out]; exact ha) (by rw [← HC.out]; exact prefix_Parse.step_no (by rw [HM.out]; omega) (by omega)))
                  exact ⟨rfl, below_set (below_set (HB1.out) GE2.out) GE2.out⟩
                · have v3 : ((a : Int) == 3) = false := beq_eq_false_iff_ne.mpr (by omega)
                  go_wp2_with (fail)
                  refine bodyPost_ret (results_ct rfl _ _ g2 24 #[.int .u32 0, .int .u8 0] (0, 0) _ rfl (by refine blk_put (cs := #[.int .u32 0, .int .u8 0]) ?_ 1 _ rfl; refine blk_put (cs := #[.int .u32 0, .int .u8 0]) ?_ 0 _ rfl; exact BK21.out) Tryd.underlying24 rfl (by kernel_rfl)) rfl ?_
                  obtain ⟨rfl, rfl, rfl⟩ := prefix_Parse.err_of HF.out HR.out (prefix_Parse.run_none hlt (by rw [← HC.out]; exact ha) (by rw [← HC.out]; exact prefix_Parse.step_no (by rw [HM.out]; omega) (by omega)))
                  exact ⟨rfl, below_set (below_set (HB1.out) GE2.out) GE2.out⟩
          · have u2 : decide ((c : Int) ≤ 57) = false := decide_eq_false (by omega)
            by_cases d0 : 0 < d
            · have v1 : decide ((d : Int) > 0) = true := decide_eq_true (by omega)
              by_cases a3 : a < 3
              · have v2 : decide ((a : Int) < 3) = true := decide_eq_true (by omega)
                have v3 : ((a : Int) == 3) = false := beq_eq_false_iff_ne.mpr (by omega)
                by_cases s46 : 46 ≤ c ∧ c ≤ 46
                · have w46 : ((c : Int) == 46) = true := beq_iff_eq.mpr (by omega)
                  have j1 : decide (0 ≤ (a : Int) + 1) = true := decide_eq_true (by omega)
                  have j2 : decide ((a : Int) + 1 < 5) = true := decide_eq_true (by omega)
                  have j3 : (((a : Int) + 1)).toNat = a + 1 := by omega
                  have oa1 := OK4.out (a + 1)
                  have hcell1 : W1.cell? ⟨g4, a + 1, none⟩ = some (.int .u32 (n.getD (a + 1) 0)) := prefix_Parse.cell_at BK41.out (by omega)
                  have NX := Aside0.mk (prefix_Parse.run_next hlt (by rw [← HC.out]; exact ha) (by rw [← HC.out]; exact prefix_Parse.step_sep (n := n) (by rw [HM.out]; omega) (by omega) (by omega)))
                  generalize n.getD (a + 1) 0 = m1 at hcell1 oa1
                  have e255 : decide (m1 > 255) = false := decide_eq_false (by omega)
                  clear oa oa1
                  go_wp2_with (fail)
                  go_roundg (s0.size - (k + 1))
                  case measure => omega
                  case rel => exact ⟨k + 1, a + 1, 0, n, by go_num, rfl, by omega, Nat.le_refl _, ⟨o1, by omega, by omega, OK4.out⟩, ⟨by rw [← HR.out]; exact NX.out.symm⟩, IT1, BK21, BK41, HB1⟩
                · have w46 : ((c : Int) == 46) = false := beq_eq_false_iff_ne.mpr (by omega)
                  go_wp2_with (fail)
                  refine bodyPost_ret (results_ct rfl _ _ g2 24 #[.int .u32 0, .int .u8 0] (0, 0) _ rfl (by refine blk_put (cs := #[.int .u32 0, .int .u8 0]) ?_ 1 _ rfl; refine blk_put (cs := #[.int .u32 0, .int .u8 0]) ?_ 0 _ rfl; exact BK21.out) Tryd.underlying24 rfl (by kernel_rfl)) rfl ?_
                  obtain ⟨rfl, rfl, rfl⟩ := prefix_Parse.err_of HF.out HR.out (prefix_Parse.run_none hlt (by rw [← HC.out]; exact ha) (by rw [← HC.out]; exact prefix_Parse.step_no (by rw [HM.out]; omega) (by omega)))
                  exact ⟨rfl, below_set (below_set (HB1.out) GE2.out) GE2.out⟩
              · have v2 : decide ((a : Int) < 3) = false := decide_eq_false (by omega)
                by_cases e3 : a ≤ 3
                · have v3 : ((a : Int) == 3) = true := beq_iff_eq.mpr (by omega)
                  by_cases s47 : 47 ≤ c ∧ c ≤ 47
                  · have w47 : ((c : Int) == 47) = true := beq_iff_eq.mpr (by omega)
                    have j1 : decide (0 ≤ (a : Int) + 1) = true := decide_eq_true (by omega)
                    have j2 : decide ((a : Int) + 1 < 5) = true := decide_eq_true (by omega)
                    have j3 : (((a : Int) + 1)).toNat = a + 1 := by omega
                    have oa1 := OK4.out (a + 1)
                    have hcell1 : W1.cell? ⟨g4, a + 1, none⟩ = some (.int .u32 (n.getD (a + 1) 0)) := prefix_Parse.cell_at BK41.out (by omega)
                    have NX := Aside0.mk (prefix_Parse.run_next hlt (by rw [← HC.out]; exact ha) (by rw [← HC.out]; exact prefix_Parse.step_sep (n := n) (by rw [HM.out]; omega) (by omega) (by omega)))
                    generalize n.getD (a + 1) 0 = m1 at hcell1 oa1
                    have e255 : decide (m1 > 255) = false := decide_eq_false (by omega)
                    clear oa oa1
                    go_wp2_with (fail)
                    go_roundg (s0.size - (k + 1))
                    case measure => omega
                    case rel => exact ⟨k + 1, a + 1, 0, n, by go_num, rfl, by omega, Nat.le_refl _, ⟨o1, by omega, by omega, OK4.out⟩, ⟨by rw [← HR.out]; exact NX.out.symm⟩, IT1, BK21, BK41, HB1⟩
                  · have w47 : ((c : Int) == 47) = false := beq_eq_false_iff_ne.mpr (by omega)
                    go_wp2_with (fail)
                    refine bodyPost_ret (results_ct rfl _ _ g2 24 #[.int .u32 0, .int .u8 0] (0, 0) _ rfl (by refine blk_put (cs := #[.int .u32 0, .int .u8 0]) ?_ 1 _ rfl; refine blk_put (cs := #[.int .u32 0, .int .u8 0]) ?_ 0 _ rfl; exact BK21.out) Tryd.underlying24 rfl (by kernel_rfl)) rfl ?_
                    obtain ⟨rfl, rfl, rfl⟩ := prefix_Parse.err_of HF.out HR.out (prefix_Parse.run_none hlt (by rw [← HC.out]; exact ha) (by rw [← HC.out]; exact prefix_Parse.step_no (by rw [HM.out]; omega) (by omega)))
                    exact ⟨rfl, below_set (below_set (HB1.out) GE2.out) GE2.out⟩
                · have v3 : ((a : Int) == 3) = false := beq_eq_false_iff_ne.mpr (by omega)
                  go_wp2_with (fail)
                  refine bodyPost_ret (results_ct rfl _ _ g2 24 #[.int .u32 0, .int .u8 0] (0, 0) _ rfl (by refine blk_put (cs := #[.int .u32 0, .int .u8 0]) ?_ 1 _ rfl; refine blk_put (cs := #[.int .u32 0, .int .u8 0]) ?_ 0 _ rfl; exact BK21.out) Tryd.underlying24 rfl (by kernel_rfl)) rfl ?_
                  obtain ⟨rfl, rfl, rfl⟩ := prefix_Parse.err_of HF.out HR.out (prefix_Parse.run_none hlt (by rw [← HC.out]; exact ha) (by rw [← HC.out]; exact prefix_Parse.step_no (by rw [HM.out]; omega) (by omega)))
                  exact ⟨rfl, below_set (below_set (HB1.out) GE2.out) GE2.out⟩
            · have v1 : decide ((d : Int) > 0) = false := decide_eq_false (by omega)
              go_wp2_with (fail)
              refine bodyPost_ret (results_ct rfl _ _ g2 24 #[.int .u32 0, .int .u8 0] (0, 0) _ rfl (by refine blk_put (cs := #[.int .u32 0, .int .u8 0]) ?_ 1 _ rfl; refine blk_put (cs := #[.int .u32 0, .int .u8 0]) ?_ 0 _ rfl; exact BK21.out) Tryd.underlying24 rfl (by kernel_rfl)) rfl ?_
              obtain ⟨rfl, rfl, rfl⟩ := prefix_Parse.err_of HF.out HR.out (prefix_Parse.run_none hlt (by rw [← HC.out]; exact ha) (by rw [← HC.out]; exact prefix_Parse.step_no (by rw [HM.out]; omega) (by omega)))
              exact ⟨rfl, below_set (below_set (HB1.out) GE2.out) GE2.out⟩
        · have u1 : decide ((c : Int) ≥ 48) = false := decide_eq_false (by omega)
          by_cases d0 : 0 < d
          · have v1 : decide ((d : Int) > 0) = true := decide_eq_true (by omega)
            by_cases a3 : a < 3
            · have v2 : decide ((a : Int) < 3) = true := decide_eq_true (by omega)
              have v3 : ((a : Int) == 3) = false := beq_eq_false_iff_ne.mpr (by omega)
              by_cases s46 : 46 ≤ c ∧ c ≤ 46
              · have w46 : ((c : Int) == 46) = true := beq_iff_eq.mpr (by omega)
                have j1 : decide (0 ≤ (a : Int) + 1) = true := decide_eq_true (by omega)
                have j2 : decide ((a : Int) + 1 < 5) = true := decide_eq_true (by omega)
                have j3 : (((a : Int) + 1)).toNat = a + 1 := by omega
                have oa1 := OK4.out (a + 1)
                have hcell1 : W1.cell? ⟨g4, a + 1, none⟩ = some (.int .u32 (n.getD (a + 1) 0)) := prefix_Parse.cell_at BK41.out (by omega)
                have NX := Aside0.mk (prefix_Parse.run_next hlt (by rw [← HC.out]; exact ha) (by rw [← HC.out]; exact prefix_Parse.step_sep (n := n) (by rw [HM.out]; omega) (by omega) (by omega)))
                generalize n.getD (a + 1) 0 = m1 at hcell1 oa1
                have e255 : decide (m1 > 255) = false := decide_eq_false (by omega)
                clear oa oa1
                go_wp2_with (fail)
                go_roundg (s0.size - (k + 1))
                case measure => omega
                case rel => exact ⟨k + 1, a + 1, 0, n, by go_num, rfl, by omega, Nat.le_refl _, ⟨o1, by omega, by omega, OK4.out⟩, ⟨by rw [← HR.out]; exact NX.out.symm⟩, IT1, BK21, BK41, HB1⟩
              · have w46 : ((c : Int) == 46) = false := beq_eq_false_iff_ne.mpr (by omega)
                go_wp2_with (fail)
                refine bodyPost_ret (results_ct rfl _ _ g2 24 #[.int .u32 0, .int .u8 0] (0, 0) _ rfl (by refine blk_put (cs := #[.int .u32 0, .int .u8 0]) ?_ 1 _ rfl; refine blk_put (cs := #[.int .u32 0, .int .u8 0]) ?_ 0 _ rfl; exact BK21.out) Tryd.underlying24 rfl (by kernel_rfl)) rfl ?_
                obtain ⟨rfl, rfl, rfl⟩ := prefix_Parse.err_of HF.out HR.out (prefix_Parse.run_none hlt (by rw [← HC.out]; exact ha) (by rw [← HC.out]; exact prefix_Parse.step_no (by rw [HM.out]; omega) (by omega)))
                exact ⟨rfl, below_set (below_set (HB1.out) GE2.out) GE2.out⟩
            · have v2 : decide ((a : Int) < 3) = false := decide_eq_false (by omega)
              by_cases e3 : a ≤ 3
              · have v3 : ((a : Int) == 3) = true := beq_iff_eq.mpr (by omega)
                by_cases s47 : 47 ≤ c ∧ c ≤ 47
                · have w47 : ((c : Int) == 47) = true := beq_iff_eq.mpr (by omega)
                  have j1 : decide (0 ≤ (a : Int) + 1) = true := decide_eq_true (by omega)
                  have j2 : decide ((a : Int) + 1 < 5) = true := decide_eq_true (by omega)
                  have j3 : (((a : Int) + 1)).toNat = a + 1 := by omega
                  have oa1 := OK4.out (a + 1)
                  have hcell1 : W1.cell? ⟨g4, a + 1, none⟩ = some (.int .u32 (n.getD (a + 1) 0)) := prefix_Parse.cell_at BK41.out (by omega)
                  have NX := Aside0.mk (prefix_Parse.run_next hlt (by rw [← HC.out]; exact ha) (by rw [← HC.out]; exact prefix_Parse.step_sep (n := n) (by rw [HM.out]; omega) (by omega) (by omega)))
                  generalize n.getD (a + 1) 0 = m1 at hcell1 oa1
                  have e255 : decide (m1 > 255) = false := decide_eq_false (by omega)
                  clear oa oa1
                  go_wp2_with (fail)
                  go_roundg (s0.size - (k + 1))
                  case measure => omega
                  case rel => exact ⟨k + 1, a + 1, 0, n, by go_num, rfl, by omega, Nat.le_refl _, ⟨o1, by omega, by omega, OK4.out⟩, ⟨by rw [← HR.out]; exact NX.out.symm⟩, IT1, BK21, BK41, HB1⟩
                · have w47 : ((c : Int) == 47) = false := beq_eq_false_iff_ne.mpr (by omega)
                  go_wp2_with (fail)
                  refine bodyPost_ret (results_ct rfl _ _ g2 24 #[.int .u32 0, .int .u8 0] (0, 0) _ rfl (by refine blk_put (cs := #[.int .u32 0, .int .u8 0]) ?_ 1 _ rfl; refine blk_put (cs := #[.int .u32 0, .int .u8 0]) ?_ 0 _ rfl; exact BK21.out) Tryd.underlying24 rfl (by kernel_rfl)) rfl ?_
                  obtain ⟨rfl, rfl, rfl⟩ := prefix_Parse.err_of HF.out HR.out (prefix_Parse.run_none hlt (by rw [← HC.out]; exact ha) (by rw [← HC.out]; exact prefix_Parse.step_no (by rw [HM.out]; omega) (by omega)))
                  exact ⟨rfl, below_set (below_set (HB1.out) GE2.out) GE2.out⟩
              · have v3 : ((a : Int) == 3) = false := beq_eq_false_iff_ne.mpr (by omega)
                go_wp2_with (fail)
                refine bodyPost_ret (results_ct rfl _ _ g2 24 #[.int .u32 0, .int .u8 0] (0, 0) _ rfl (by refine blk_put (cs := #[.int .u32 0, .int .u8 0]) ?_ 1 _ rfl; refine blk_put (cs := #[.int .u32 0, .int .u8 0]) ?_ 0 _ rfl; exact BK21.out) Tryd.underlying24 rfl (by kernel_rfl)) rfl ?_
                obtain ⟨rfl, rfl, rfl⟩ := prefix_Parse.err_of HF.out HR.out (prefix_Parse.run_none hlt (by rw [← HC.out]; exact ha) (by rw [← HC.out]; exact prefix_Parse.step_no (by rw [HM.out]; omega) (by omega)))
                exact ⟨rfl, below_set (below_set (HB1.out) GE2.out) GE2.out⟩
          · have v1 : decide ((d : Int) > 0) = false := decide_eq_false (by omega)
            go_wp2_with (fail)
            refine bodyPost_ret (results_ct rfl _ _ g2 24 #[.int .u32 0, .int .u8 0] (0, 0) _ rfl (by refine blk_put (cs := #[.int .u32 0, .int .u8 0]) ?_ 1 _ rfl; refine blk_put (cs := #[.int .u32 0, .int .u8 0]) ?_ 0 _ rfl; exact BK21.out) Tryd.underlying24 rfl (by kernel_rfl)) rfl ?_
            obtain ⟨rfl, rfl, rfl⟩ := prefix_Parse.err_of HF.out HR.out (prefix_Parse.run_none hlt (by rw [← HC.out]; exact ha) (by rw [← HC.out]; exact prefix_Parse.step_no (by rw [HM.out]; omega) (by omega)))
            exact ⟨rfl, below_set (below_set (HB1.out) GE2.out) GE2.out⟩
      · obtain ⟨R, hR⟩ : ∃ R : Int, R = (Utf8.decode s0 k).1 := ⟨_, rfl⟩
        have hR128 : 128 ≤ R := by have := (decode_high s0 k hlt (by omega)).1; omega
        have hnx := fun ty => Lib.run_next_any_at (P := Tryd.prog) wr hi s0 k ty IT.out hlt
        obtain ⟨W1, hW1⟩ : ∃ W1 : World, W1 = wr.iterAt hi s0 (k + (Utf8.decode s0 k).2) := ⟨_, rfl⟩
        rw [← hW1, ← hR] at hnx
        have BK21 := Aside0.mk (show W1.heap[g2]? = some (.cells #[.int .u32 0, .int .u8 0] 24 (0, 0)) from by rw [hW1]; exact (Lib.iterAt_other wr hi g2 s0 _ hne2).trans BK2.out)
        have HB1 := Aside0.mk (show Below w.heap.size w W1 from by rw [hW1]; exact Lib.below_iterAt HB.out HHI.out s0 _)
        clear hW1 hR hne2 hne4 IT BK2 BK4 HB
        have hfz0 := blk_frozen BK21.out 0
        have hfz1 := blk_frozen BK21.out 1
        have hg20 : W1.cell? ⟨g2, 0, none⟩ = some (.int .u32 0) := (blk_cell BK21.out 0).trans rfl
        have hg21 : W1.cell? ⟨g2, 1, none⟩ = some (.int .u8 0) := (blk_cell BK21.out 1).trans rfl
        clear o4
        have u1 : decide (R ≥ 48) = true := decide_eq_true (by omega)
        have u2 : decide (R ≤ 57) = false := decide_eq_false (by omega)
        by_cases d0 : 0 < d
        · have v1 : decide ((d : Int) > 0) = true := decide_eq_true (by omega)
          by_cases a3 : a < 3
          · have v2 : decide ((a : Int) < 3) = true := decide_eq_true (by omega)
            have v3 : ((a : Int) == 3) = false := beq_eq_false_iff_ne.mpr (by omega)
            have w46 : (R == 46) = false := beq_eq_false_iff_ne.mpr (by omega)
            go_wp2_with (fail)
            refine bodyPost_ret (results_ct rfl _ _ g2 24 #[.int .u32 0, .int .u8 0] (0, 0) _ rfl (by refine blk_put (cs := #[.int .u32 0, .int .u8 0]) ?_ 1 _ rfl; refine blk_put (cs := #[.int .u32 0, .int .u8 0]) ?_ 0 _ rfl; exact BK21.out) Tryd.underlying24 rfl (by kernel_rfl)) rfl ?_
            obtain ⟨rfl, rfl, rfl⟩ := prefix_Parse.err_of HF.out HR.out (prefix_Parse.run_high hlt ha)
            exact ⟨rfl, below_set (below_set (HB1.out) GE2.out) GE2.out⟩
          · have v2 : decide ((a : Int) < 3) = false := decide_eq_false (by omega)
            by_cases e3 : a ≤ 3
            · have v3 : ((a : Int) == 3) = true := beq_iff_eq.mpr (by omega)
              have w47 : (R == 47) = false := beq_eq_false_iff_ne.mpr (by omega)
              go_wp2_with (fail)
              refine bodyPost_ret (results_ct rfl _ _ g2 24 #[.int .u32 0, .int .u8 0] (0, 0) _ rfl (by refine blk_put (cs := #[.int .u32 0, .int .u8 0]) ?_ 1 _ rfl; refine blk_put (cs := #[.int .u32 0, .int .u8 0]) ?_ 0 _ rfl; exact BK21.out) Tryd.underlying24 rfl (by kernel_rfl)) rfl ?_
              obtain ⟨rfl, rfl, rfl⟩ := prefix_Parse.err_of HF.out HR.out (prefix_Parse.run_high hlt ha)
              exact ⟨rfl, below_set (below_set (HB1.out) GE2.out) GE2.out⟩
            · have v3 : ((a : Int) == 3) = false := beq_eq_false_iff_ne.mpr (by omega)
              go_wp2_with (fail)
              refine bodyPost_ret (results_ct rfl _ _ g2 24 #[.int .u32 0, .int .u8 0] (0, 0) _ rfl (by refine blk_put (cs := #[.int .u32 0, .int .u8 0]) ?_ 1 _ rfl; refine blk_put (cs := #[.int .u32 0, .int .u8 0]) ?_ 0 _ rfl; exact BK21.out) Tryd.underlying24 rfl (by kernel_rfl)) rfl ?_
              obtain ⟨rfl, rfl, rfl⟩ := prefix_Parse.err_of HF.out HR.out (prefix_Parse.run_high hlt ha)
              exact ⟨rfl, below_set (below_set (HB1.out) GE2.out) GE2.out⟩
        · have v1 : decide ((d : Int) > 0) = false := decide_eq_false (by omega)
          go_wp2_with (fail)
          refine bodyPost_ret (results_ct rfl _ _ g2 24 #[.int .u32 0, .int .u8 0] (0, 0) _ rfl (by refine blk_put (cs := #[.int .u32 0, .int .u8 0]) ?_ 1 _ rfl; refine blk_put (cs := #[.int .u32 0, .int .u8 0]) ?_ 0 _ rfl; exact BK21.out) Tryd.underlying24 rfl (by kernel_rfl)) rfl ?_
          obtain ⟨rfl, rfl, rfl⟩ := prefix_Parse.err_of HF.out HR.out (prefix_Parse.run_high hlt ha)
          exact ⟨rfl, below_set (below_set (HB1.out) GE2.out) GE2.out⟩
    · obtain rfl : k = s0.size := by omega
      have hnx := fun ty => Lib.run_next_end_at (P := Tryd.prog) wr hi s0 s0.size ty IT.out hlt
      have FIN := Aside0.mk (prefix_Parse.fin_of HF.out HR.out)
      obtain ⟨o1, o2, o3, o4⟩ := hok
      have e0 := o4 0
      have e1 := o4 1
      have e2 := o4 2
      have e3 := o4 3
      have e4 := o4 4
      have c0 := prefix_Parse.cell_at BK4.out (show 0 < n.length by omega)
      have c1 := prefix_Parse.cell_at BK4.out (show 1 < n.length by omega)
      have c2 := prefix_Parse.cell_at BK4.out (show 2 < n.length by omega)
      have c3 := prefix_Parse.cell_at BK4.out (show 3 < n.length by omega)
      have c4 := prefix_Parse.cell_at BK4.out (show 4 < n.length by omega)
      clear o4 HR HF
      obtain ⟨AA, hAA⟩ : ∃ AA : Int, AA = prefix_Parse.addr n := ⟨_, rfl⟩
      have FIN2 := Aside0.mk (show (if a = 4 ∧ 0 < d then (prefix_Right.f AA (n.getD 4 0)).bind fun rt => if rt = true then some (AA, n.getD 4 0, 0) else some (0, 0, 4) else some (0, 0, 4)) = some (r1, r2, r3) from by rw [hAA]; exact FIN.out)
      have HAA := Aside0.mk hAA
      clear FIN hAA
      obtain ⟨n0, h0⟩ : ∃ x : Int, n.getD 0 0 = x := ⟨_, rfl⟩
      obtain ⟨n1, h1⟩ : ∃ x : Int, n.getD 1 0 = x := ⟨_, rfl⟩
      obtain ⟨n2, h2⟩ : ∃ x : Int, n.getD 2 0 = x := ⟨_, rfl⟩
      obtain ⟨n3, h3⟩ : ∃ x : Int, n.getD 3 0 = x := ⟨_, rfl⟩
      obtain ⟨n4, h4⟩ : ∃ x : Int, n.getD 4 0 = x := ⟨_, rfl⟩
      have HA2 := Aside0.mk (show Go.bits .or .u32 (Go.bits .or .u32 (Go.bits .or .u32 (n0 * 16777216) (n1 * 65536)) (n2 * 256)) n3 = AA from by rw [HAA.out, ← h0, ← h1, ← h2, ← h3]; rfl)
      have FIN3 := Aside0.mk (show (if a = 4 ∧ 0 < d then (prefix_Right.f AA n4).bind fun rt => if rt = true then some (AA, n4, 0) else some (0, 0, 4) else some (0, 0, 4)) = some (r1, r2, r3) from by rw [← h4]; exact FIN2.out)
      rw [h0] at c0 e0
      rw [h1] at c1 e1
      rw [h2] at c2 e2
      rw [h3] at c3 e3
      rw [h4] at c4 e4
      clear HAA h0 h1 h2 h3 h4 FIN2
      go_upto_region 14 with (fail)
      rw [HA2.out]
      clear c0 c1 c2 c3 c4
      obtain ⟨g9, hg9⟩ : ∃ g9 : Nat, g9 = wr.heap.size := ⟨_, rfl⟩
      obtain ⟨V, hV⟩ : ∃ V : World, V = wr.alloc (.cells #[.int .u32 AA, .int .u8 n4] 24 (0, 0)) := ⟨_, rfl⟩
      rw [← hV, ← hg9]
      have BK9 := Aside0.mk (show V.heap[g9]? = some (.cells #[.int .u32 AA, .int .u8 n4] 24 (0, 0)) from by rw [hV, hg9]; exact heap_alloc_new wr _)
      have BK2V := Aside0.mk (show V.heap[g2]? = some (.cells #[.int .u32 0, .int .u8 0] 24 (0, 0)) from by rw [hV]; exact blk_alloc BK2.out _)
      have HBV := Aside0.mk (show Below w.heap.size w V from by rw [hV]; exact below_alloc HB.out _)
      have NE29 : g2 ≠ g9 := by have := blk_lt BK2.out; omega
      clear hV hg9 BK2 BK4 HB IT hnx
      have k0 : V.cell? ⟨g9, 0, none⟩ = some (.int .u32 AA) := (blk_cell BK9.out 0).trans rfl
      have k1 : V.cell? ⟨g9, 1, none⟩ = some (.int .u8 n4) := (blk_cell BK9.out 1).trans rfl
      have q0 : V.cell? ⟨g2, 0, none⟩ = some (.int .u32 0) := (blk_cell BK2V.out 0).trans rfl
      have q1 : V.cell? ⟨g2, 1, none⟩ = some (.int .u8 0) := (blk_cell BK2V.out 1).trans rfl
      have z0 := blk_frozen BK2V.out 0
      have z1 := blk_frozen BK2V.out 1
      by_cases e4' : 4 ≤ a
      · have v1 : ((a : Int) != 4) = false := bne_eq_false_iff_eq.mpr (by omega)
        have v2 : ((a : Int) == 4) = true := beq_iff_eq.mpr (by omega)
        by_cases d0 : 0 < d
        · have v3 : ((d : Int) == 0) = false := beq_eq_false_iff_ne.mpr (by omega)
          have hf := FIN3.out
          rw [if_pos ⟨by omega, d0⟩] at hf
          obtain ⟨rt, hrt, hf⟩ := Option.bind_eq_some_iff.mp hf
          have HRT := Aside0.mk hrt
          have HF2 := Aside0.mk hf
          clear hrt hf FIN3
          cases rt
          · go_wp2_with (fail)
            refine (prefix_Right.calls AA n4 false _ HRT.out).mono ?_
            rintro e w5 ⟨rfl, hb⟩
            have BK25 := Aside0.mk (blk_below BK2V.out hb)
            have HB5 := Aside0.mk (below_step HBV.out hb)
            clear hb q0 q1 z0 z1 k0 k1
            have q0 : w5.cell? ⟨g2, 0, none⟩ = some (.int .u32 0) := (blk_cell BK25.out 0).trans rfl
            have q1 : w5.cell? ⟨g2, 1, none⟩ = some (.int .u8 0) := (blk_cell BK25.out 1).trans rfl
            have z0 := blk_frozen BK25.out 0
            have z1 := blk_frozen BK25.out 1
            go_wp2_with (fail)
            have hf := HF2.out
            rw [if_neg (by decide)] at hf
            simp only [Option.some.injEq, Prod.mk.injEq] at hf
            obtain ⟨rfl, rfl, rfl⟩ := hf
            refine bodyPost_ret (results_ct rfl _ _ g2 24 #[.int .u32 0, .int .u8 0] (0, 0) _ rfl (by refine blk_put (cs := #[.int .u32 0, .int .u8 0]) ?_ 1 _ rfl; refine blk_put (cs := #[.int .u32 0, .int .u8 0]) ?_ 0 _ rfl; exact BK25.out) Tryd.underlying24 rfl (by kernel_rfl)) rfl ?_
            exact ⟨rfl, below_set (below_set HB5.out GE2.out) GE2.out⟩
          · go_wp2_with (fail)
            refine (prefix_Right.calls AA n4 true _ HRT.out).mono ?_
            rintro e w5 ⟨rfl, hb⟩
            have BK25 := Aside0.mk (blk_below BK2V.out hb)
            have BK95 := Aside0.mk (blk_below BK9.out hb)
            have HB5 := Aside0.mk (below_step HBV.out hb)
            clear hb q0 q1 z0 z1 k0 k1
            have q0 : w5.cell? ⟨g2, 0, none⟩ = some (.int .u32 0) := (blk_cell BK25.out 0).trans rfl
            have q1 : w5.cell? ⟨g2, 1, none⟩ = some (.int .u8 0) := (blk_cell BK25.out 1).trans rfl
            have z0 := blk_frozen BK25.out 0
            have z1 := blk_frozen BK25.out 1
            have k0 : w5.cell? ⟨g9, 0, none⟩ = some (.int .u32 AA) := (blk_cell BK95.out 0).trans rfl
            have k1 : w5.cell? ⟨g9, 1, none⟩ = some (.int .u8 n4) := (blk_cell BK95.out 1).trans rfl
            go_wp2_with (fail)
            have hf := HF2.out
            simp only [if_true] at hf
            simp only [Option.some.injEq, Prod.mk.injEq] at hf
            obtain ⟨rfl, rfl, rfl⟩ := hf
            refine bodyPost_ret (results_ct rfl _ _ g2 24 #[.int .u32 AA, .int .u8 n4] (0, 0) _ rfl (by refine blk_put (cs := #[.int .u32 AA, .int .u8 0]) ?_ 1 _ rfl; refine blk_put (cs := #[.int .u32 0, .int .u8 0]) ?_ 0 _ rfl; exact BK25.out) Tryd.underlying24 rfl (by kernel_rfl)) rfl ?_
            exact ⟨rfl, below_set (below_set HB5.out GE2.out) GE2.out⟩
        · have v3 : ((d : Int) == 0) = true := beq_iff_eq.mpr (by omega)
          go_wp2_with (fail)
          have hf := FIN3.out
          rw [if_neg (by omega)] at hf
          simp only [Option.some.injEq, Prod.mk.injEq] at hf
          obtain ⟨rfl, rfl, rfl⟩ := hf
          refine bodyPost_ret (results_ct rfl _ _ g2 24 #[.int .u32 0, .int .u8 0] (0, 0) _ rfl (by refine blk_put (cs := #[.int .u32 0, .int .u8 0]) ?_ 1 _ rfl; refine blk_put (cs := #[.int .u32 0, .int .u8 0]) ?_ 0 _ rfl; exact BK2V.out) Tryd.underlying24 rfl (by kernel_rfl)) rfl ?_
          exact ⟨rfl, below_set (below_set HBV.out GE2.out) GE2.out⟩
      · have v1 : ((a : Int) != 4) = true := bne_iff_ne.mpr (by omega)
        have v2 : ((a : Int) == 4) = false := beq_eq_false_iff_ne.mpr (by omega)
        go_wp2_with (fail)
        have hf := FIN3.out
        rw [if_neg (by omega)] at hf
        simp only [Option.some.injEq, Prod.mk.injEq] at hf
        obtain ⟨rfl, rfl, rfl⟩ := hf
        refine bodyPost_ret (results_ct rfl _ _ g2 24 #[.int .u32 0, .int .u8 0] (0, 0) _ rfl (by refine blk_put (cs := #[.int .u32 0, .int .u8 0]) ?_ 1 _ rfl; refine blk_put (cs := #[.int .u32 0, .int .u8 0]) ?_ 0 _ rfl; exact BK2V.out) Tryd.underlying24 rfl (by kernel_rfl)) rfl ?_
        exact ⟨rfl, below_set (below_set HBV.out GE2.out) GE2.out⟩

/-! ### milestoneref01_num: function 29 -/
def milestoneref01_num.f : Nat → Int → Option (ByteArray)
  | 0, _ => none
  | k + 1, a0 => if a0 < 10 then (some (strOfNums (([((48 + a0)) % 256] : List Int)))) else ((milestoneref01_num.f k ((Int.tdiv a0 10) % 4294967296)).bind fun t118 => ((milestoneref01_num.f k (Int.tmod a0 10)).bind fun t119 => (if t118.size + t119.size ≤ 9223372036854775807 then (some (t118 ++ t119)) else (none))))
theorem milestoneref01_num.mono_l : ∀ k, (∀ y0, LeO (milestoneref01_num.f k y0) (milestoneref01_num.f (k + 1) y0))
  | 0 => fun _ r h => by simp [milestoneref01_num.f] at h
  | k + 1 => by
    have ih0 := milestoneref01_num.mono_l k
    · intro y0
      unfold milestoneref01_num.f
      repeat' first
      | (with_reducible exact ih0 _)
      | (with_reducible exact LeO.refl _)
      | (with_reducible exact LeO.none _)
      | (with_reducible refine LeO.ite ?_ ?_)
      | (with_reducible refine LeO.bind ?_ (fun _ => ?_))
      | exact ih0 _
      | exact LeO.none _
      | refine LeO.ite ?_ ?_
      | refine LeO.bind ?_ (fun _ => ?_)
theorem milestoneref01_num.mono : ∀ a0 k, LeO (milestoneref01_num.f k a0) (milestoneref01_num.f (k + 1) a0) := by
  intro a0 k
  have ih0 := milestoneref01_num.mono_l k
  exact ih0 a0
set_option maxHeartbeats 8000000 in
set_option maxRecDepth 100000 in
theorem milestoneref01_num.calls (k : Nat) : ∀ (a0 : Int) (r : ByteArray) (w : World) (h : milestoneref01_num.f k a0 = some r),
    Calls Tryd.prog 29 #[.int .u32 a0] w fun e w' => e = .returned (.string r) ∧ Below w.heap.size w w' := by
  induction k using Nat.strongRecOn with
  | _ k ih =>
  intro a0 r w h
  cases k with
  | zero => exact absurd h (by simp [milestoneref01_num.f])
  | succ k =>
  simp only [milestoneref01_num.f] at h
  have HB := Aside0.mk (Below.refl w.heap.size w)
  have H : (if a0 < 10 then (some (strOfNums (([((48 + a0)) % 256] : List Int)))) else ((milestoneref01_num.f k ((Int.tdiv a0 10) % 4294967296)).bind fun t118 => ((milestoneref01_num.f k (Int.tmod a0 10)).bind fun t119 => (if t118.size + t119.size ≤ 9223372036854775807 then (some (t118 ++ t119)) else (none))))) = some r := h
  clear h
  by_cases c2 : a0 < 10
  · rw [if_pos c2] at H
    have c2b0 : decide (a0 < 10) = true := decide_eq_true c2
    clear c2
    obtain ⟨y115, hy115⟩ : ∃ y_ : List Int, y_ = (([((48 + a0)) % 256] : List Int)) := ⟨_, rfl⟩
    replace H : (some (strOfNums y115)) = some r := by first | (rw [hy115]; with_reducible exact H) | (have H2_ := (Option.bind_some _ _).symm.trans H; rw [hy115]; with_reducible exact H2_) | (have H2_ := (Option.bind_some _ _).symm.trans H; with_reducible exact H2_) | with_reducible exact H | (rw [hy115]; exact H) | exact H
    have Ny115 := Aside0.mk hy115
    clear hy115
    obtain rfl := Option.some.inj H
    simp only [Option.some.injEq, Prod.mk.injEq] at H
    obtain ⟨rfl⟩ := H
    go_enter Tryd.func29, Tryd.ntmps29
    go_wp2_with (first | ((with_reducible refine gate_dst (N := 8) rfl ?_); refine Kd.R_lit (Kd.int .u8) _ 5 ?hg (N := 8) ?hd (xs := ([((48 + a0)) % 256] : List Int)) (inner := [.int .u8 (((48 + a0)) % 256)]) (ok := fun _ => True) (okp := fun _ => True) ?hr ?hp (fun _ hk => hk) trivial (Below.refl _ _) (Nat.le_refl _) (by simp) ?_; (case hd => rfl); (case hg => rfl); (case hr => first | (go_simp; done) | (go_simp; rfl)); (case hp => exact (Reps.one (show Kd.M (Kd.int .u8) _ _ _ (((48 + a0)) % 256) [.int .u8 (((48 + a0)) % 256)] from rfl) (Reps.none _ _))); intro v116 w3 ho4 hb hg_ hnew_; clear hg_ hnew_; (first | rw [← Ny115.out] at ho4 | (simp only [Int.reduceToNat] at ho4; rw [← Ny115.out] at ho4)); have n0_ := Aside0.mk (Kd.R_lower ho4 (below_size (by repeat (first | (with_reducible first | exact HB.out | apply below_alloc | apply pw_below_drewN | apply below_drew1) | exact HB.out)))); have n1_ := Aside0.mk (below_step (by repeat (first | (with_reducible first | exact HB.out | apply below_alloc | apply pw_below_drewN | apply below_drew1) | exact HB.out)) hb); clear HB; have HO117 := n0_; have HB := n1_; clear n0_ n1_; clear hb ho4; have hcv5 := own_string (P := Tryd.prog) Tryd.underlying40 Tryd.underlying5 Tryd.underlying9 (Kd.own_of_R HO117.out)))
    go_ret
    exact ⟨by first | rfl | (simp [errW_none, errW_some] <;> rfl) | (simp [*, errW_none, errW_some] <;> rfl), by repeat (first | (with_reducible first | exact HB.out | apply below_alloc | apply pw_below_drewN | apply below_drew1) | exact HB.out)⟩
  · rw [if_neg c2] at H
    have c2b0 : decide (a0 < 10) = false := decide_eq_false c2
    clear c2
    replace H := Option.bind_eq_some_iff.mp H
    obtain ⟨t118, A60, H⟩ := H
    replace H : ((milestoneref01_num.f k (Int.tmod a0 10)).bind fun t119 => (if t118.size + t119.size ≤ 9223372036854775807 then (some (t118 ++ t119)) else (none))) = some r := H
    have A6 := Aside0.mk A60
    clear A60
    replace H := Option.bind_eq_some_iff.mp H
    obtain ⟨t119, A70, H⟩ := H
    replace H : (if t118.size + t119.size ≤ 9223372036854775807 then (some (t118 ++ t119)) else (none)) = some r := H
    have A7 := Aside0.mk A70
    clear A70
    by_cases c8 : t118.size + t119.size ≤ 9223372036854775807
    · rw [if_pos c8] at H
      have c8b0 := eq_true c8
      have c8b1 : decide (t118.size + t119.size ≤ 9223372036854775807) = true := decide_eq_true c8
      try have c8b2 : (9223372036854775807 < t118.size + t119.size) = False := eq_false (Nat.not_lt.2 c8)
      obtain rfl := Option.some.inj H
      simp only [Option.some.injEq, Prod.mk.injEq] at H
      obtain ⟨rfl⟩ := H
      go_enter Tryd.func29, Tryd.ntmps29
      go_wp2_with (first | ((with_reducible refine gate_callee (f := 29) rfl ?_); refine goesL_ (some 12) rfl rfl Tryd.func29 (by kernel_rfl) rfl #[.int .u32 ((Int.tdiv a0 10) % 4294967296)] rfl (by (try simp only [List.map_toArray, List.map_cons, List.map_nil]); first | done | rfl | (simp only [List.length_drop, List.length_take]; rfl) | (simp; done) | (refine qa_arr ?_; (repeat' (first | rfl | refine qa_cons ?_ ?_ | refine qa_int ?_ | refine qa_agg ?_ | refine qa_arr ?_ | omega)); done)) ?_; (with_reducible refine (ih k (by omega) ((Int.tdiv a0 10) % 4294967296) t118 _ A6.out).mono ?_); rintro e w9 ⟨rfl, hb⟩; refine ⟨_, rfl, ?_⟩; have n0_ := Aside0.mk (below_step (by repeat (first | (with_reducible first | exact HB.out | apply below_alloc | apply pw_below_drewN | apply below_drew1) | exact HB.out)) hb); clear HB; have HB := n0_; clear n0_; (try clear hb); (try clear hb2); (try clear hk); (try clear hi)) | ((with_reducible refine gate_callee (f := 29) rfl ?_); refine goesL_ (some 15) rfl rfl Tryd.func29 (by kernel_rfl) rfl #[.int .u32 (Int.tmod a0 10)] rfl (by (try simp only [List.map_toArray, List.map_cons, List.map_nil]); first | done | rfl | (simp only [List.length_drop, List.length_take]; rfl) | (simp; done) | (refine qa_arr ?_; (repeat' (first | rfl | refine qa_cons ?_ ?_ | refine qa_int ?_ | refine qa_agg ?_ | refine qa_arr ?_ | omega)); done)) ?_; (with_reducible refine (ih k (by omega) (Int.tmod a0 10) t119 _ A7.out).mono ?_); rintro e w10 ⟨rfl, hb⟩; refine ⟨_, rfl, ?_⟩; have n0_ := Aside0.mk (below_step (by repeat (first | (with_reducible first | exact HB.out | apply below_alloc | apply pw_below_drewN | apply below_drew1) | exact HB.out)) hb); clear HB; have HB := n0_; clear n0_; (try clear hb); (try clear hb2); (try clear hk); (try clear hi)))
      go_ret
      exact ⟨by first | rfl | (simp [errW_none, errW_some] <;> rfl) | (simp [*, errW_none, errW_some] <;> rfl), by repeat (first | (with_reducible first | exact HB.out | apply below_alloc | apply pw_below_drewN | apply below_drew1) | exact HB.out)⟩
    · rw [if_neg c8] at H
      exact absurd H (by simp)

end Go.Proofs.YtfjdijphpcddnaaDoor.QPrefixParses
