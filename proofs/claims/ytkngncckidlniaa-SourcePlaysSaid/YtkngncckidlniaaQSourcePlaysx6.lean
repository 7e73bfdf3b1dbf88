-- Lines by a program of this session, for this claim.
import Derived.Test.YtkngncckidlniaaQSourcePlaysx0
import Derived.Test.YtkngncckidlniaaQSourcePlaysx1
import Derived.Test.YtkngncckidlniaaQSourcePlaysx2
import Derived.Test.YtkngncckidlniaaQSourcePlaysx3
import Derived.Test.YtkngncckidlniaaQSourcePlaysx5
namespace Go.Proofs.Ytkngncckidlniaa.QSourcePlays
open Go.RowKit Go.Proofs.YtkngncckidlniaaW.PrintWords Go.Proofs.YtkngncckidlniaaW.PrintLast Go.Proofs.YtkngncckidlniaaW.PrintMore
attribute [local go_sem] max2_int min2_int max_two min_two max_three min_three max_four min_four   -- for this text's walks alone
set_option linter.unusedVariables false
set_option linter.unusedSimpArgs false

attribute [local go_sem high] eqA31
/-! ### source_Source_Mark: function 15 -/
set_option maxHeartbeats 4000000 in
set_option maxRecDepth 100000 in
theorem source_Source_Mark.inner (k : Nat) (g : Nat) (A : Option Addr) (c : Nat) (l : List S71) (pa pn : Int) (i : Nat) (cv : Nat → Int) (m0 m1 : Int) (b : Bool) (w : World) (hg : w.heap[g]? = some (.cells #[.slice A l.length c] 64 (0, 0))) (hC : Kd.C k71 w A l.length l) (hlen : l.length ≤ 1000) (hi : i ≤ l.length)
    (hcmp : ∀ j : Nat, j < l.length → prefix_Compare.f k (rd_T71 l (j : Int)).f0.f0 (rd_T71 l (j : Int)).f0.f1 pa pn = some (cv j) ∧ (cv j < 0 ↔ j < i))
    (hres : (i < l.length ∧ cv i = 0 ∧ m0 = (rd_T71 l (i : Int)).f1.f0 ∧ m1 = (rd_T71 l (i : Int)).f1.f1 ∧ b = true) ∨ (¬ (i < l.length ∧ cv i = 0) ∧ m0 = 0 ∧ m1 = 0 ∧ b = false)) :
    Calls Try.prog 15 #[.pointer (some ⟨g, 0, none⟩), .agg #[.int .u32 pa, .int .u8 pn]] w fun e w' => e = .returned (.tuple #[.agg #[.int .u16 m0, .int .u16 m1], .bool b]) ∧ Below w.heap.size w w' := by
  have hu31 := Try.underlying31
  have hu36 := Try.underlying36
  have HC := Aside0.mk hC
  have HM := Aside0.mk hcmp
  have BKs := Aside0.mk hg
  clear hC hcmp hg
  go_enter Try.func15, Try.ntmps15
  go_wp2_with (first | ((with_reducible refine gate_dst (N := 3) rfl ?_); (try (refine gate_guard (by rfl) ?_; dsimp only)); refine box_event ?hg (N := 3) ?hd (cs := #[.int .u32 pa, .int .u8 pn]) (t := 31) ?hr ?_; (case hd => rfl); (case hg => rfl); (case hr => first | (go_simp; done) | (go_simp; rfl)); intro g3 hg w3 hbox hb; have BK3 := Aside0.mk hbox; have HB3 := Aside0.mk hb; have BKg := Aside0.mk (blk_below BKs.out hb); clear hb hbox hg BKs) | ((with_reducible refine gate_dst (N := 4) rfl ?_); (try (refine gate_guard (by rfl) ?_; dsimp only)); refine box_event ?hg (N := 4) ?hd (cs := #[.int .u16 0, .int .u16 0]) (t := 36) ?hr ?_; (case hd => rfl); (case hg => rfl); (case hr => first | (go_simp; done) | (go_simp; rfl)); intro g4 hg w4 hbox hb; have BK4 := Aside0.mk hbox; have HB4 := Aside0.mk (below_step HB3.out hb); have BK3b := Aside0.mk (blk_below BK3.out hb); have BKg4 := Aside0.mk (blk_below BKg.out hb); have GE4 := Aside0.mk (show w.heap.size ≤ g4 from by rw [hg]; exact HB3.out.size); clear hb hbox hg BK3 BKg HB3; have hp0 : w4.cell? ⟨g3, 0, none⟩ = some (.int .u32 pa) := (blk_cell BK3b.out 0).trans rfl; have hp1 : w4.cell? ⟨g3, 1, none⟩ = some (.int .u8 pn) := (blk_cell BK3b.out 1).trans rfl))
  refine (source_Source_find.calls k g A c l pa pn i cv _ BKg4.out (Kd.C_below HC.out HB4.out) hlen hi HM.out).mono ?_
  rintro e w5 ⟨rfl, hb⟩
  have BK5 := Aside0.mk (blk_below BK4.out hb)
  have BKg5 := Aside0.mk (blk_below BKg4.out hb)
  have HB5 := Aside0.mk (below_step HB4.out hb)
  clear hb hp0 hp1 BK4 BKg4 HB4
  have h40 : w5.cell? ⟨g4, 0, none⟩ = some (.int .u16 0) := (blk_cell BK5.out 0).trans rfl
  have h41 : w5.cell? ⟨g4, 1, none⟩ = some (.int .u16 0) := (blk_cell BK5.out 1).trans rfl
  have y40 := blk_frozen BK5.out 0
  have y41 := blk_frozen BK5.out 1
  have hg0 : w5.cell? ⟨g, 0, none⟩ = some (.slice A l.length c) := (blk_cell BKg5.out 0).trans rfl
  rcases hres with ⟨hlt, h0, rfl, rfl, rfl⟩ | ⟨hn, rfl, rfl, rfl⟩
  · have q1 : decide (i < l.length) = true := decide_eq_true hlt
    have q2 : (cv i == 0) = true := beq_iff_eq.mpr h0
    obtain ⟨ad, e0, hx0, hx1, hx2, hx3⟩ := at_T71 (Kd.C_below HC.out HB5.out) (i : Int) (by omega) (by omega)
    cases e0
    simp only [Int.toNat_natCast] at hx0 hx1 hx2 hx3
    have p1 : decide (0 ≤ (i : Int)) = true := decide_eq_true (by omega)
    have p2 : decide ((i : Int) < (l.length : Int)) = true := decide_eq_true (by omega)
    go_wp2_with (fail)
    refine bodyPost_ret (results_ct rfl _ _ g4 36 #[.int .u16 ((rd_T71 l (i : Int)).f1.f0), .int .u16 ((rd_T71 l (i : Int)).f1.f1)] (0, 0) _ rfl (by refine blk_put (cs := #[.int .u16 ((rd_T71 l (i : Int)).f1.f0), .int .u16 0]) ?_ 1 _ rfl; refine blk_put (cs := #[.int .u16 0, .int .u16 0]) ?_ 0 _ rfl; exact BK5.out) Try.underlying36 rfl (by kernel_rfl)) rfl ?_
    exact ⟨rfl, below_set (below_set HB5.out GE4.out) GE4.out⟩
  · have q1 : (decide (i < l.length) && (cv i == 0)) = false := by
      rw [Bool.and_eq_false_iff, decide_eq_false_iff_not, beq_eq_false_iff_ne]
      by_cases h : i < l.length
      · exact .inr fun h0 => hn ⟨h, h0⟩
      · exact .inl h
    go_wp2_with (fail)
    refine bodyPost_ret (results_ct rfl _ _ g4 36 #[.int .u16 0, .int .u16 0] (0, 0) _ rfl (by refine blk_put (cs := #[.int .u16 0, .int .u16 0]) ?_ 1 _ rfl; refine blk_put (cs := #[.int .u16 0, .int .u16 0]) ?_ 0 _ rfl; exact BK5.out) Try.underlying36 rfl (by kernel_rfl)) rfl ?_
    exact ⟨rfl, below_set (below_set HB5.out GE4.out) GE4.out⟩

def source_Source_Mark.f (T : List S71) (a1_0 a1_1 : Int) : Option (Int × Int × Bool × List S71) := some (if rowHit T a1_0 a1_1 = true then (rd_T71 T (rowPos T a1_0 a1_1 : Int)).f1.f0 else 0, if rowHit T a1_0 a1_1 = true then (rd_T71 T (rowPos T a1_0 a1_1 : Int)).f1.f1 else 0, rowHit T a1_0 a1_1, T)
theorem source_Source_Mark.res (T : List S71) (a n : Int) : (rowPos T a n < T.length ∧ cmpI (rd_T71 T (rowPos T a n : Int)).f0.f0 (rd_T71 T (rowPos T a n : Int)).f0.f1 a n = 0 ∧ (if rowHit T a n = true then (rd_T71 T (rowPos T a n : Int)).f1.f0 else 0) = (rd_T71 T (rowPos T a n : Int)).f1.f0 ∧ (if rowHit T a n = true then (rd_T71 T (rowPos T a n : Int)).f1.f1 else 0) = (rd_T71 T (rowPos T a n : Int)).f1.f1 ∧ rowHit T a n = true) ∨ (¬ (rowPos T a n < T.length ∧ cmpI (rd_T71 T (rowPos T a n : Int)).f0.f0 (rd_T71 T (rowPos T a n : Int)).f0.f1 a n = 0) ∧ (if rowHit T a n = true then (rd_T71 T (rowPos T a n : Int)).f1.f0 else 0) = 0 ∧ (if rowHit T a n = true then (rd_T71 T (rowPos T a n : Int)).f1.f1 else 0) = 0 ∧ rowHit T a n = false) := by
  by_cases h : rowHit T a n = true
  · have h2 := h
    unfold rowHit at h2
    rw [Bool.and_eq_true, decide_eq_true_iff, beq_iff_eq] at h2
    exact .inl ⟨h2.1, h2.2, if_pos h, if_pos h, h⟩
  · refine .inr ⟨fun h2 => h ?_, if_neg h, if_neg h, by simpa using h⟩
    unfold rowHit
    rw [Bool.and_eq_true, decide_eq_true_iff, beq_iff_eq]
    exact h2
theorem source_Source_Mark.calls (g : Nat) (T : List S71) (a1_0 a1_1 : Int) (r1 r2 : Int) (r3 : Bool) (r4 : List S71) (w0 w : World) (hI : IsS64 w0 w g T) (hB : Below w0.heap.size w0 w) (h : source_Source_Mark.f T a1_0 a1_1 = some (r1, r2, r3, r4)) :
    Calls Try.prog 15 #[.pointer (some ⟨g, 0, none⟩), .agg #[.int .u32 a1_0, .int .u8 a1_1]] w fun e w' => e = .returned (.tuple #[.agg #[.int .u16 r1, .int .u16 r2], .bool r3]) ∧ IsS64 w0 w' g r4 ∧ Below w0.heap.size w0 w' ∧ KeepT w w' := by
  unfold source_Source_Mark.f at h
  simp only [Option.some.injEq, Prod.mk.injEq] at h
  obtain ⟨rfl, rfl, rfl, rfl⟩ := h
  have hI0 := hI
  obtain ⟨v, hg, _, hR, hs, hl⟩ := hI
  obtain ⟨A, c, rfl, _, hC⟩ := Kd.R_reads hR
  refine (source_Source_Mark.inner 3 g A c T a1_0 a1_1 (rowPos T a1_0 a1_1) (fun j => cmpI (rd_T71 T (j : Int)).f0.f0 (rd_T71 T (j : Int)).f0.f1 a1_0 a1_1) _ _ _ w hg hC (by omega) (rowPos_le _ _ _) (source_Source_find.hcmp T a1_0 a1_1 hs) (source_Source_Mark.res T a1_0 a1_1)).mono ?_
  rintro e w' ⟨rfl, hb⟩
  exact ⟨rfl, hI0.below hb, below_step hB hb, KeepT.of_below hb⟩

/-! ### source_Source_Feasible: function 11 -/
set_option maxHeartbeats 4000000 in
set_option maxRecDepth 100000 in
theorem source_Source_Feasible.inner (k : Nat) (g : Nat) (A : Option Addr) (c : Nat) (l : List S71) (pa pn : Int) (i : Nat) (cv : Nat → Int) (m0 m1 ms mm : Int) (b rn : Bool) (w : World) (hg : w.heap[g]? = some (.cells #[.slice A l.length c] 64 (0, 0))) (hC : Kd.C k71 w A l.length l) (hlen : l.length ≤ 1000) (hi : i ≤ l.length)
    (hcmp : ∀ j : Nat, j < l.length → prefix_Compare.f k (rd_T71 l (j : Int)).f0.f0 (rd_T71 l (j : Int)).f0.f1 pa pn = some (cv j) ∧ (cv j < 0 ↔ j < i))
    (hres : (i < l.length ∧ cv i = 0 ∧ m0 = (rd_T71 l (i : Int)).f1.f0 ∧ m1 = (rd_T71 l (i : Int)).f1.f1 ∧ b = true) ∨ (¬ (i < l.length ∧ cv i = 0) ∧ m0 = 0 ∧ m1 = 0 ∧ b = false)) (hnr : serial_Nearer.f ms mm m0 m1 = some rn) :
    Calls Try.prog 11 #[.pointer (some ⟨g, 0, none⟩), .agg #[.int .u32 pa, .int .u8 pn], .agg #[.int .u16 ms, .int .u16 mm]] w fun e w' => e = .returned (.bool ((mm == 65535) || (!b || rn))) ∧ Below w.heap.size w w' := by
  have hu31 := Try.underlying31
  have hu36 := Try.underlying36
  have HC := Aside0.mk hC
  have HM := Aside0.mk hcmp
  have HRS := Aside0.mk hres
  have HN := Aside0.mk hnr
  have BKs := Aside0.mk hg
  clear hC hcmp hg hres hnr
  go_enter Try.func11, Try.ntmps11
  go_wp2_with (first | ((with_reducible refine gate_dst (N := 4) rfl ?_); (try (refine gate_guard (by rfl) ?_; dsimp only)); refine box_event ?hg (N := 4) ?hd (cs := #[.int .u32 pa, .int .u8 pn]) (t := 31) ?hr ?_; (case hd => rfl); (case hg => rfl); (case hr => first | (go_simp; done) | (go_simp; rfl)); intro g4 hg w4 hbox hb; have BK4 := Aside0.mk hbox; have HB4 := Aside0.mk hb; have BKg := Aside0.mk (blk_below BKs.out hb); clear hb hbox hg BKs) | ((with_reducible refine gate_dst (N := 5) rfl ?_); (try (refine gate_guard (by rfl) ?_; dsimp only)); refine box_event ?hg (N := 5) ?hd (cs := #[.int .u16 ms, .int .u16 mm]) (t := 36) ?hr ?_; (case hd => rfl); (case hg => rfl); (case hr => first | (go_simp; done) | (go_simp; rfl)); intro g5 hg w5 hbox hb; have BK5 := Aside0.mk hbox; have HB5 := Aside0.mk (below_step HB4.out hb); have BK4b := Aside0.mk (blk_below BK4.out hb); have BKg5 := Aside0.mk (blk_below BKg.out hb); clear hb hbox hg BK4 BKg HB4; have hp0 : w5.cell? ⟨g4, 0, none⟩ = some (.int .u32 pa) := (blk_cell BK4b.out 0).trans rfl; have hp1 : w5.cell? ⟨g4, 1, none⟩ = some (.int .u8 pn) := (blk_cell BK4b.out 1).trans rfl))
  refine (source_Source_Mark.inner k g A c l pa pn i cv m0 m1 b _ BKg5.out (Kd.C_below HC.out HB5.out) hlen hi HM.out HRS.out).mono ?_
  rintro e w6 ⟨rfl, hb⟩
  have BK56 := Aside0.mk (blk_below BK5.out hb)
  have HB6 := Aside0.mk (below_step HB5.out hb)
  clear hb hp0 hp1 BK5 BKg5 HB5
  go_upto_region 2 with (first | ((with_reducible refine gate_dst (N := 7) rfl ?_); (try (refine gate_guard (by rfl) ?_; dsimp only)); refine box_event ?hg (N := 7) ?hd (cs := #[.int .u16 0, .int .u16 0]) (t := 36) ?hr ?_; (case hd => rfl); (case hg => rfl); (case hr => first | (go_simp; done) | (go_simp; rfl)); intro g7 hg w7 hbox hb; have BK7 := Aside0.mk hbox; have HB7 := Aside0.mk (below_step HB6.out hb); have BK57 := Aside0.mk (blk_below BK56.out hb); have GE7 := Aside0.mk (show w6.heap.size ≤ g7 from by rw [hg]; exact Nat.le_refl _); have HB67 := Aside0.mk hb; clear hb hbox hg; have z0 : w7.cell? ⟨g7, 0, none⟩ = some (.int .u16 0) := (blk_cell BK7.out 0).trans rfl; have z1 : w7.cell? ⟨g7, 1, none⟩ = some (.int .u16 0) := (blk_cell BK7.out 1).trans rfl; have y0 := blk_frozen BK7.out 0; have y1 := blk_frozen BK7.out 1))
  obtain ⟨W, hW⟩ : ∃ W : World, W = ((w7.setCell ⟨g7, 0, none⟩ (.int .u16 m0)).setCell ⟨g7, 1, none⟩ (.int .u16 m1)) := ⟨_, rfl⟩
  rw [← hW]
  have HBW := Aside0.mk (show Below w6.heap.size w6 W from by rw [hW]; exact below_set (below_set HB67.out GE7.out) GE7.out)
  have BKW := Aside0.mk (show W.heap[g7]? = some (.cells #[.int .u16 m0, .int .u16 m1] 36 (0, 0)) from by rw [hW]; refine blk_put (cs := #[.int .u16 m0, .int .u16 0]) ?_ 1 _ rfl; refine blk_put (cs := #[.int .u16 0, .int .u16 0]) ?_ 0 _ rfl; exact BK7.out)
  have BK5W := Aside0.mk (blk_below BK56.out HBW.out)
  have HBF := Aside0.mk (below_step HB6.out HBW.out)
  clear hW z0 z1 y0 y1 BK7 BK57 HB7 HB67
  have c0 : W.cell? ⟨g5, 0, none⟩ = some (.int .u16 ms) := (blk_cell BK5W.out 0).trans rfl
  have c1 : W.cell? ⟨g5, 1, none⟩ = some (.int .u16 mm) := (blk_cell BK5W.out 1).trans rfl
  have d0 : W.cell? ⟨g7, 0, none⟩ = some (.int .u16 m0) := (blk_cell BKW.out 0).trans rfl
  have d1 : W.cell? ⟨g7, 1, none⟩ = some (.int .u16 m1) := (blk_cell BKW.out 1).trans rfl
  by_cases hm : mm = 65535
  · have q1 : (mm == 65535) = true := beq_iff_eq.mpr hm
    go_wp2_with (fail)
    go_ret
    exact ⟨by simp [q1], HBF.out⟩
  · have q1 : (mm == 65535) = false := beq_eq_false_iff_ne.mpr hm
    cases b
    · go_wp2_with (fail)
      go_ret
      exact ⟨by simp [q1], HBF.out⟩
    · go_wp2_with (fail)
      refine (serial_Nearer.calls ms mm m0 m1 rn _ HN.out).mono ?_
      rintro e w8 ⟨rfl, hb⟩
      have HB8 := Aside0.mk (below_step HBF.out hb)
      clear hb
      go_wp2_with (fail)
      go_ret
      exact ⟨by simp [q1], HB8.out⟩

def source_Source_Feasible.f (T : List S71) (a1_0 a1_1 a2_0 a2_1 : Int) : Option (Bool × List S71) := (serial_Nearer.f a2_0 a2_1 (if rowHit T a1_0 a1_1 = true then (rd_T71 T (rowPos T a1_0 a1_1 : Int)).f1.f0 else 0) (if rowHit T a1_0 a1_1 = true then (rd_T71 T (rowPos T a1_0 a1_1 : Int)).f1.f1 else 0)).bind fun rn => some ((a2_1 == 65535) || (!rowHit T a1_0 a1_1 || rn), T)
theorem source_Source_Feasible.calls (g : Nat) (T : List S71) (a1_0 a1_1 a2_0 a2_1 : Int) (r1 : Bool) (r2 : List S71) (w0 w : World) (hI : IsS64 w0 w g T) (hB : Below w0.heap.size w0 w) (h : source_Source_Feasible.f T a1_0 a1_1 a2_0 a2_1 = some (r1, r2)) :
    Calls Try.prog 11 #[.pointer (some ⟨g, 0, none⟩), .agg #[.int .u32 a1_0, .int .u8 a1_1], .agg #[.int .u16 a2_0, .int .u16 a2_1]] w fun e w' => e = .returned (.bool r1) ∧ IsS64 w0 w' g r2 ∧ Below w0.heap.size w0 w' ∧ KeepT w w' := by
  unfold source_Source_Feasible.f at h
  obtain ⟨rn, hrn, h⟩ := Option.bind_eq_some_iff.mp h
  simp only [Option.some.injEq, Prod.mk.injEq] at h
  obtain ⟨rfl, rfl⟩ := h
  have hI0 := hI
  obtain ⟨v, hg, _, hR, hs, hl⟩ := hI
  obtain ⟨A, c, rfl, _, hC⟩ := Kd.R_reads hR
  refine (source_Source_Feasible.inner 3 g A c T a1_0 a1_1 (rowPos T a1_0 a1_1) (fun j => cmpI (rd_T71 T (j : Int)).f0.f0 (rd_T71 T (j : Int)).f0.f1 a1_0 a1_1) _ _ a2_0 a2_1 _ rn w hg hC (by omega) (rowPos_le _ _ _) (source_Source_find.hcmp T a1_0 a1_1 hs) (source_Source_Mark.res T a1_0 a1_1) hrn).mono ?_
  rintro e w' ⟨rfl, hb⟩
  exact ⟨rfl, hI0.below hb, below_step hB hb, KeepT.of_below hb⟩

/-! ### milestonelaw15_awake: function 6 -/
def milestonelaw15_awake.f  : Option (Bool) := (source_New.f).bind fun t138 => ((source_Source_Lower.f t138 167772160 8 1 96).bind fun bt141 => (if bt141.1 = 0 then ((source_Source_Feasible.f bt141.2 167772160 8 1 95).bind fun bt143 => (if bt143.1 = true then ((source_Source_Feasible.f bt143.2 167772160 8 2 500).bind fun bt145 => (if bt145.1 = true then ((source_Source_Feasible.f bt145.2 167772160 8 1 96).bind fun bt147 => (some (!bt147.1))) else (some false))) else (some false))) else (some false)))
set_option maxHeartbeats 8000000 in
set_option maxRecDepth 100000 in
theorem milestonelaw15_awake.calls  (r : Bool) (w : World) (h : milestonelaw15_awake.f  = some r) :
    Calls Try.prog 6 #[] w fun e w' => e = .returned (.bool r) ∧ Below w.heap.size w w' := by
  have hu31 := Try.underlying31
  have hu36 := Try.underlying36
  have HB := Aside0.mk (Below.refl w.heap.size w)
  have H : ((source_New.f).bind fun t138 => ((source_Source_Lower.f t138 167772160 8 1 96).bind fun bt141 => (if bt141.1 = 0 then ((source_Source_Feasible.f bt141.2 167772160 8 1 95).bind fun bt143 => (if bt143.1 = true then ((source_Source_Feasible.f bt143.2 167772160 8 2 500).bind fun bt145 => (if bt145.1 = true then ((source_Source_Feasible.f bt145.2 167772160 8 1 96).bind fun bt147 => (some (!bt147.1))) else (some false))) else (some false))) else (some false)))) = some r := h
  clear h
  replace H := Option.bind_eq_some_iff.mp H
  obtain ⟨t138, A10, H⟩ := H
  replace H : ((source_Source_Lower.f t138 167772160 8 1 96).bind fun bt141 => (if bt141.1 = 0 then ((source_Source_Feasible.f bt141.2 167772160 8 1 95).bind fun bt143 => (if bt143.1 = true then ((source_Source_Feasible.f bt143.2 167772160 8 2 500).bind fun bt145 => (if bt145.1 = true then ((source_Source_Feasible.f bt145.2 167772160 8 1 96).bind fun bt147 => (some (!bt147.1))) else (some false))) else (some false))) else (some false))) = some r := H
  have A1 := Aside0.mk A10
  clear A10
  replace H := Option.bind_eq_some_iff.mp H
  obtain ⟨⟨t141, t142⟩, A20, H⟩ := H
  replace H : (if t141 = 0 then ((source_Source_Feasible.f t142 167772160 8 1 95).bind fun bt143 => (if bt143.1 = true then ((source_Source_Feasible.f bt143.2 167772160 8 2 500).bind fun bt145 => (if bt145.1 = true then ((source_Source_Feasible.f bt145.2 167772160 8 1 96).bind fun bt147 => (some (!bt147.1))) else (some false))) else (some false))) else (some false)) = some r := H
  have A2 := Aside0.mk A20
  clear A20
  by_cases c3 : t141 = 0
  · rw [if_pos c3] at H
    have c3b0 : (t141 == 0) = true := beq_iff_eq.mpr c3
    have c3b1 : (t141 != 0) = false := bne_eq_false_iff_eq.mpr c3
    clear c3
    replace H := Option.bind_eq_some_iff.mp H
    obtain ⟨⟨t143, t144⟩, A40, H⟩ := H
    replace H : (if t143 = true then ((source_Source_Feasible.f t144 167772160 8 2 500).bind fun bt145 => (if bt145.1 = true then ((source_Source_Feasible.f bt145.2 167772160 8 1 96).bind fun bt147 => (some (!bt147.1))) else (some false))) else (some false)) = some r := H
    have A4 := Aside0.mk A40
    clear A40
    by_cases c5 : t143 = true
    · subst c5
      have H1 : ((source_Source_Feasible.f t144 167772160 8 2 500).bind fun bt145 => (if bt145.1 = true then ((source_Source_Feasible.f bt145.2 167772160 8 1 96).bind fun bt147 => (some (!bt147.1))) else (some false))) = some r := by rw [if_pos rfl] at H; exact H
      clear H
      have H := H1
      clear H1
      replace H := Option.bind_eq_some_iff.mp H
      obtain ⟨⟨t145, t146⟩, A60, H⟩ := H
      replace H : (if t145 = true then ((source_Source_Feasible.f t146 167772160 8 1 96).bind fun bt147 => (some (!bt147.1))) else (some false)) = some r := H
      have A6 := Aside0.mk A60
      clear A60
      by_cases c7 : t145 = true
      · subst c7
        have H1 : ((source_Source_Feasible.f t146 167772160 8 1 96).bind fun bt147 => (some (!bt147.1))) = some r := by rw [if_pos rfl] at H; exact H
        clear H
        have H := H1
        clear H1
        replace H := Option.bind_eq_some_iff.mp H
        obtain ⟨⟨t147, t148⟩, A80, H⟩ := H
        replace H : (some (!t147)) = some r := H
        have A8 := Aside0.mk A80
        clear A80
        obtain rfl := Option.some.inj H
        simp only [Option.some.injEq, Prod.mk.injEq] at H
        obtain ⟨rfl⟩ := H
        go_enter Try.func6, Try.ntmps6
        go_wp2_with (first | ((with_reducible refine gate_callee (f := 7) rfl ?_); refine goesL_ (some 4) rfl rfl Try.func7 (by kernel_rfl) rfl #[] rfl (by (try simp only [List.map_toArray, List.map_cons, List.map_nil]); first | done | rfl | (simp only [List.length_drop, List.length_take]; rfl) | (simp; done) | (refine qa_arr ?_; (repeat' (first | rfl | refine qa_cons ?_ ?_ | refine qa_int ?_ | refine qa_agg ?_ | refine qa_arr ?_ | omega)); done)) ?_; (with_reducible refine (source_New.calls  t138 w _ ?side1 A1.out).mono ?_); (case side1 => repeat (first | (with_reducible first | exact HB.out | apply below_alloc | apply pw_below_drewN | apply below_drew1) | exact HB.out)); rintro e w9 ⟨g139, rfl, hi, hb, hb2⟩; refine ⟨_, rfl, ?_⟩; have n0_ := Aside0.mk (hb); have n1_ := Aside0.mk (hi); clear HB; have HB := n0_; have HI139 := n1_; clear n0_ n1_; (try clear hb); (try clear hb2); (try clear hk); (try clear hi)) | ((with_reducible refine gate_dst (N := 2) rfl ?_); refine box_event ?hg (N := 2) ?hd (cs := #[.int .u32 0, .int .u8 0]) (t := 31) ?hr ?_; (case hd => rfl); (case hg => rfl); (case hr => first | (go_simp; done) | (go_simp; rfl)); intro gb140 hg w10 hbox hb; have n0_ := Aside0.mk (IsS64.below (by repeat (first | (with_reducible first | exact HI139.out | apply IsS64.alloc | apply IsS64.drewN | apply IsS64.drew | apply IsS64.set_0) | exact HI139.out)) hb); have n1_ := Aside0.mk (below_step (by repeat (first | (with_reducible first | exact HB.out | apply below_alloc | apply pw_below_drewN | apply below_drew1 | refine below_set ?_ (IsS64.ge HI139.out)) | exact HB.out)) hb); have n2_ := Aside0.mk (hbox); have n3_ := Aside0.mk ((by rw [hg]; exact (below_size (by repeat (first | (with_reducible first | exact HB.out | apply below_alloc | apply pw_below_drewN | apply below_drew1 | refine below_set ?_ (IsS64.ge HI139.out)) | exact HB.out))) : w.heap.size ≤ gb140)); have n4_ := Aside0.mk ((by rw [hg]; exact (below_size (by repeat (first | (with_reducible first | exact HB.out | apply below_alloc | apply pw_below_drewN | apply below_drew1 | refine below_set ?_ (IsS64.ge HI139.out)) | exact HB.out))) : w.heap.size ≤ gb140)); have n5_ := Aside0.mk ((by rw [hg]; exact Nat.ne_of_lt (IsS64.lt (show IsS64 w _ g139 t138 from by repeat (first | (with_reducible first | exact HI139.out | apply IsS64.alloc | apply IsS64.drewN | apply IsS64.drew | apply IsS64.set_0) | exact HI139.out))) : g139 ≠ gb140)); have n6_ := Aside0.mk ((by rw [hg]; exact Nat.ne_of_gt (IsS64.lt (show IsS64 w _ g139 t138 from by repeat (first | (with_reducible first | exact HI139.out | apply IsS64.alloc | apply IsS64.drewN | apply IsS64.drew | apply IsS64.set_0) | exact HI139.out))) : gb140 ≠ g139)); clear HI139; clear HB; have HI139 := n0_; have HB := n1_; have BK140 := n2_; have GW140 := n3_; have GE140 := n4_; have NB139_140 := n5_; have NB140_139 := n6_; clear n0_ n1_ n2_ n3_ n4_ n5_ n6_; clear hb hbox hg; have hnb11 := NB140_139.out; have hnc11 := NB139_140.out; have hcz12_0 : w10.cell? ⟨gb140, 0, none⟩ = some (.int .u32 0) := (blk_cell BK140.out 0).trans rfl; have hcz12_1 : w10.cell? ⟨gb140, 1, none⟩ = some (.int .u8 0) := (blk_cell BK140.out 1).trans rfl; have hfz12_0 := blk_frozen BK140.out 0; have hfz12_1 := blk_frozen BK140.out 1) | ((with_reducible refine gate_callee (f := 9) rfl ?_); refine goesL_ (some 9) rfl rfl Try.func9 (by kernel_rfl) rfl #[.pointer (some ⟨g139, 0, none⟩), .agg #[.int .u32 167772160, .int .u8 8], .agg #[.int .u16 1, .int .u16 96]] rfl (by (try simp only [List.map_toArray, List.map_cons, List.map_nil]); first | done | rfl | (simp only [List.length_drop, List.length_take]; rfl) | (simp; done) | (refine qa_arr ?_; (repeat' (first | rfl | refine qa_cons ?_ ?_ | refine qa_int ?_ | refine qa_agg ?_ | refine qa_arr ?_ | omega)); done)) ?_; (with_reducible refine (source_Source_Lower.calls g139 t138 167772160 8 1 96 t141 t142 w _ ?side1 ?side2 A2.out).mono ?_); (case side1 => repeat (first | (with_reducible first | exact HI139.out | apply IsS64.alloc | apply IsS64.drewN | apply IsS64.drew | apply IsS64.set_0 | (refine IsS64.far ?_ ?_ _; rotate_left; focus ((repeat (first | exact Oth.of_blk BK140.out (by decide) (by decide) | apply Oth.set | apply Oth.alloc | apply Oth.drewN | apply Oth.drew)); done))) | exact HI139.out)); (case side2 => repeat (first | (with_reducible first | exact HB.out | apply below_alloc | apply pw_below_drewN | apply below_drew1 | refine below_set ?_ (IsS64.ge HI139.out) | refine below_set ?_ GE140.out) | exact HB.out)); rintro e w13 ⟨rfl, hi, hb, hk⟩; refine ⟨_, rfl, ?_⟩; have n0_ := Aside0.mk (KeepT.blk hk (g := gb140) (o := .cells #[.int .u32 167772160, .int .u8 8] 31 (0, 0)) (by (with_reducible repeat (first | refine blk_drewN ?_ _ | refine blk_drew ?_ | refine blk_alloc ?_ _)); refine blk_put (cs := #[.int .u32 167772160, .int .u8 0]) ?_ 1 _ rfl; (with_reducible repeat (first | refine blk_drewN ?_ _ | refine blk_drew ?_ | refine blk_alloc ?_ _)); refine blk_put (cs := #[.int .u32 0, .int .u8 0]) ?_ 0 _ rfl; (with_reducible repeat (first | refine blk_drewN ?_ _ | refine blk_drew ?_ | refine blk_alloc ?_ _)); exact BK140.out) rfl (by decide) (by decide)); have n1_ := Aside0.mk (hb); have n2_ := Aside0.mk (hi); clear BK140; clear HB; clear HI139; have BK140 := n0_; have HB := n1_; have HI139 := n2_; clear n0_ n1_ n2_; (try clear hb); (try clear hb2); (try clear hk); (try clear hi); have hcz14_0 : w13.cell? ⟨gb140, 0, none⟩ = some (.int .u32 167772160) := (blk_cell BK140.out 0).trans rfl; have hcz14_1 : w13.cell? ⟨gb140, 1, none⟩ = some (.int .u8 8) := (blk_cell BK140.out 1).trans rfl; have hfz14_0 := blk_frozen BK140.out 0; have hfz14_1 := blk_frozen BK140.out 1) | (go_at_call 11; (with_reducible refine (source_Source_Feasible.calls g139 t142 167772160 8 1 95 true t144 w _ ?side1 ?side2 A4.out).mono ?_); (case side1 => repeat (first | (with_reducible first | exact HI139.out | apply IsS64.alloc | apply IsS64.drewN | apply IsS64.drew | apply IsS64.set_0 | (refine IsS64.far ?_ ?_ _; rotate_left; focus ((repeat (first | exact Oth.of_blk BK140.out (by decide) (by decide) | apply Oth.set | apply Oth.alloc | apply Oth.drewN | apply Oth.drew)); done))) | exact HI139.out)); (case side2 => repeat (first | (with_reducible first | exact HB.out | apply below_alloc | apply pw_below_drewN | apply below_drew1 | refine below_set ?_ (IsS64.ge HI139.out) | refine below_set ?_ GE140.out) | exact HB.out)); rintro e w15 ⟨rfl, hi, hb, hk⟩; have n0_ := Aside0.mk (KeepT.blk hk (g := gb140) (o := .cells #[.int .u32 167772160, .int .u8 8] 31 (0, 0)) (by (with_reducible repeat (first | refine blk_drewN ?_ _ | refine blk_drew ?_ | refine blk_alloc ?_ _)); exact BK140.out) rfl (by decide) (by decide)); have n1_ := Aside0.mk (hb); have n2_ := Aside0.mk (hi); clear BK140; clear HB; clear HI139; have BK140 := n0_; have HB := n1_; have HI139 := n2_; clear n0_ n1_ n2_; (try clear hb); (try clear hb2); (try clear hk); (try clear hi); have hcz16_0 : w15.cell? ⟨gb140, 0, none⟩ = some (.int .u32 167772160) := (blk_cell BK140.out 0).trans rfl; have hcz16_1 : w15.cell? ⟨gb140, 1, none⟩ = some (.int .u8 8) := (blk_cell BK140.out 1).trans rfl; have hfz16_0 := blk_frozen BK140.out 0; have hfz16_1 := blk_frozen BK140.out 1) | (go_at_call 11; (with_reducible refine (source_Source_Feasible.calls g139 t144 167772160 8 2 500 true t146 w _ ?side1 ?side2 A6.out).mono ?_); (case side1 => repeat (first | (with_reducible first | exact HI139.out | apply IsS64.alloc | apply IsS64.drewN | apply IsS64.drew | apply IsS64.set_0 | (refine IsS64.far ?_ ?_ _; rotate_left; focus ((repeat (first | exact Oth.of_blk BK140.out (by decide) (by decide) | apply Oth.set | apply Oth.alloc | apply Oth.drewN | apply Oth.drew)); done))) | exact HI139.out)); (case side2 => repeat (first | (with_reducible first | exact HB.out | apply below_alloc | apply pw_below_drewN | apply below_drew1 | refine below_set ?_ (IsS64.ge HI139.out) | refine below_set ?_ GE140.out) | exact HB.out)); rintro e w17 ⟨rfl, hi, hb, hk⟩; have n0_ := Aside0.mk (KeepT.blk hk (g := gb140) (o := .cells #[.int .u32 167772160, .int .u8 8] 31 (0, 0)) (by (with_reducible repeat (first | refine blk_drewN ?_ _ | refine blk_drew ?_ | refine blk_alloc ?_ _)); exact BK140.out) rfl (by decide) (by decide)); have n1_ := Aside0.mk (hb); have n2_ := Aside0.mk (hi); clear BK140; clear HB; clear HI139; have BK140 := n0_; have HB := n1_; have HI139 := n2_; clear n0_ n1_ n2_; (try clear hb); (try clear hb2); (try clear hk); (try clear hi); have hcz18_0 : w17.cell? ⟨gb140, 0, none⟩ = some (.int .u32 167772160) := (blk_cell BK140.out 0).trans rfl; have hcz18_1 : w17.cell? ⟨gb140, 1, none⟩ = some (.int .u8 8) := (blk_cell BK140.out 1).trans rfl; have hfz18_0 := blk_frozen BK140.out 0; have hfz18_1 := blk_frozen BK140.out 1) | (go_at_call 11; (with_reducible refine (source_Source_Feasible.calls g139 t146 167772160 8 1 96 t147 t148 w _ ?side1 ?side2 A8.out).mono ?_); (case side1 => repeat (first | (with_reducible first | exact HI139.out | apply IsS64.alloc | apply IsS64.drewN | apply IsS64.drew | apply IsS64.set_0 | (refine IsS64.far ?_ ?_ _; rotate_left; focus ((repeat (first | exact Oth.of_blk BK140.out (by decide) (by decide) | apply Oth.set | apply Oth.alloc | apply Oth.drewN | apply Oth.drew)); done))) | exact HI139.out)); (case side2 => repeat (first | (with_reducible first | exact HB.out | apply below_alloc | apply pw_below_drewN | apply below_drew1 | refine below_set ?_ (IsS64.ge HI139.out) | refine below_set ?_ GE140.out) | exact HB.out)); rintro e w19 ⟨rfl, hi, hb, hk⟩; have n0_ := Aside0.mk (KeepT.blk hk (g := gb140) (o := .cells #[.int .u32 167772160, .int .u8 8] 31 (0, 0)) (by (with_reducible repeat (first | refine blk_drewN ?_ _ | refine blk_drew ?_ | refine blk_alloc ?_ _)); exact BK140.out) rfl (by decide) (by decide)); have n1_ := Aside0.mk (hb); have n2_ := Aside0.mk (hi); clear BK140; clear HB; clear HI139; have BK140 := n0_; have HB := n1_; have HI139 := n2_; clear n0_ n1_ n2_; (try clear hb); (try clear hb2); (try clear hk); (try clear hi)) | (go_at_call 11; (refine calls_of_args (args' := #[.pointer (some ⟨g139, 0, none⟩), .agg #[.int .u32 167772160, .int .u8 8], .agg #[.int .u16 1, .int .u16 95]]) ?_ ?_; focus (first | rfl | (simp; done) | (refine qa_arr ?_; (repeat' (first | rfl | refine qa_cons ?_ ?_ | refine qa_int ?_ | refine qa_agg ?_ | refine qa_arr ?_ | omega)); done)); (with_reducible refine (source_Source_Feasible.calls g139 t142 167772160 8 1 95 true t144 w _ ?side1 ?side2 A4.out).mono ?_)); (case side1 => repeat (first | (with_reducible first | exact HI139.out | apply IsS64.alloc | apply IsS64.drewN | apply IsS64.drew | apply IsS64.set_0 | (refine IsS64.far ?_ ?_ _; rotate_left; focus ((repeat (first | exact Oth.of_blk BK140.out (by decide) (by decide) | apply Oth.set | apply Oth.alloc | apply Oth.drewN | apply Oth.drew)); done))) | exact HI139.out)); (case side2 => repeat (first | (with_reducible first | exact HB.out | apply below_alloc | apply pw_below_drewN | apply below_drew1 | refine below_set ?_ (IsS64.ge HI139.out) | refine below_set ?_ GE140.out) | exact HB.out)); rintro e w15 ⟨rfl, hi, hb, hk⟩; have n0_ := Aside0.mk (KeepT.blk hk (g := gb140) (o := .cells #[.int .u32 167772160, .int .u8 8] 31 (0, 0)) (by (with_reducible repeat (first | refine blk_drewN ?_ _ | refine blk_drew ?_ | refine blk_alloc ?_ _)); exact BK140.out) rfl (by decide) (by decide)); have n1_ := Aside0.mk (hb); have n2_ := Aside0.mk (hi); clear BK140; clear HB; clear HI139; have BK140 := n0_; have HB := n1_; have HI139 := n2_; clear n0_ n1_ n2_; (try clear hb); (try clear hb2); (try clear hk); (try clear hi); have hcz16_0 : w15.cell? ⟨gb140, 0, none⟩ = some (.int .u32 167772160) := (blk_cell BK140.out 0).trans rfl; have hcz16_1 : w15.cell? ⟨gb140, 1, none⟩ = some (.int .u8 8) := (blk_cell BK140.out 1).trans rfl; have hfz16_0 := blk_frozen BK140.out 0; have hfz16_1 := blk_frozen BK140.out 1) | (go_at_call 11; (refine calls_of_args (args' := #[.pointer (some ⟨g139, 0, none⟩), .agg #[.int .u32 167772160, .int .u8 8], .agg #[.int .u16 2, .int .u16 500]]) ?_ ?_; focus (first | rfl | (simp; done) | (refine qa_arr ?_; (repeat' (first | rfl | refine qa_cons ?_ ?_ | refine qa_int ?_ | refine qa_agg ?_ | refine qa_arr ?_ | omega)); done)); (with_reducible refine (source_Source_Feasible.calls g139 t144 167772160 8 2 500 true t146 w _ ?side1 ?side2 A6.out).mono ?_)); (case side1 => repeat (first | (with_reducible first | exact HI139.out | apply IsS64.alloc | apply IsS64.drewN | apply IsS64.drew | apply IsS64.set_0 | (refine IsS64.far ?_ ?_ _; rotate_left; focus ((repeat (first | exact Oth.of_blk BK140.out (by decide) (by decide) | apply Oth.set | apply Oth.alloc | apply Oth.drewN | apply Oth.drew)); done))) | exact HI139.out)); (case side2 => repeat (first | (with_reducible first | exact HB.out | apply below_alloc | apply pw_below_drewN | apply below_drew1 | refine below_set ?_ (IsS64.ge HI139.out) | refine below_set ?_ GE140.out) | exact HB.out)); rintro e w17 ⟨rfl, hi, hb, hk⟩; have n0_ := Aside0.mk (KeepT.blk hk (g := gb140) (o := .cells #[.int .u32 167772160, .int .u8 8] 31 (0, 0)) (by (with_reducible repeat (first | refine blk_drewN ?_ _ | refine blk_drew ?_ | refine blk_alloc ?_ _)); exact BK140.out) rfl (by decide) (by decide)); have n1_ := Aside0.mk (hb); have n2_ := Aside0.mk (hi); clear BK140; clear HB; clear HI139; have BK140 := n0_; have HB := n1_; have HI139 := n2_; clear n0_ n1_ n2_; (try clear hb); (try clear hb2); (try clear hk); (try clear hi); have hcz18_0 : w17.cell? ⟨gb140, 0, none⟩ = some (.int .u32 167772160) := (blk_cell BK140.out 0).trans rfl; have hcz18_1 : w17.cell? ⟨gb140, 1, none⟩ = some (.int .u8 8) := (blk_cell BK140.out 1).trans rfl; have hfz18_0 := blk_frozen BK140.out 0; have hfz18_1 := blk_frozen BK140.out 1) | (go_at_call 11; (refine calls_of_args (args' := #[.pointer (some ⟨g139, 0, none⟩), .agg #[.int .u32 167772160, .int .u8 8], .agg #[.int .u16 1, .int .u16 96]]) ?_ ?_; focus (first | rfl | (simp; done) | (refine qa_arr ?_; (repeat' (first | rfl | refine qa_cons ?_ ?_ | refine qa_int ?_ | refine qa_agg ?_ | refine qa_arr ?_ | omega)); done)); (with_reducible refine (source_Source_Feasible.calls g139 t146 167772160 8 1 96 t147 t148 w _ ?side1 ?side2 A8.out).mono ?_)); (case side1 => repeat (first | (with_reducible first | exact HI139.out | apply IsS64.alloc | apply IsS64.drewN | apply IsS64.drew | apply IsS64.set_0 | (refine IsS64.far ?_ ?_ _; rotate_left; focus ((repeat (first | exact Oth.of_blk BK140.out (by decide) (by decide) | apply Oth.set | apply Oth.alloc | apply Oth.drewN | apply Oth.drew)); done))) | exact HI139.out)); (case side2 => repeat (first | (with_reducible first | exact HB.out | apply below_alloc | apply pw_below_drewN | apply below_drew1 | refine below_set ?_ (IsS64.ge HI139.out) | refine below_set ?_ GE140.out) | exact HB.out)); rintro e w19 ⟨rfl, hi, hb, hk⟩; have n0_ := Aside0.mk (KeepT.blk hk (g := gb140) (o := .cells #[.int .u32 167772160, .int .u8 8] 31 (0, 0)) (by (with_reducible repeat (first | refine blk_drewN ?_ _ | refine blk_drew ?_ | refine blk_alloc ?_ _)); exact BK140.out) rfl (by decide) (by decide)); have n1_ := Aside0.mk (hb); have n2_ := Aside0.mk (hi); clear BK140; clear HB; clear HI139; have BK140 := n0_; have HB := n1_; have HI139 := n2_; clear n0_ n1_ n2_; (try clear hb); (try clear hb2); (try clear hk); (try clear hi)))
        go_ret
        exact ⟨by first | rfl | (simp [errW_none, errW_some] <;> rfl) | (simp [*, errW_none, errW_some] <;> rfl), by repeat (first | (with_reducible first | exact HB.out | apply below_alloc | apply pw_below_drewN | apply below_drew1 | refine below_set ?_ (IsS64.ge HI139.out) | refine below_set ?_ GE140.out) | exact HB.out)⟩
      · replace c7 := Bool.eq_false_iff.mpr c7
        subst c7
        have H1 : (some false) = some r := by rw [if_neg (show ¬ (false = true) by decide)] at H; exact H
        clear H
        have H := H1
        clear H1
        obtain rfl := Option.some.inj H
        simp only [Option.some.injEq, Prod.mk.injEq] at H
        obtain ⟨rfl⟩ := H
        go_enter Try.func6, Try.ntmps6
        go_wp2_with (first | ((with_reducible refine gate_callee (f := 7) rfl ?_); refine goesL_ (some 4) rfl rfl Try.func7 (by kernel_rfl) rfl #[] rfl (by (try simp only [List.map_toArray, List.map_cons, List.map_nil]); first | done | rfl | (simp only [List.length_drop, List.length_take]; rfl) | (simp; done) | (refine qa_arr ?_; (repeat' (first | rfl | refine qa_cons ?_ ?_ | refine qa_int ?_ | refine qa_agg ?_ | refine qa_arr ?_ | omega)); done)) ?_; (with_reducible refine (source_New.calls  t138 w _ ?side1 A1.out).mono ?_); (case side1 => repeat (first | (with_reducible first | exact HB.out | apply below_alloc | apply pw_below_drewN | apply below_drew1) | exact HB.out)); rintro e w20 ⟨g139, rfl, hi, hb, hb2⟩; refine ⟨_, rfl, ?_⟩; have n0_ := Aside0.mk (hb); have n1_ := Aside0.mk (hi); clear HB; have HB := n0_; have HI139 := n1_; clear n0_ n1_; (try clear hb); (try clear hb2); (try clear hk); (try clear hi)) | ((with_reducible refine gate_dst (N := 2) rfl ?_); refine box_event ?hg (N := 2) ?hd (cs := #[.int .u32 0, .int .u8 0]) (t := 31) ?hr ?_; (case hd => rfl); (case hg => rfl); (case hr => first | (go_simp; done) | (go_simp; rfl)); intro gb140 hg w21 hbox hb; have n0_ := Aside0.mk (IsS64.below (by repeat (first | (with_reducible first | exact HI139.out | apply IsS64.alloc | apply IsS64.drewN | apply IsS64.drew | apply IsS64.set_0) | exact HI139.out)) hb); have n1_ := Aside0.mk (below_step (by repeat (first | (with_reducible first | exact HB.out | apply below_alloc | apply pw_below_drewN | apply below_drew1 | refine below_set ?_ (IsS64.ge HI139.out)) | exact HB.out)) hb); have n2_ := Aside0.mk (hbox); have n3_ := Aside0.mk ((by rw [hg]; exact (below_size (by repeat (first | (with_reducible first | exact HB.out | apply below_alloc | apply pw_below_drewN | apply below_drew1 | refine below_set ?_ (IsS64.ge HI139.out)) | exact HB.out))) : w.heap.size ≤ gb140)); have n4_ := Aside0.mk ((by rw [hg]; exact (below_size (by repeat (first | (with_reducible first | exact HB.out | apply below_alloc | apply pw_below_drewN | apply below_drew1 | refine below_set ?_ (IsS64.ge HI139.out)) | exact HB.out))) : w.heap.size ≤ gb140)); have n5_ := Aside0.mk ((by rw [hg]; exact Nat.ne_of_lt (IsS64.lt (show IsS64 w _ g139 t138 from by repeat (first | (with_reducible first | exact HI139.out | apply IsS64.alloc | apply IsS64.drewN | apply IsS64.drew | apply IsS64.set_0) | exact HI139.out))) : g139 ≠ gb140)); have n6_ := Aside0.mk ((by rw [hg]; exact Nat.ne_of_gt (IsS64.lt (show IsS64 w _ g139 t138 from by repeat (first | (with_reducible first | exact HI139.out | apply IsS64.alloc | apply IsS64.drewN | apply IsS64.drew | apply IsS64.set_0) | exact HI139.out))) : gb140 ≠ g139)); clear HI139; clear HB; have HI139 := n0_; have HB := n1_; have BK140 := n2_; have GW140 := n3_; have GE140 := n4_; have NB139_140 := n5_; have NB140_139 := n6_; clear n0_ n1_ n2_ n3_ n4_ n5_ n6_; clear hb hbox hg; have hnb22 := NB140_139.out; have hnc22 := NB139_140.out; have hcz23_0 : w21.cell? ⟨gb140, 0, none⟩ = some (.int .u32 0) := (blk_cell BK140.out 0).trans rfl; have hcz23_1 : w21.cell? ⟨gb140, 1, none⟩ = some (.int .u8 0) := (blk_cell BK140.out 1).trans rfl; have hfz23_0 := blk_frozen BK140.out 0; have hfz23_1 := blk_frozen BK140.out 1) | ((with_reducible refine gate_callee (f := 9) rfl ?_); refine goesL_ (some 9) rfl rfl Try.func9 (by kernel_rfl) rfl #[.pointer (some ⟨g139, 0, none⟩), .agg #[.int .u32 167772160, .int .u8 8], .agg #[.int .u16 1, .int .u16 96]] rfl (by (try simp only [List.map_toArray, List.map_cons, List.map_nil]); first | done | rfl | (simp only [List.length_drop, List.length_take]; rfl) | (simp; done) | (refine qa_arr ?_; (repeat' (first | rfl | refine qa_cons ?_ ?_ | refine qa_int ?_ | refine qa_agg ?_ | refine qa_arr ?_ | omega)); done)) ?_; (with_reducible refine (source_Source_Lower.calls g139 t138 167772160 8 1 96 t141 t142 w _ ?side1 ?side2 A2.out).mono ?_); (case side1 => repeat (first | (with_reducible first | exact HI139.out | apply IsS64.alloc | apply IsS64.drewN | apply IsS64.drew | apply IsS64.set_0 | (refine IsS64.far ?_ ?_ _; rotate_left; focus ((repeat (first | exact Oth.of_blk BK140.out (by decide) (by decide) | apply Oth.set | apply Oth.alloc | apply Oth.drewN | apply Oth.drew)); done))) | exact HI139.out)); (case side2 => repeat (first | (with_reducible first | exact HB.out | apply below_alloc | apply pw_below_drewN | apply below_drew1 | refine below_set ?_ (IsS64.ge HI139.out) | refine below_set ?_ GE140.out) | exact HB.out)); rintro e w24 ⟨rfl, hi, hb, hk⟩; refine ⟨_, rfl, ?_⟩; have n0_ := Aside0.mk (KeepT.blk hk (g := gb140) (o := .cells #[.int .u32 167772160, .int .u8 8] 31 (0, 0)) (by (with_reducible repeat (first | refine blk_drewN ?_ _ | refine blk_drew ?_ | refine blk_alloc ?_ _)); refine blk_put (cs := #[.int .u32 167772160, .int .u8 0]) ?_ 1 _ rfl; (with_reducible repeat (first | refine blk_drewN ?_ _ | refine blk_drew ?_ | refine blk_alloc ?_ _)); refine blk_put (cs := #[.int .u32 0, .int .u8 0]) ?_ 0 _ rfl; (with_reducible repeat (first | refine blk_drewN ?_ _ | refine blk_drew ?_ | refine blk_alloc ?_ _)); exact BK140.out) rfl (by decide) (by decide)); have n1_ := Aside0.mk (hb); have n2_ := Aside0.mk (hi); clear BK140; clear HB; clear HI139; have BK140 := n0_; have HB := n1_; have HI139 := n2_; clear n0_ n1_ n2_; (try clear hb); (try clear hb2); (try clear hk); (try clear hi); have hcz25_0 : w24.cell? ⟨gb140, 0, none⟩ = some (.int .u32 167772160) := (blk_cell BK140.out 0).trans rfl; have hcz25_1 : w24.cell? ⟨gb140, 1, none⟩ = some (.int .u8 8) := (blk_cell BK140.out 1).trans rfl; have hfz25_0 := blk_frozen BK140.out 0; have hfz25_1 := blk_frozen BK140.out 1) | (go_at_call 11; (with_reducible refine (source_Source_Feasible.calls g139 t142 167772160 8 1 95 true t144 w _ ?side1 ?side2 A4.out).mono ?_); (case side1 => repeat (first | (with_reducible first | exact HI139.out | apply IsS64.alloc | apply IsS64.drewN | apply IsS64.drew | apply IsS64.set_0 | (refine IsS64.far ?_ ?_ _; rotate_left; focus ((repeat (first | exact Oth.of_blk BK140.out (by decide) (by decide) | apply Oth.set | apply Oth.alloc | apply Oth.drewN | apply Oth.drew)); done))) | exact HI139.out)); (case side2 => repeat (first | (with_reducible first | exact HB.out | apply below_alloc | apply pw_below_drewN | apply below_drew1 | refine below_set ?_ (IsS64.ge HI139.out) | refine below_set ?_ GE140.out) | exact HB.out)); rintro e w26 ⟨rfl, hi, hb, hk⟩; have n0_ := Aside0.mk (KeepT.blk hk (g := gb140) (o := .cells #[.int .u32 167772160, .int .u8 8] 31 (0, 0)) (by (with_reducible repeat (first | refine blk_drewN ?_ _ | refine blk_drew ?_ | refine blk_alloc ?_ _)); exact BK140.out) rfl (by decide) (by decide)); have n1_ := Aside0.mk (hb); have n2_ := Aside0.mk (hi); clear BK140; clear HB; clear HI139; have BK140 := n0_; have HB := n1_; have HI139 := n2_; clear n0_ n1_ n2_; (try clear hb); (try clear hb2); (try clear hk); (try clear hi); have hcz27_0 : w26.cell? ⟨gb140, 0, none⟩ = some (.int .u32 167772160) := (blk_cell BK140.out 0).trans rfl; have hcz27_1 : w26.cell? ⟨gb140, 1, none⟩ = some (.int .u8 8) := (blk_cell BK140.out 1).trans rfl; have hfz27_0 := blk_frozen BK140.out 0; have hfz27_1 := blk_frozen BK140.out 1) | (go_at_call 11; (with_reducible refine (source_Source_Feasible.calls g139 t144 167772160 8 2 500 false t146 w _ ?side1 ?side2 A6.out).mono ?_); (case side1 => repeat (first | (with_reducible first | exact HI139.out | apply IsS64.alloc | apply IsS64.drewN | apply IsS64.drew | apply IsS64.set_0 | (refine IsS64.far ?_ ?_ _; rotate_left; focus ((repeat (first | exact Oth.of_blk BK140.out (by decide) (by decide) | apply Oth.set | apply Oth.alloc | apply Oth.drewN | apply Oth.drew)); done))) | exact HI139.out)); (case side2 => repeat (first | (with_reducible first | exact HB.out | apply below_alloc | apply pw_below_drewN | apply below_drew1 | refine below_set ?_ (IsS64.ge HI139.out) | refine below_set ?_ GE140.out) | exact HB.out)); rintro e w28 ⟨rfl, hi, hb, hk⟩; have n0_ := Aside0.mk (KeepT.blk hk (g := gb140) (o := .cells #[.int .u32 167772160, .int .u8 8] 31 (0, 0)) (by (with_reducible repeat (first | refine blk_drewN ?_ _ | refine blk_drew ?_ | refine blk_alloc ?_ _)); exact BK140.out) rfl (by decide) (by decide)); have n1_ := Aside0.mk (hb); have n2_ := Aside0.mk (hi); clear BK140; clear HB; clear HI139; have BK140 := n0_; have HB := n1_; have HI139 := n2_; clear n0_ n1_ n2_; (try clear hb); (try clear hb2); (try clear hk); (try clear hi)) | (go_at_call 11; (refine calls_of_args (args' := #[.pointer (some ⟨g139, 0, none⟩), .agg #[.int .u32 167772160, .int .u8 8], .agg #[.int .u16 1, .int .u16 95]]) ?_ ?_; focus (first | rfl | (simp; done) | (refine qa_arr ?_; (repeat' (first | rfl | refine qa_cons ?_ ?_ | refine qa_int ?_ | refine qa_agg ?_ | refine qa_arr ?_ | omega)); done)); (with_reducible refine (source_Source_Feasible.calls g139 t142 167772160 8 1 95 true t144 w _ ?side1 ?side2 A4.out).mono ?_)); (case side1 => repeat (first | (with_reducible first | exact HI139.out | apply IsS64.alloc | apply IsS64.drewN | apply IsS64.drew | apply IsS64.set_0 | (refine IsS64.far ?_ ?_ _; rotate_left; focus ((repeat (first | exact Oth.of_blk BK140.out (by decide) (by decide) | apply Oth.set | apply Oth.alloc | apply Oth.drewN | apply Oth.drew)); done))) | exact HI139.out)); (case side2 => repeat (first | (with_reducible first | exact HB.out | apply below_alloc | apply pw_below_drewN | apply below_drew1 | refine below_set ?_ (IsS64.ge HI139.out) | refine below_set ?_ GE140.out) | exact HB.out)); rintro e w26 ⟨rfl, hi, hb, hk⟩; have n0_ := Aside0.mk (KeepT.blk hk (g := gb140) (o := .cells #[.int .u32 167772160, .int .u8 8] 31 (0, 0)) (by (with_reducible repeat (first | refine blk_drewN ?_ _ | refine blk_drew ?_ | refine blk_alloc ?_ _)); exact BK140.out) rfl (by decide) (by decide)); have n1_ := Aside0.mk (hb); have n2_ := Aside0.mk (hi); clear BK140; clear HB; clear HI139; have BK140 := n0_; have HB := n1_; have HI139 := n2_; clear n0_ n1_ n2_; (try clear hb); (try clear hb2); (try clear hk); (try clear hi); have hcz27_0 : w26.cell? ⟨gb140, 0, none⟩ = some (.int .u32 167772160) := (blk_cell BK140.out 0).trans rfl; have hcz27_1 : w26.cell? ⟨gb140, 1, none⟩ = some (.int .u8 8) := (blk_cell BK140.out 1).trans rfl; have hfz27_0 := blk_frozen BK140.out 0; have hfz27_1 := blk_frozen BK140.out 1) | (go_at_call 11; (refine calls_of_args (args' := #[.pointer (some ⟨g139, 0, none⟩), .agg #[.int .u32 167772160, .int .u8 8], .agg #[.int .u16 2, .int .u16 500]]) ?_ ?_; focus (first | rfl | (simp; done) | (refine qa_arr ?_; (repeat' (first | rfl | refine qa_cons ?_ ?_ | refine qa_int ?_ | refine qa_agg ?_ | refine qa_arr ?_ | omega)); done)); (with_reducible refine (source_Source_Feasible.calls g139 t144 167772160 8 2 500 false t146 w _ ?side1 ?side2 A6.out).mono ?_)); (case side1 => repeat (first | (with_reducible first | exact HI139.out | apply IsS64.alloc | apply IsS64.drewN | apply IsS64.drew | apply IsS64.set_0 | (refine IsS64.far ?_ ?_ _; rotate_left; focus ((repeat (first | exact Oth.of_blk BK140.out (by decide) (by decide) | apply Oth.set | apply Oth.alloc | apply Oth.drewN | apply Oth.drew)); done))) | exact HI139.out)); (case side2 => repeat (first | (with_reducible first | exact HB.out | apply below_alloc | apply pw_below_drewN | apply below_drew1 | refine below_set ?_ (IsS64.ge HI139.out) | refine below_set ?_ GE140.out) | exact HB.out)); rintro e w28 ⟨rfl, hi, hb, hk⟩; have n0_ := Aside0.mk (KeepT.blk hk (g := gb140) (o := .cells #[.int .u32 167772160, .int .u8 8] 31 (0, 0)) (by (with_reducible repeat (first | refine blk_drewN ?_ _ | refine blk_drew ?_ | refine blk_alloc ?_ _)); exact BK140.out) rfl (by decide) (by decide)); have n1_ := Aside0.mk (hb); have n2_ := Aside0.mk (hi); clear BK140; clear HB; clear HI139; have BK140 := n0_; have HB := n1_; have HI139 := n2_; clear n0_ n1_ n2_; (try clear hb); (try clear hb2); (try clear hk); (try clear hi)))
        go_ret
        exact ⟨by first | rfl | (simp [errW_none, errW_some] <;> rfl) | (simp [*, errW_none, errW_some] <;> rfl), by repeat (first | (with_reducible first | exact HB.out | apply below_alloc | apply pw_below_drewN | apply below_drew1 | refine below_set ?_ (IsS64.ge HI139.out) | refine below_set ?_ GE140.out) | exact HB.out)⟩
    · replace c5 := Bool.eq_false_iff.mpr c5
      subst c5
      have H1 : (some false) = some r := by rw [if_neg (show ¬ (false = true) by decide)] at H; exact H
      clear H
      have H := H1
      clear H1
      obtain rfl := Option.some.inj H
      simp only [Option.some.injEq, Prod.mk.injEq] at H
      obtain ⟨rfl⟩ := H
      go_enter Try.func6, Try.ntmps6
      go_wp2_with (first | ((with_reducible refine gate_callee (f := 7) rfl ?_); refine goesL_ (some 4) rfl rfl Try.func7 (by kernel_rfl) rfl #[] rfl (by (try simp only [List.map_toArray, List.map_cons, List.map_nil]); first | done | rfl | (simp only [List.length_drop, List.length_take]; rfl) | (simp; done) | (refine qa_arr ?_; (repeat' (first | rfl | refine qa_cons ?_ ?_ | refine qa_int ?_ | refine qa_agg ?_ | refine qa_arr ?_ | omega)); done)) ?_; (with_reducible refine (source_New.calls  t138 w _ ?side1 A1.out).mono ?_); (case side1 => repeat (first | (with_reducible first | exact HB.out | apply below_alloc | apply pw_below_drewN | apply below_drew1) | exact HB.out)); rintro e w29 ⟨g139, rfl, hi, hb, hb2⟩; refine ⟨_, rfl, ?_⟩; have n0_ := Aside0.mk (hb); have n1_ := Aside0.mk (hi); clear HB; have HB := n0_; have HI139 := n1_; clear n0_ n1_; (try clear hb); (try clear hb2); (try clear hk); (try clear hi)) | ((with_reducible refine gate_dst (N := 2) rfl ?_); refine box_event ?hg (N := 2) ?hd (cs := #[.int .u32 0, .int .u8 0]) (t := 31) ?hr ?_; (case hd => rfl); (case hg => rfl); (case hr => first | (go_simp; done) | (go_simp; rfl)); intro gb140 hg w30 hbox hb; have n0_ := Aside0.mk (IsS64.below (by repeat (first | (with_reducible first | exact HI139.out | apply IsS64.alloc | apply IsS64.drewN | apply IsS64.drew | apply IsS64.set_0) | exact HI139.out)) hb); have n1_ := Aside0.mk (below_step (by repeat (first | (with_reducible first | exact HB.out | apply below_alloc | apply pw_below_drewN | apply below_drew1 | refine below_set ?_ (IsS64.ge HI139.out)) | exact HB.out)) hb); have n2_ := Aside0.mk (hbox); have n3_ := Aside0.mk ((by rw [hg]; exact (below_size (by repeat (first | (with_reducible first | exact HB.out | apply below_alloc | apply pw_below_drewN | apply below_drew1 | refine below_set ?_ (IsS64.ge HI139.out)) | exact HB.out))) : w.heap.size ≤ gb140)); have n4_ := Aside0.mk ((by rw [hg]; exact (below_size (by repeat (first | (with_reducible first | exact HB.out | apply below_alloc | apply pw_below_drewN | apply below_drew1 | refine below_set ?_ (IsS64.ge HI139.out)) | exact HB.out))) : w.heap.size ≤ gb140)); have n5_ := Aside0.mk ((by rw [hg]; exact Nat.ne_of_lt (IsS64.lt (show IsS64 w _ g139 t138 from by repeat (first | (with_reducible first | exact HI139.out | apply IsS64.alloc | apply IsS64.drewN | apply IsS64.drew | apply IsS64.set_0) | exact HI139.out))) : g139 ≠ gb140)); have n6_ := Aside0.mk ((by rw [hg]; exact Nat.ne_of_gt (IsS64.lt (show IsS64 w _ g139 t138 from by repeat (first | (with_reducible first | exact HI139.out | apply IsS64.alloc | apply IsS64.drewN | apply IsS64.drew | apply IsS64.set_0) | exact HI139.out))) : gb140 ≠ g139)); clear HI139; clear HB; have HI139 := n0_; have HB := n1_; have BK140 := n2_; have GW140 := n3_; have GE140 := n4_; have NB139_140 := n5_; have NB140_139 := n6_; clear n0_ n1_ n2_ n3_ n4_ n5_ n6_; clear hb hbox hg; have hnb31 := NB140_139.out; have hnc31 := NB139_140.out; have hcz32_0 : w30.cell? ⟨gb140, 0, none⟩ = some (.int .u32 0) := (blk_cell BK140.out 0).trans rfl; have hcz32_1 : w30.cell? ⟨gb140, 1, none⟩ = some (.int .u8 0) := (blk_cell BK140.out 1).trans rfl; have hfz32_0 := blk_frozen BK140.out 0; have hfz32_1 := blk_frozen BK140.out 1) | ((with_reducible refine gate_callee (f := 9) rfl ?_); refine goesL_ (some 9) rfl rfl Try.func9 (by kernel_rfl) rfl #[.pointer (some ⟨g139, 0, none⟩), .agg #[.int .u32 167772160, .int .u8 8], .agg #[.int .u16 1, .int .u16 96]] rfl (by (try simp only [List.map_toArray, List.map_cons, List.map_nil]); first | done | rfl | (simp only [List.length_drop, List.length_take]; rfl) | (simp; done) | (refine qa_arr ?_; (repeat' (first | rfl | refine qa_cons ?_ ?_ | refine qa_int ?_ | refine qa_agg ?_ | refine qa_arr ?_ | omega)); done)) ?_; (with_reducible refine (source_Source_Lower.calls g139 t138 167772160 8 1 96 t141 t142 w _ ?side1 ?side2 A2.out).mono ?_); (case side1 => repeat (first | (with_reducible first | exact HI139.out | apply IsS64.alloc | apply IsS64.drewN | apply IsS64.drew | apply IsS64.set_0 | (refine IsS64.far ?_ ?_ _; rotate_left; focus ((repeat (first | exact Oth.of_blk BK140.out (by decide) (by decide) | apply Oth.set | apply Oth.alloc | apply Oth.drewN | apply Oth.drew)); done))) | exact HI139.out)); (case side2 => repeat (first | (with_reducible first | exact HB.out | apply below_alloc | apply pw_below_drewN | apply below_drew1 | refine below_set ?_ (IsS64.ge HI139.out) | refine below_set ?_ GE140.out) | exact HB.out)); rintro e w33 ⟨rfl, hi, hb, hk⟩; refine ⟨_, rfl, ?_⟩; have n0_ := Aside0.mk (KeepT.blk hk (g := gb140) (o := .cells #[.int .u32 167772160, .int .u8 8] 31 (0, 0)) (by (with_reducible repeat (first | refine blk_drewN ?_ _ | refine blk_drew ?_ | refine blk_alloc ?_ _)); refine blk_put (cs := #[.int .u32 167772160, .int .u8 0]) ?_ 1 _ rfl; (with_reducible repeat (first | refine blk_drewN ?_ _ | refine blk_drew ?_ | refine blk_alloc ?_ _)); refine blk_put (cs := #[.int .u32 0, .int .u8 0]) ?_ 0 _ rfl; (with_reducible repeat (first | refine blk_drewN ?_ _ | refine blk_drew ?_ | refine blk_alloc ?_ _)); exact BK140.out) rfl (by decide) (by decide)); have n1_ := Aside0.mk (hb); have n2_ := Aside0.mk (hi); clear BK140; clear HB; clear HI139; have BK140 := n0_; have HB := n1_; have HI139 := n2_; clear n0_ n1_ n2_; (try clear hb); (try clear hb2); (try clear hk); (try clear hi); have hcz34_0 : w33.cell? ⟨gb140, 0, none⟩ = some (.int .u32 167772160) := (blk_cell BK140.out 0).trans rfl; have hcz34_1 : w33.cell? ⟨gb140, 1, none⟩ = some (.int .u8 8) := (blk_cell BK140.out 1).trans rfl; have hfz34_0 := blk_frozen BK140.out 0; have hfz34_1 := blk_frozen BK140.out 1) | (go_at_call 11; (with_reducible refine (source_Source_Feasible.calls g139 t142 167772160 8 1 95 false t144 w _ ?side1 ?side2 A4.out).mono ?_); (case side1 => repeat (first | (with_reducible first | exact HI139.out | apply IsS64.alloc | apply IsS64.drewN | apply IsS64.drew | apply IsS64.set_0 | (refine IsS64.far ?_ ?_ _; rotate_left; focus ((repeat (first | exact Oth.of_blk BK140.out (by decide) (by decide) | apply Oth.set | apply Oth.alloc | apply Oth.drewN | apply Oth.drew)); done))) | exact HI139.out)); (case side2 => repeat (first | (with_reducible first | exact HB.out | apply below_alloc | apply pw_below_drewN | apply below_drew1 | refine below_set ?_ (IsS64.ge HI139.out) | refine below_set ?_ GE140.out) | exact HB.out)); rintro e w35 ⟨rfl, hi, hb, hk⟩; have n0_ := Aside0.mk (KeepT.blk hk (g := gb140) (o := .cells #[.int .u32 167772160, .int .u8 8] 31 (0, 0)) (by (with_reducible repeat (first | refine blk_drewN ?_ _ | refine blk_drew ?_ | refine blk_alloc ?_ _)); exact BK140.out) rfl (by decide) (by decide)); have n1_ := Aside0.mk (hb); have n2_ := Aside0.mk (hi); clear BK140; clear HB; clear HI139; have BK140 := n0_; have HB := n1_; have HI139 := n2_; clear n0_ n1_ n2_; (try clear hb); (try clear hb2); (try clear hk); (try clear hi)) | (go_at_call 11; (refine calls_of_args (args' := #[.pointer (some ⟨g139, 0, none⟩), .agg #[.int .u32 167772160, .int .u8 8], .agg #[.int .u16 1, .int .u16 95]]) ?_ ?_; focus (first | rfl | (simp; done) | (refine qa_arr ?_; (repeat' (first | rfl | refine qa_cons ?_ ?_ | refine qa_int ?_ | refine qa_agg ?_ | refine qa_arr ?_ | omega)); done)); (with_reducible refine (source_Source_Feasible.calls g139 t142 167772160 8 1 95 false t144 w _ ?side1 ?side2 A4.out).mono ?_)); (case side1 => repeat (first | (with_reducible first | exact HI139.out | apply IsS64.alloc | apply IsS64.drewN | apply IsS64.drew | apply IsS64.set_0 | (refine IsS64.far ?_ ?_ _; rotate_left; focus ((repeat (first | exact Oth.of_blk BK140.out (by decide) (by decide) | apply Oth.set | apply Oth.alloc | apply Oth.drewN | apply Oth.drew)); done))) | exact HI139.out)); (case side2 => repeat (first | (with_reducible first | exact HB.out | apply below_alloc | apply pw_below_drewN | apply below_drew1 | refine below_set ?_ (IsS64.ge HI139.out) | refine below_set ?_ GE140.out) | exact HB.out)); rintro e w35 ⟨rfl, hi, hb, hk⟩; have n0_ := Aside0.mk (KeepT.blk hk (g := gb140) (o := .cells #[.int .u32 167772160, .int .u8 8] 31 (0, 0)) (by (with_reducible repeat (first | refine blk_drewN ?_ _ | refine blk_drew ?_ | refine blk_alloc ?_ _)); exact BK140.out) rfl (by decide) (by decide)); have n1_ := Aside0.mk (hb); have n2_ := Aside0.mk (hi); clear BK140; clear HB; clear HI139; have BK140 := n0_; have HB := n1_; have HI139 := n2_; clear n0_ n1_ n2_; (try clear hb); (try clear hb2); (try clear hk); (try clear hi)))
      go_ret
      exact ⟨by first | rfl | (simp [errW_none, errW_some] <;> rfl) | (simp [*, errW_none, errW_some] <;> rfl), by repeat (first | (with_reducible first | exact HB.out | apply below_alloc | apply pw_below_drewN | apply below_drew1 | refine below_set ?_ (IsS64.ge HI139.out) | refine below_set ?_ GE140.out) | exact HB.out)⟩
  · rw [if_neg c3] at H
    have c3b0 : (t141 == 0) = false := beq_eq_false_iff_ne.mpr c3
    have c3b1 : (t141 != 0) = true := bne_iff_ne.mpr c3
    obtain rfl := Option.some.inj H
    simp only [Option.some.injEq, Prod.mk.injEq] at H
    obtain ⟨rfl⟩ := H
    go_enter Try.func6, Try.ntmps6
    go_wp2_with (first | ((with_reducible refine gate_callee (f := 7) rfl ?_); refine goesL_ (some 4) rfl rfl Try.func7 (by kernel_rfl) rfl #[] rfl (by (try simp only [List.map_toArray, List.map_cons, List.map_nil]); first | done | rfl | (simp only [List.length_drop, List.length_take]; rfl) | (simp; done) | (refine qa_arr ?_; (repeat' (first | rfl | refine qa_cons ?_ ?_ | refine qa_int ?_ | refine qa_agg ?_ | refine qa_arr ?_ | omega)); done)) ?_; (with_reducible refine (source_New.calls  t138 w _ ?side1 A1.out).mono ?_); (case side1 => repeat (first | (with_reducible first | exact HB.out | apply below_alloc | apply pw_below_drewN | apply below_drew1) | exact HB.out)); rintro e w36 ⟨g139, rfl, hi, hb, hb2⟩; refine ⟨_, rfl, ?_⟩; have n0_ := Aside0.mk (hb); have n1_ := Aside0.mk (hi); clear HB; have HB := n0_; have HI139 := n1_; clear n0_ n1_; (try clear hb); (try clear hb2); (try clear hk); (try clear hi)) | ((with_reducible refine gate_dst (N := 2) rfl ?_); refine box_event ?hg (N := 2) ?hd (cs := #[.int .u32 0, .int .u8 0]) (t := 31) ?hr ?_; (case hd => rfl); (case hg => rfl); (case hr => first | (go_simp; done) | (go_simp; rfl)); intro gb140 hg w37 hbox hb; have n0_ := Aside0.mk (IsS64.below (by repeat (first | (with_reducible first | exact HI139.out | apply IsS64.alloc | apply IsS64.drewN | apply IsS64.drew | apply IsS64.set_0) | exact HI139.out)) hb); have n1_ := Aside0.mk (below_step (by repeat (first | (with_reducible first | exact HB.out | apply below_alloc | apply pw_below_drewN | apply below_drew1 | refine below_set ?_ (IsS64.ge HI139.out)) | exact HB.out)) hb); have n2_ := Aside0.mk (hbox); have n3_ := Aside0.mk ((by rw [hg]; exact (below_size (by repeat (first | (with_reducible first | exact HB.out | apply below_alloc | apply pw_below_drewN | apply below_drew1 | refine below_set ?_ (IsS64.ge HI139.out)) | exact HB.out))) : w.heap.size ≤ gb140)); have n4_ := Aside0.mk ((by rw [hg]; exact (below_size (by repeat (first | (with_reducible first | exact HB.out | apply below_alloc | apply pw_below_drewN | apply below_drew1 | refine below_set ?_ (IsS64.ge HI139.out)) | exact HB.out))) : w.heap.size ≤ gb140)); have n5_ := Aside0.mk ((by rw [hg]; exact Nat.ne_of_lt (IsS64.lt (show IsS64 w _ g139 t138 from by repeat (first | (with_reducible first | exact HI139.out | apply IsS64.alloc | apply IsS64.drewN | apply IsS64.drew | apply IsS64.set_0) | exact HI139.out))) : g139 ≠ gb140)); have n6_ := Aside0.mk ((by rw [hg]; exact Nat.ne_of_gt (IsS64.lt (show IsS64 w _ g139 t138 from by repeat (first | (with_reducible first | exact HI139.out | apply IsS64.alloc | apply IsS64.drewN | apply IsS64.drew | apply IsS64.set_0) | exact HI139.out))) : gb140 ≠ g139)); clear HI139; clear HB; have HI139 := n0_; have HB := n1_; have BK140 := n2_; have GW140 := n3_; have GE140 := n4_; have NB139_140 := n5_; have NB140_139 := n6_; clear n0_ n1_ n2_ n3_ n4_ n5_ n6_; clear hb hbox hg; have hnb38 := NB140_139.out; have hnc38 := NB139_140.out; have hcz39_0 : w37.cell? ⟨gb140, 0, none⟩ = some (.int .u32 0) := (blk_cell BK140.out 0).trans rfl; have hcz39_1 : w37.cell? ⟨gb140, 1, none⟩ = some (.int .u8 0) := (blk_cell BK140.out 1).trans rfl; have hfz39_0 := blk_frozen BK140.out 0; have hfz39_1 := blk_frozen BK140.out 1) | ((with_reducible refine gate_callee (f := 9) rfl ?_); refine goesL_ (some 9) rfl rfl Try.func9 (by kernel_rfl) rfl #[.pointer (some ⟨g139, 0, none⟩), .agg #[.int .u32 167772160, .int .u8 8], .agg #[.int .u16 1, .int .u16 96]] rfl (by (try simp only [List.map_toArray, List.map_cons, List.map_nil]); first | done | rfl | (simp only [List.length_drop, List.length_take]; rfl) | (simp; done) | (refine qa_arr ?_; (repeat' (first | rfl | refine qa_cons ?_ ?_ | refine qa_int ?_ | refine qa_agg ?_ | refine qa_arr ?_ | omega)); done)) ?_; (with_reducible refine (source_Source_Lower.calls g139 t138 167772160 8 1 96 t141 t142 w _ ?side1 ?side2 A2.out).mono ?_); (case side1 => repeat (first | (with_reducible first | exact HI139.out | apply IsS64.alloc | apply IsS64.drewN | apply IsS64.drew | apply IsS64.set_0 | (refine IsS64.far ?_ ?_ _; rotate_left; focus ((repeat (first | exact Oth.of_blk BK140.out (by decide) (by decide) | apply Oth.set | apply Oth.alloc | apply Oth.drewN | apply Oth.drew)); done))) | exact HI139.out)); (case side2 => repeat (first | (with_reducible first | exact HB.out | apply below_alloc | apply pw_below_drewN | apply below_drew1 | refine below_set ?_ (IsS64.ge HI139.out) | refine below_set ?_ GE140.out) | exact HB.out)); rintro e w40 ⟨rfl, hi, hb, hk⟩; refine ⟨_, rfl, ?_⟩; have n0_ := Aside0.mk (KeepT.blk hk (g := gb140) (o := .cells #[.int .u32 167772160, .int .u8 8] 31 (0, 0)) (by (with_reducible repeat (first | refine blk_drewN ?_ _ | refine blk_drew ?_ | refine blk_alloc ?_ _)); refine blk_put (cs := #[.int .u32 167772160, .int .u8 0]) ?_ 1 _ rfl; (with_reducible repeat (first | refine blk_drewN ?_ _ | refine blk_drew ?_ | refine blk_alloc ?_ _)); refine blk_put (cs := #[.int .u32 0, .int .u8 0]) ?_ 0 _ rfl; (with_reducible repeat (first | refine blk_drewN ?_ _ | refine blk_drew ?_ | refine blk_alloc ?_ _)); exact BK140.out) rfl (by decide) (by decide)); have n1_ := Aside0.mk (hb); have n2_ := Aside0.mk (hi); clear BK140; clear HB; clear HI139; have BK140 := n0_; have HB := n1_; have HI139 := n2_; clear n0_ n1_ n2_; (try clear hb); (try clear hb2); (try clear hk); (try clear hi)))
    go_ret
    exact ⟨by first | rfl | (simp [errW_none, errW_some] <;> rfl) | (simp [*, errW_none, errW_some] <;> rfl), by repeat (first | (with_reducible first | exact HB.out | apply below_alloc | apply pw_below_drewN | apply below_drew1 | refine below_set ?_ (IsS64.ge HI139.out) | refine below_set ?_ GE140.out) | exact HB.out)⟩

/-! ### milestoneref01_Bit: function 31 -/
def milestoneref01_Bit.l0 : Nat → Int → Int → Option (Bool)
  | 0, _, _ => none
  | k + 1, x0, x1 => if x1 < 31 then (milestoneref01_Bit.l0 k ((Int.tdiv x0 2) % 4294967296) (wrap64 (x1 + 1))) else (some ((Int.tmod x0 2) == 1))
def milestoneref01_Bit.f (k : Nat) (a0 : Int) (a1 : Int) : Option (Bool) := milestoneref01_Bit.l0 k a0 a1
theorem milestoneref01_Bit.mono_l : ∀ k, (∀ y0 y1, LeO (milestoneref01_Bit.l0 k y0 y1) (milestoneref01_Bit.l0 (k + 1) y0 y1))
  | 0 => fun _ _ r h => by simp [milestoneref01_Bit.l0] at h
  | k + 1 => by
    have ih0 := milestoneref01_Bit.mono_l k
    · intro y0 y1
      unfold milestoneref01_Bit.l0
      repeat' first
      | (with_reducible exact ih0 _ _)
      | (with_reducible exact LeO.refl _)
      | (with_reducible exact LeO.none _)
      | (with_reducible refine LeO.ite ?_ ?_)
      | (with_reducible refine LeO.bind ?_ (fun _ => ?_))
      | exact ih0 _ _
      | exact LeO.none _
      | refine LeO.ite ?_ ?_
      | refine LeO.bind ?_ (fun _ => ?_)
theorem milestoneref01_Bit.mono : ∀ a0 a1 k, LeO (milestoneref01_Bit.f k a0 a1) (milestoneref01_Bit.f (k + 1) a0 a1) := by
  intro a0 a1 k
  have ih0 := milestoneref01_Bit.mono_l k
  unfold milestoneref01_Bit.f
  repeat' first
      | (with_reducible exact ih0 _ _)
      | (with_reducible exact LeO.refl _)
      | (with_reducible exact LeO.none _)
      | (with_reducible refine LeO.ite ?_ ?_)
      | (with_reducible refine LeO.bind ?_ (fun _ => ?_))
      | exact ih0 _ _
      | exact LeO.none _
      | refine LeO.ite ?_ ?_
      | refine LeO.bind ?_ (fun _ => ?_)
set_option maxHeartbeats 8000000 in
set_option maxRecDepth 100000 in
theorem milestoneref01_Bit.calls (k : Nat) (a0 : Int) (a1 : Int) (r : Bool) (w : World) (h : milestoneref01_Bit.f k a0 a1 = some r) :
    Calls Try.prog 31 #[.int .u32 a0, .int .i64 a1] w fun e w' => e = .returned (.bool r) ∧ Drawn0 w w' := by
  have H : (milestoneref01_Bit.l0 k a0 a1) = some r := h
  clear h
  have H' := Aside0.mk H
  clear H
  go_enter Try.func31, Try.ntmps31
  go_wp2
  go_loopg [0, 1] k (fun kq v0 v1 w' => ∃ (x0_1 : Int) (x1_1 : Int), v0 = .int .u32 x0_1 ∧ v1 = .int .i64 x1_1 ∧ Aside0 (milestoneref01_Bit.l0 kq x0_1 x1_1 = some r) ∧ Aside0 (kq ≤ k) ∧ Drawn0 w w')
  case atStart => exact ⟨(a0), (a1), (by first | rfl | (simp; done) | (simp [*]; done) | (refine qa_int ?_; omega) | (refine qa_int ?_; simp <;> omega)), (by first | rfl | (simp; done) | (simp [*]; done) | (refine qa_int ?_; omega) | (refine qa_int ?_; simp <;> omega)), H', ⟨Nat.le_refl _⟩, by repeat (first | exact Drawn0.refl _ | apply Drawn0.step)⟩
  case round =>
    clear H'
    try clear p2
    obtain ⟨x0_1, x1_1, rfl, rfl, HA, HK1, ⟨m1, rfl⟩⟩ := hrel
    cases gk with
    | zero => exact absurd HA.out (by simp [milestoneref01_Bit.l0])
    | succ k1 =>
      have H := HA.out
      clear HA
      simp only [milestoneref01_Bit.l0] at H
      by_cases c3 : x1_1 < 31
      · rw [if_pos c3] at H
        have c3b0 : decide (x1_1 < 31) = true := decide_eq_true c3
        clear c3
        have H' := Aside0.mk H
        clear H
        go_wp2
        go_roundg k1
        case measure => have := HK1.out; omega
        case rel => exact ⟨((Int.tdiv x0_1 2) % 4294967296), (wrap64 (x1_1 + 1)), (by first | rfl | (simp; done) | (simp [*]; done) | (refine qa_int ?_; omega) | (refine qa_int ?_; simp <;> omega)), (by first | rfl | (simp; done) | (simp [*]; done) | (refine qa_int ?_; omega) | (refine qa_int ?_; simp <;> omega)), H', ⟨by have := HK1.out; omega⟩, by repeat (first | exact Drawn0.refl _ | apply Drawn0.step)⟩
      · rw [if_neg c3] at H
        have c3b0 : decide (x1_1 < 31) = false := decide_eq_false c3
        clear c3
        obtain rfl := Option.some.inj H
        simp only [Option.some.injEq, Prod.mk.injEq] at H
        obtain ⟨rfl⟩ := H
        go_wp2
        go_ret
        exact ⟨by first | rfl | (simp; done) | (simp [*]; done) | (refine qa_int ?_; omega) | (refine qa_int ?_; simp <;> omega), by repeat (first | exact Drawn0.refl _ | apply Drawn0.step)⟩

/-! ### milestoneref01_Of: function 21 -/
mutual
def milestoneref01_Of.j0 : Nat → Int → Int → Option (Int × Int)
  | 0, _, _ => none
  | k + 1, x0, x1 => milestoneref01_Of.l0 k x0 x1 0 0
def milestoneref01_Of.l0 : Nat → Int → Int → Int → Int → Option (Int × Int)
  | 0, _, _, _, _ => none
  | k + 1, x0, x1, x5, x6 => if x6 < 32 then (if x6 < (wrap64 (x1)) then ((milestoneref01_Bit.f k x0 x6).bind fun t150 => (if t150 = true then (milestoneref01_Of.l0 k x0 x1 (((x5 * 2) + 1) % 4294967296) (wrap64 (x6 + 1))) else (milestoneref01_Of.l0 k x0 x1 ((x5 * 2) % 4294967296) (wrap64 (x6 + 1))))) else (milestoneref01_Of.l0 k x0 x1 ((x5 * 2) % 4294967296) (wrap64 (x6 + 1)))) else (some (x5, x1))
end
def milestoneref01_Of.f (k : Nat) (a0 : Int) (a1 : Int) : Option (Int × Int) := if a1 > 32 then (milestoneref01_Of.j0 k a0 32) else (milestoneref01_Of.j0 k a0 a1)
theorem milestoneref01_Of.mono_l : ∀ k, (∀ y0 y1, LeO (milestoneref01_Of.j0 k y0 y1) (milestoneref01_Of.j0 (k + 1) y0 y1)) ∧ (∀ y0 y1 y2 y3, LeO (milestoneref01_Of.l0 k y0 y1 y2 y3) (milestoneref01_Of.l0 (k + 1) y0 y1 y2 y3))
  | 0 => ⟨fun _ _ r h => by simp [milestoneref01_Of.j0] at h, fun _ _ _ _ r h => by simp [milestoneref01_Of.l0] at h⟩
  | k + 1 => by
    obtain ⟨ih0, ih1⟩ := milestoneref01_Of.mono_l k
    refine ⟨?_, ?_⟩
    · intro y0 y1
      unfold milestoneref01_Of.j0
      repeat' first
      | (with_reducible exact ih0 _ _)
      | (with_reducible exact ih1 _ _ _ _)
      | (with_reducible exact milestoneref01_Bit.mono _ _ _)
      | (with_reducible exact LeO.refl _)
      | (with_reducible exact LeO.none _)
      | (with_reducible refine LeO.ite ?_ ?_)
      | (with_reducible refine LeO.bind ?_ (fun _ => ?_))
      | exact ih0 _ _
      | exact ih1 _ _ _ _
      | exact milestoneref01_Bit.mono _ _ _
      | exact LeO.none _
      | refine LeO.ite ?_ ?_
      | refine LeO.bind ?_ (fun _ => ?_)
    · intro y0 y1 y2 y3
      unfold milestoneref01_Of.l0
      repeat' first
      | (with_reducible exact ih0 _ _)
      | (with_reducible exact ih1 _ _ _ _)
      | (with_reducible exact milestoneref01_Bit.mono _ _ _)
      | (with_reducible exact LeO.refl _)
      | (with_reducible exact LeO.none _)
      | (with_reducible refine LeO.ite ?_ ?_)
      | (with_reducible refine LeO.bind ?_ (fun _ => ?_))
      | exact ih0 _ _
      | exact ih1 _ _ _ _
      | exact milestoneref01_Bit.mono _ _ _
      | exact LeO.none _
      | refine LeO.ite ?_ ?_
      | refine LeO.bind ?_ (fun _ => ?_)
theorem milestoneref01_Of.mono : ∀ a0 a1 k, LeO (milestoneref01_Of.f k a0 a1) (milestoneref01_Of.f (k + 1) a0 a1) := by
  intro a0 a1 k
  obtain ⟨ih0, ih1⟩ := milestoneref01_Of.mono_l k
  unfold milestoneref01_Of.f
  repeat' first
      | (with_reducible exact ih0 _ _)
      | (with_reducible exact ih1 _ _ _ _)
      | (with_reducible exact milestoneref01_Bit.mono _ _ _)
      | (with_reducible exact LeO.refl _)
      | (with_reducible exact LeO.none _)
      | (with_reducible refine LeO.ite ?_ ?_)
      | (with_reducible refine LeO.bind ?_ (fun _ => ?_))
      | exact ih0 _ _
      | exact ih1 _ _ _ _
      | exact milestoneref01_Bit.mono _ _ _
      | exact LeO.none _
      | refine LeO.ite ?_ ?_
      | refine LeO.bind ?_ (fun _ => ?_)
set_option maxHeartbeats 8000000 in
set_option maxRecDepth 100000 in
theorem milestoneref01_Of.calls (k : Nat) (a0 : Int) (a1 : Int) (r1 : Int) (r2 : Int) (w : World) (h : milestoneref01_Of.f k a0 a1 = some (r1, r2)) :
    Calls Try.prog 21 #[.int .u32 a0, .int .u8 a1] w fun e w' => e = .returned (.agg #[.int .u32 r1, .int .u8 r2]) ∧ Below w.heap.size w w' := by
  have hu31 := Try.underlying31
  have HB := Aside0.mk (Below.refl w.heap.size w)
  have H : (if a1 > 32 then (milestoneref01_Of.j0 k a0 32) else (milestoneref01_Of.j0 k a0 a1)) = some (r1, r2) := h
  clear h
  have HC3 := Aside0.mk H
  clear H
  go_enter Try.func21, Try.ntmps21
  go_upto_if 8 with (first | ((with_reducible refine gate_dst (N := 4) rfl ?_); refine box_event ?hg (N := 4) ?hd (cs := #[.int .u32 0, .int .u8 0]) (t := 31) ?hr ?_; (case hd => rfl); (case hg => rfl); (case hr => first | (go_simp; done) | (go_simp; rfl)); intro gb149 hg w4 hbox hb; have n0_ := Aside0.mk (below_step (by repeat (first | (with_reducible first | exact HB.out | apply below_alloc | apply pw_below_drewN | apply below_drew1) | exact HB.out)) hb); have n1_ := Aside0.mk (hbox); have n2_ := Aside0.mk ((by rw [hg]; exact (below_size (by repeat (first | (with_reducible first | exact HB.out | apply below_alloc | apply pw_below_drewN | apply below_drew1) | exact HB.out))) : w.heap.size ≤ gb149)); have n3_ := Aside0.mk ((by rw [hg]; exact (below_size (by repeat (first | (with_reducible first | exact HB.out | apply below_alloc | apply pw_below_drewN | apply below_drew1) | exact HB.out))) : w.heap.size ≤ gb149)); clear HB; have HB := n0_; have BK149 := n1_; have GW149 := n2_; have GE149 := n3_; clear n0_ n1_ n2_ n3_; clear hb hbox hg))
  (try simp only [Act.put, List.setIfInBounds_toArray, List.set_cons_zero, List.set_cons_succ])
  go_cut [1] (fun v1 wc => ∃ (kq : Nat) (x1_2 : Int), v1 = .int .u8 x1_2 ∧ Aside0 (milestoneref01_Of.j0 kq a0 x1_2 = some (r1, r2)) ∧ Aside0 (kq ≤ k) ∧ Aside0 (wc.heap[gb149]? = some (.cells #[.int .u32 0, .int .u8 0] 31 (0, 0))) ∧ Aside0 (Below w.heap.size w wc))
  case first =>
    have H := HC3.out
    clear HC3
    by_cases c5 : a1 > 32
    · rw [if_pos c5] at H
      have c5b0 : decide (32 < a1) = true := decide_eq_true c5
      clear c5
      (first | rw [c5b0] | (simp only [i64_w, i32_w]; rw [c5b0]) | skip)
      have H' := Aside0.mk H
      clear H
      go_wp2
      go_meet
      case rel => exact ⟨_, (32), (by first | rfl | (simp; done) | (simp [*]; done) | (refine qa_int ?_; omega) | (refine qa_int ?_; simp <;> omega)), H', ⟨by first | omega | exact Nat.le_refl _⟩, ⟨by (with_reducible repeat (first | refine blk_drewN ?_ _ | refine blk_drew ?_ | refine blk_alloc ?_ _)); exact BK149.out⟩, ⟨by repeat (first | (with_reducible first | exact HB.out | apply below_alloc | apply pw_below_drewN | apply below_drew1 | refine below_set ?_ GE149.out) | exact HB.out)⟩⟩
    · rw [if_neg c5] at H
      have c5b0 : decide (32 < a1) = false := decide_eq_false c5
      clear c5
      (first | rw [c5b0] | (simp only [i64_w, i32_w]; rw [c5b0]) | skip)
      have H' := Aside0.mk H
      clear H
      go_wp2
      go_meet
      case rel => exact ⟨_, (a1), (by first | rfl | (simp; done) | (simp [*]; done) | (refine qa_int ?_; omega) | (refine qa_int ?_; simp <;> omega)), H', ⟨by first | omega | exact Nat.le_refl _⟩, ⟨by (with_reducible repeat (first | refine blk_drewN ?_ _ | refine blk_drew ?_ | refine blk_alloc ?_ _)); exact BK149.out⟩, ⟨by repeat (first | (with_reducible first | exact HB.out | apply below_alloc | apply pw_below_drewN | apply below_drew1 | refine below_set ?_ GE149.out) | exact HB.out)⟩⟩
  case rest =>
    clear HC3
    try clear c2
    try clear p2
    try clear c5
    try clear c5b0
    obtain ⟨kq, x1_2, rfl, HA, HJ2, BK149, HB⟩ := hcut
    cases kq with
    | zero => exact absurd HA.out (by simp [milestoneref01_Of.j0])
    | succ kj2 =>
      have H := HA.out
      clear HA
      simp only [milestoneref01_Of.j0] at H
      have H' := Aside0.mk H
      clear H
      go_wp2
      go_loopg [5, 6] kj2 (fun kq v5 v6 w' => ∃ (x5_2 : Int) (x6_2 : Int), v5 = .int .u32 x5_2 ∧ v6 = .int .i64 x6_2 ∧ Aside0 (milestoneref01_Of.l0 kq a0 x1_2 x5_2 x6_2 = some (r1, r2)) ∧ Aside0 (kq ≤ kj2) ∧ Aside0 (w'.heap[gb149]? = some (.cells #[.int .u32 0, .int .u8 0] 31 (0, 0))) ∧ Aside0 (Below w.heap.size w w'))
      case atStart => exact ⟨(0), (0), (by first | rfl | (simp; done) | (simp [*]; done) | (refine qa_int ?_; omega) | (refine qa_int ?_; simp <;> omega)), (by first | rfl | (simp; done) | (simp [*]; done) | (refine qa_int ?_; omega) | (refine qa_int ?_; simp <;> omega)), H', ⟨Nat.le_refl _⟩, ⟨by (with_reducible repeat (first | refine blk_drewN ?_ _ | refine blk_drew ?_ | refine blk_alloc ?_ _)); exact BK149.out⟩, ⟨by repeat (first | (with_reducible first | exact HB.out | apply below_alloc | apply pw_below_drewN | apply below_drew1 | refine below_set ?_ GE149.out) | exact HB.out)⟩⟩
      case round =>
        clear H'
        try clear c2
        try clear p2
        try clear c5
        try clear c5b0
        try clear p2
        obtain ⟨x5_2, x6_2, rfl, rfl, HA, HK2, BK149, HB⟩ := hrel
        cases gk with
        | zero => exact absurd HA.out (by simp [milestoneref01_Of.l0])
        | succ k2 =>
          have H := HA.out
          clear HA
          simp only [milestoneref01_Of.l0] at H
          by_cases c6 : x6_2 < 32
          · rw [if_pos c6] at H
            have c6b0 : decide (x6_2 < 32) = true := decide_eq_true c6
            clear c6
            by_cases c7 : x6_2 < (wrap64 (x1_2))
            · rw [if_pos c7] at H
              have c7b0 : decide (x6_2 < (wrap64 (x1_2))) = true := decide_eq_true c7
              clear c7
              replace H := Option.bind_eq_some_iff.mp H
              obtain ⟨t150, A80, H⟩ := H
              replace H : (if t150 = true then (milestoneref01_Of.l0 k2 a0 x1_2 (((x5_2 * 2) + 1) % 4294967296) (wrap64 (x6_2 + 1))) else (milestoneref01_Of.l0 k2 a0 x1_2 ((x5_2 * 2) % 4294967296) (wrap64 (x6_2 + 1)))) = some (r1, r2) := H
              have A8 := Aside0.mk A80
              clear A80
              by_cases c9 : t150 = true
              · subst c9
                have H1 : (milestoneref01_Of.l0 k2 a0 x1_2 (((x5_2 * 2) + 1) % 4294967296) (wrap64 (x6_2 + 1))) = some (r1, r2) := by rw [if_pos rfl] at H; exact H
                clear H
                have H := H1
                clear H1
                have H' := Aside0.mk H
                clear H
                go_wp2_with (first | (go_at_call 31; (with_reducible refine (milestoneref01_Bit.calls k2 a0 x6_2 true _ A8.out).mono ?_); rintro e w' ⟨rfl, ⟨nd, rfl⟩⟩) | (go_at_call 31; (refine calls_of_args (args' := #[.int .u32 a0, .int .i64 x6_2]) ?_ ?_; focus (first | rfl | (simp; done) | (refine qa_arr ?_; (repeat' (first | rfl | refine qa_cons ?_ ?_ | refine qa_int ?_ | refine qa_agg ?_ | refine qa_arr ?_ | omega)); done)); (with_reducible refine (milestoneref01_Bit.calls k2 a0 x6_2 true _ A8.out).mono ?_)); rintro e w' ⟨rfl, ⟨nd, rfl⟩⟩))
                go_roundg k2
                case measure => have := HJ2.out; have := HK2.out; omega
                case rel => exact ⟨(((x5_2 * 2) + 1) % 4294967296), (wrap64 (x6_2 + 1)), (by first | rfl | (simp; done) | (simp [*]; done) | (refine qa_int ?_; omega) | (refine qa_int ?_; simp <;> omega)), (by first | rfl | (simp; done) | (simp [*]; done) | (refine qa_int ?_; omega) | (refine qa_int ?_; simp <;> omega)), H', ⟨by have := HJ2.out; have := HK2.out; omega⟩, ⟨by (with_reducible repeat (first | refine blk_drewN ?_ _ | refine blk_drew ?_ | refine blk_alloc ?_ _)); exact BK149.out⟩, ⟨by repeat (first | (with_reducible first | exact HB.out | apply below_alloc | apply pw_below_drewN | apply below_drew1 | refine below_set ?_ GE149.out) | exact HB.out)⟩⟩
              · replace c9 := Bool.eq_false_iff.mpr c9
                subst c9
                have H1 : (milestoneref01_Of.l0 k2 a0 x1_2 ((x5_2 * 2) % 4294967296) (wrap64 (x6_2 + 1))) = some (r1, r2) := by rw [if_neg (show ¬ (false = true) by decide)] at H; exact H
                clear H
                have H := H1
                clear H1
                have H' := Aside0.mk H
                clear H
                go_wp2_with (first | (go_at_call 31; (with_reducible refine (milestoneref01_Bit.calls k2 a0 x6_2 false _ A8.out).mono ?_); rintro e w' ⟨rfl, ⟨nd, rfl⟩⟩) | (go_at_call 31; (refine calls_of_args (args' := #[.int .u32 a0, .int .i64 x6_2]) ?_ ?_; focus (first | rfl | (simp; done) | (refine qa_arr ?_; (repeat' (first | rfl | refine qa_cons ?_ ?_ | refine qa_int ?_ | refine qa_agg ?_ | refine qa_arr ?_ | omega)); done)); (with_reducible refine (milestoneref01_Bit.calls k2 a0 x6_2 false _ A8.out).mono ?_)); rintro e w' ⟨rfl, ⟨nd, rfl⟩⟩))
                go_roundg k2
                case measure => have := HJ2.out; have := HK2.out; omega
                case rel => exact ⟨((x5_2 * 2) % 4294967296), (wrap64 (x6_2 + 1)), (by first | rfl | (simp; done) | (simp [*]; done) | (refine qa_int ?_; omega) | (refine qa_int ?_; simp <;> omega)), (by first | rfl | (simp; done) | (simp [*]; done) | (refine qa_int ?_; omega) | (refine qa_int ?_; simp <;> omega)), H', ⟨by have := HJ2.out; have := HK2.out; omega⟩, ⟨by (with_reducible repeat (first | refine blk_drewN ?_ _ | refine blk_drew ?_ | refine blk_alloc ?_ _)); exact BK149.out⟩, ⟨by repeat (first | (with_reducible first | exact HB.out | apply below_alloc | apply pw_below_drewN | apply below_drew1 | refine below_set ?_ GE149.out) | exact HB.out)⟩⟩
            · rw [if_neg c7] at H
              have c7b0 : decide (x6_2 < (wrap64 (x1_2))) = false := decide_eq_false c7
              clear c7
              have H' := Aside0.mk H
              clear H
              go_wp2
              go_roundg k2
              case measure => have := HJ2.out; have := HK2.out; omega
              case rel => exact ⟨((x5_2 * 2) % 4294967296), (wrap64 (x6_2 + 1)), (by first | rfl | (simp; done) | (simp [*]; done) | (refine qa_int ?_; omega) | (refine qa_int ?_; simp <;> omega)), (by first | rfl | (simp; done) | (simp [*]; done) | (refine qa_int ?_; omega) | (refine qa_int ?_; simp <;> omega)), H', ⟨by have := HJ2.out; have := HK2.out; omega⟩, ⟨by (with_reducible repeat (first | refine blk_drewN ?_ _ | refine blk_drew ?_ | refine blk_alloc ?_ _)); exact BK149.out⟩, ⟨by repeat (first | (with_reducible first | exact HB.out | apply below_alloc | apply pw_below_drewN | apply below_drew1 | refine below_set ?_ GE149.out) | exact HB.out)⟩⟩
          · rw [if_neg c6] at H
            have c6b0 : decide (x6_2 < 32) = false := decide_eq_false c6
            clear c6
            simp only [Option.some.injEq, Prod.mk.injEq] at H
            obtain ⟨rfl, rfl⟩ := H
            have hcz10_0 : wr.cell? ⟨gb149, 0, none⟩ = some (.int .u32 0) := (blk_cell BK149.out 0).trans rfl
            have hcz10_1 : wr.cell? ⟨gb149, 1, none⟩ = some (.int .u8 0) := (blk_cell BK149.out 1).trans rfl
            have hfz10_0 := blk_frozen BK149.out 0
            have hfz10_1 := blk_frozen BK149.out 1
            go_wp2
            refine bodyPost_ret (results_cell_row rfl _ _ gb149 31 #[.int .u32 x5_2, .int .u8 x1_2] (0, 0) _ rfl (by (with_reducible repeat (first | refine blk_drewN ?_ _ | refine blk_drew ?_ | refine blk_alloc ?_ _)); refine blk_put (cs := #[.int .u32 x5_2, .int .u8 0]) ?_ 1 _ rfl; (with_reducible repeat (first | refine blk_drewN ?_ _ | refine blk_drew ?_ | refine blk_alloc ?_ _)); refine blk_put (cs := #[.int .u32 0, .int .u8 0]) ?_ 0 _ rfl; (with_reducible repeat (first | refine blk_drewN ?_ _ | refine blk_drew ?_ | refine blk_alloc ?_ _)); exact BK149.out) Try.underlying31 rfl (by kernel_rfl)) rfl ?_
            exact ⟨by first | rfl | (simp [errW_none, errW_some] <;> rfl) | (simp [*, errW_none, errW_some] <;> rfl), by repeat (first | (with_reducible first | exact HB.out | apply below_alloc | apply pw_below_drewN | apply below_drew1 | refine below_set ?_ GE149.out) | exact HB.out)⟩

/-! ### milestoneref07_Prefix: function 8 -/
def milestoneref07_Prefix.f (k : Nat) (a0 : Int) : Option (Int × Int) := (milestoneref01_Of.f k (Go.bits .or .u32 (Go.bits .or .u32 167772160 ((((Int.tmod a0 3) % 4294967296) * 65536) % 4294967296)) (((Int.tdiv a0 3) % 2) * 32768)) (8 + ((((Int.tdiv a0 6) % 256) % 3) * 8))).bind fun bt152 => (some (bt152.1, bt152.2))
theorem milestoneref07_Prefix.mono : ∀ a0 k, LeO (milestoneref07_Prefix.f k a0) (milestoneref07_Prefix.f (k + 1) a0) := by
  intro a0 k
  unfold milestoneref07_Prefix.f
  repeat' first
      | (with_reducible exact milestoneref01_Of.mono _ _ _)
      | (with_reducible exact LeO.refl _)
      | (with_reducible exact LeO.none _)
      | (with_reducible refine LeO.ite ?_ ?_)
      | (with_reducible refine LeO.bind ?_ (fun _ => ?_))
      | exact milestoneref01_Of.mono _ _ _
      | exact LeO.none _
      | refine LeO.ite ?_ ?_
      | refine LeO.bind ?_ (fun _ => ?_)
set_option maxHeartbeats 8000000 in
set_option maxRecDepth 100000 in
theorem milestoneref07_Prefix.calls (k : Nat) (a0 : Int) (r1 : Int) (r2 : Int) (w : World) (h : milestoneref07_Prefix.f k a0 = some (r1, r2)) :
    Calls Try.prog 8 #[.int .u8 a0] w fun e w' => e = .returned (.agg #[.int .u32 r1, .int .u8 r2]) ∧ Below w.heap.size w w' := by
  have hu31 := Try.underlying31
  have HB := Aside0.mk (Below.refl w.heap.size w)
  have H : ((milestoneref01_Of.f k (Go.bits .or .u32 (Go.bits .or .u32 167772160 ((((Int.tmod a0 3) % 4294967296) * 65536) % 4294967296)) (((Int.tdiv a0 3) % 2) * 32768)) (8 + ((((Int.tdiv a0 6) % 256) % 3) * 8))).bind fun bt152 => (some (bt152.1, bt152.2))) = some (r1, r2) := h
  clear h
  replace H := Option.bind_eq_some_iff.mp H
  obtain ⟨⟨t152, t153⟩, A20, H⟩ := H
  replace H : (some (t152, t153)) = some (r1, r2) := H
  have A2 := Aside0.mk A20
  clear A20
  simp only [Option.some.injEq, Prod.mk.injEq] at H
  obtain ⟨rfl, rfl⟩ := H
  go_enter Try.func8, Try.ntmps8
  go_wp2_with (first | ((with_reducible refine gate_dst (N := 2) rfl ?_); refine box_event ?hg (N := 2) ?hd (cs := #[.int .u32 0, .int .u8 0]) (t := 31) ?hr ?_; (case hd => rfl); (case hg => rfl); (case hr => first | (go_simp; done) | (go_simp; rfl)); intro gb151 hg w3 hbox hb; have n0_ := Aside0.mk (below_step (by repeat (first | (with_reducible first | exact HB.out | apply below_alloc | apply pw_below_drewN | apply below_drew1) | exact HB.out)) hb); have n1_ := Aside0.mk (hbox); have n2_ := Aside0.mk ((by rw [hg]; exact (below_size (by repeat (first | (with_reducible first | exact HB.out | apply below_alloc | apply pw_below_drewN | apply below_drew1) | exact HB.out))) : w.heap.size ≤ gb151)); have n3_ := Aside0.mk ((by rw [hg]; exact (below_size (by repeat (first | (with_reducible first | exact HB.out | apply below_alloc | apply pw_below_drewN | apply below_drew1) | exact HB.out))) : w.heap.size ≤ gb151)); clear HB; have HB := n0_; have BK151 := n1_; have GW151 := n2_; have GE151 := n3_; clear n0_ n1_ n2_ n3_; clear hb hbox hg) | ((with_reducible refine gate_callee (f := 21) rfl ?_); refine goesL_ (some 19) rfl rfl Try.func21 (by kernel_rfl) rfl #[.int .u32 (Go.bits .or .u32 (Go.bits .or .u32 167772160 ((((Int.tmod a0 3) % 4294967296) * 65536) % 4294967296)) (((Int.tdiv a0 3) % 2) * 32768)), .int .u8 (8 + ((((Int.tdiv a0 6) % 256) % 3) * 8))] rfl (by (try simp only [List.map_toArray, List.map_cons, List.map_nil]); first | done | rfl | (simp only [List.length_drop, List.length_take]; rfl) | (simp; done) | (refine qa_arr ?_; (repeat' (first | rfl | refine qa_cons ?_ ?_ | refine qa_int ?_ | refine qa_agg ?_ | refine qa_arr ?_ | omega)); done)) ?_; (with_reducible refine (milestoneref01_Of.calls k (Go.bits .or .u32 (Go.bits .or .u32 167772160 ((((Int.tmod a0 3) % 4294967296) * 65536) % 4294967296)) (((Int.tdiv a0 3) % 2) * 32768)) (8 + ((((Int.tdiv a0 6) % 256) % 3) * 8)) t152 t153 _ A2.out).mono ?_); rintro e w4 ⟨rfl, hb⟩; refine ⟨_, rfl, ?_⟩; have n0_ := Aside0.mk (blk_below (g := gb151) (o := .cells #[.int .u32 0, .int .u8 0] 31 (0, 0)) (by (with_reducible repeat (first | refine blk_drewN ?_ _ | refine blk_drew ?_ | refine blk_alloc ?_ _)); exact BK151.out) hb); have n1_ := Aside0.mk (below_step (by repeat (first | (with_reducible first | exact HB.out | apply below_alloc | apply pw_below_drewN | apply below_drew1 | refine below_set ?_ GE151.out) | exact HB.out)) hb); clear BK151; clear HB; have BK151 := n0_; have HB := n1_; clear n0_ n1_; (try clear hb); (try clear hb2); (try clear hk); (try clear hi); have hcz5_0 : w4.cell? ⟨gb151, 0, none⟩ = some (.int .u32 0) := (blk_cell BK151.out 0).trans rfl; have hcz5_1 : w4.cell? ⟨gb151, 1, none⟩ = some (.int .u8 0) := (blk_cell BK151.out 1).trans rfl; have hfz5_0 := blk_frozen BK151.out 0; have hfz5_1 := blk_frozen BK151.out 1))
  refine bodyPost_ret (results_cell_row rfl _ _ gb151 31 #[.int .u32 t152, .int .u8 t153] (0, 0) _ rfl (by (with_reducible repeat (first | refine blk_drewN ?_ _ | refine blk_drew ?_ | refine blk_alloc ?_ _)); refine blk_put (cs := #[.int .u32 t152, .int .u8 0]) ?_ 1 _ rfl; (with_reducible repeat (first | refine blk_drewN ?_ _ | refine blk_drew ?_ | refine blk_alloc ?_ _)); refine blk_put (cs := #[.int .u32 0, .int .u8 0]) ?_ 0 _ rfl; (with_reducible repeat (first | refine blk_drewN ?_ _ | refine blk_drew ?_ | refine blk_alloc ?_ _)); exact BK151.out) Try.underlying31 rfl (by kernel_rfl)) rfl ?_
  exact ⟨by first | rfl | (simp [errW_none, errW_some] <;> rfl) | (simp [*, errW_none, errW_some] <;> rfl), by repeat (first | (with_reducible first | exact HB.out | apply below_alloc | apply pw_below_drewN | apply below_drew1 | refine below_set ?_ GE151.out) | exact HB.out)⟩

/-! ### milestonelaw15_mark: function 10 -/
def milestonelaw15_mark.f (a0_0 : Int) (a0_1 : Int) (a0_2 : Int) : Option (Int × Int) := some (IntKind.u16.wrap ((Int.tmod (IntKind.u16.wrap (a0_1)) 9) + 65532), a0_2)
set_option maxHeartbeats 8000000 in
set_option maxRecDepth 100000 in
theorem milestonelaw15_mark.calls (a0_0 : Int) (a0_1 : Int) (a0_2 : Int) (r1 : Int) (r2 : Int) (w : World) (h : milestonelaw15_mark.f a0_0 a0_1 a0_2 = some (r1, r2)) :
    Calls Try.prog 10 #[.agg #[.int .u8 a0_0, .int .u8 a0_1, .int .u16 a0_2]] w fun e w' => e = .returned (.agg #[.int .u16 r1, .int .u16 r2]) ∧ Below w.heap.size w w' := by
  have hu25 := Try.underlying25
  have hu36 := Try.underlying36
  have HB := Aside0.mk (Below.refl w.heap.size w)
  have H : (some (IntKind.u16.wrap ((Int.tmod (IntKind.u16.wrap (a0_1)) 9) + 65532), a0_2)) = some (r1, r2) := h
  clear h
  simp only [Option.some.injEq, Prod.mk.injEq] at H
  obtain ⟨rfl, rfl⟩ := H
  go_enter Try.func10, Try.ntmps10
  go_wp2_with (first | ((with_reducible refine gate_dst (N := 1) rfl ?_); refine box_event ?hg (N := 1) ?hd (cs := #[.int .u8 a0_0, .int .u8 a0_1, .int .u16 a0_2]) (t := 25) ?hr ?_; (case hd => rfl); (case hg => rfl); (case hr => first | (go_simp; done) | (go_simp; rfl)); intro gb154 hg w2 hbox hb; have n0_ := Aside0.mk (below_step (by repeat (first | (with_reducible first | exact HB.out | apply below_alloc | apply pw_below_drewN | apply below_drew1) | exact HB.out)) hb); have n1_ := Aside0.mk (hbox); have n2_ := Aside0.mk ((by rw [hg]; exact (below_size (by repeat (first | (with_reducible first | exact HB.out | apply below_alloc | apply pw_below_drewN | apply below_drew1) | exact HB.out))) : w.heap.size ≤ gb154)); have n3_ := Aside0.mk ((by rw [hg]; exact (below_size (by repeat (first | (with_reducible first | exact HB.out | apply below_alloc | apply pw_below_drewN | apply below_drew1) | exact HB.out))) : w.heap.size ≤ gb154)); clear HB; have HB := n0_; have BK154 := n1_; have GW154 := n2_; have GE154 := n3_; clear n0_ n1_ n2_ n3_; clear hb hbox hg) | ((with_reducible refine gate_dst (N := 2) rfl ?_); refine box_event ?hg (N := 2) ?hd (cs := #[.int .u16 0, .int .u16 0]) (t := 36) ?hr ?_; (case hd => rfl); (case hg => rfl); (case hr => first | (go_simp; done) | (go_simp; rfl)); intro gb155 hg w3 hbox hb; have n0_ := Aside0.mk (blk_below (g := gb154) (o := .cells #[.int .u8 a0_0, .int .u8 a0_1, .int .u16 a0_2] 25 (0, 0)) (by (with_reducible repeat (first | refine blk_drewN ?_ _ | refine blk_drew ?_ | refine blk_alloc ?_ _)); exact BK154.out) hb); have n1_ := Aside0.mk (below_step (by repeat (first | (with_reducible first | exact HB.out | apply below_alloc | apply pw_below_drewN | apply below_drew1 | refine below_set ?_ GE154.out) | exact HB.out)) hb); have n2_ := Aside0.mk (hbox); have n3_ := Aside0.mk ((by rw [hg]; exact (below_size (by repeat (first | (with_reducible first | exact HB.out | apply below_alloc | apply pw_below_drewN | apply below_drew1 | refine below_set ?_ GE154.out) | exact HB.out))) : w.heap.size ≤ gb155)); have n4_ := Aside0.mk ((by rw [hg]; exact (below_size (by repeat (first | (with_reducible first | exact HB.out | apply below_alloc | apply pw_below_drewN | apply below_drew1 | refine below_set ?_ GE154.out) | exact HB.out))) : w.heap.size ≤ gb155)); have n5_ := Aside0.mk ((by rw [hg]; exact Nat.ne_of_lt (blk_lt (g := gb154) (o := .cells #[.int .u8 a0_0, .int .u8 a0_1, .int .u16 a0_2] 25 (0, 0)) (by (with_reducible repeat (first | refine blk_drewN ?_ _ | refine blk_drew ?_ | refine blk_alloc ?_ _)); exact BK154.out)) : gb154 ≠ gb155)); have n6_ := Aside0.mk ((by rw [hg]; exact Nat.ne_of_gt (blk_lt (g := gb154) (o := .cells #[.int .u8 a0_0, .int .u8 a0_1, .int .u16 a0_2] 25 (0, 0)) (by (with_reducible repeat (first | refine blk_drewN ?_ _ | refine blk_drew ?_ | refine blk_alloc ?_ _)); exact BK154.out)) : gb155 ≠ gb154)); clear BK154; clear HB; have BK154 := n0_; have HB := n1_; have BK155 := n2_; have GW155 := n3_; have GE155 := n4_; have NB154_155 := n5_; have NB155_154 := n6_; clear n0_ n1_ n2_ n3_ n4_ n5_ n6_; clear hb hbox hg; have hnb4 := NB154_155.out; have hnc4 := NB155_154.out; have hcz5_0 : w3.cell? ⟨gb154, 0, none⟩ = some (.int .u8 a0_0) := (blk_cell BK154.out 0).trans rfl; have hcz5_1 : w3.cell? ⟨gb154, 1, none⟩ = some (.int .u8 a0_1) := (blk_cell BK154.out 1).trans rfl; have hcz5_2 : w3.cell? ⟨gb154, 2, none⟩ = some (.int .u16 a0_2) := (blk_cell BK154.out 2).trans rfl; have hfz5_0 := blk_frozen BK154.out 0; have hfz5_1 := blk_frozen BK154.out 1; have hfz5_2 := blk_frozen BK154.out 2; have hcz6_0 : w3.cell? ⟨gb155, 0, none⟩ = some (.int .u16 0) := (blk_cell BK155.out 0).trans rfl; have hcz6_1 : w3.cell? ⟨gb155, 1, none⟩ = some (.int .u16 0) := (blk_cell BK155.out 1).trans rfl; have hfz6_0 := blk_frozen BK155.out 0; have hfz6_1 := blk_frozen BK155.out 1))
  refine bodyPost_ret (results_cell_row rfl _ _ gb155 36 #[.int .u16 (IntKind.u16.wrap ((Int.tmod (IntKind.u16.wrap (a0_1)) 9) + 65532)), .int .u16 a0_2] (0, 0) _ rfl (by (with_reducible repeat (first | refine blk_drewN ?_ _ | refine blk_drew ?_ | refine blk_alloc ?_ _)); refine blk_put (cs := #[.int .u16 (IntKind.u16.wrap ((Int.tmod (IntKind.u16.wrap (a0_1)) 9) + 65532)), .int .u16 0]) ?_ 1 _ rfl; (with_reducible repeat (first | refine blk_drewN ?_ _ | refine blk_drew ?_ | refine blk_alloc ?_ _)); refine blk_put (cs := #[.int .u16 0, .int .u16 0]) ?_ 0 _ rfl; (with_reducible repeat (first | refine blk_drewN ?_ _ | refine blk_drew ?_ | refine blk_alloc ?_ _)); exact BK155.out) Try.underlying36 rfl (by kernel_rfl)) rfl ?_
  exact ⟨by first | rfl | (simp [errW_none, errW_some] <;> rfl) | (simp [*, errW_none, errW_some] <;> rfl), by repeat (first | (with_reducible first | exact HB.out | apply below_alloc | apply pw_below_drewN | apply below_drew1 | refine below_set ?_ GE154.out | refine below_set ?_ GE155.out) | exact HB.out)⟩

/-! ### source_Source_Len: function 16 -/
def source_Source_Len.f (T : List S71) : Option (Int × List S71) := some ((T.length : Int), T)
set_option maxHeartbeats 8000000 in
set_option maxRecDepth 100000 in
theorem source_Source_Len.calls (g : Nat) (T : List S71) (r1 : Int) (r2 : List S71) (w0 w : World) (hI : IsS64 w0 w g T) (hB : Below w0.heap.size w0 w) (h : source_Source_Len.f T = some (r1, r2)) :
    Calls Try.prog 16 #[.pointer (some ⟨g, 0, none⟩)] w fun e w' => e = .returned (.int .i64 r1) ∧ IsS64 w0 w' g r2 ∧ Below w0.heap.size w0 w' ∧ KeepT w w' := by
  unfold source_Source_Len.f at h
  simp only [Option.some.injEq, Prod.mk.injEq] at h
  obtain ⟨rfl, rfl⟩ := h
  have HI := Aside0.mk hI
  have HB := Aside0.mk hB
  obtain ⟨v, hg, _, hR, _, _⟩ := hI
  obtain ⟨A, c, rfl, _, hC⟩ := Kd.R_reads hR
  have c0 : w.cell? ⟨g, 0, none⟩ = some (.slice A T.length c) := (blk_cell hg 0).trans rfl
  clear hB hC hR hg
  go_enter Try.func16, Try.ntmps16
  go_wp2_with (fail)
  go_ret
  exact ⟨rfl, HI.out, HB.out, KeepT.refl _⟩

/-! ### milestoneref07_First: function 17 -/
def milestoneref07_First.l0 : Nat → Int → Int → Int → Option (Int)
  | 0, _, _, _ => none
  | k + 1, x3, x157000, x157001 => if x3 < 18 then ((milestoneref07_Prefix.f k ((x3) % 256)).bind fun bt157 => (if (bt157.1 == x157000 && (bt157.2 == x157001)) = true then (some x3) else (milestoneref07_First.l0 k (wrap64 (x3 + 1)) x157000 x157001))) else (some (-1))
def milestoneref07_First.f (k : Nat) (a0_0 : Int) (a0_1 : Int) : Option (Int) := milestoneref07_First.l0 k 0 a0_0 a0_1
theorem milestoneref07_First.mono_l : ∀ k, (∀ y0 y1 y2, LeO (milestoneref07_First.l0 k y0 y1 y2) (milestoneref07_First.l0 (k + 1) y0 y1 y2))
  | 0 => fun _ _ _ r h => by simp [milestoneref07_First.l0] at h
  | k + 1 => by
    have ih0 := milestoneref07_First.mono_l k
    · intro y0 y1 y2
      unfold milestoneref07_First.l0
      repeat' first
      | (with_reducible exact ih0 _ _ _)
      | (with_reducible exact milestoneref07_Prefix.mono _ _)
      | (with_reducible exact LeO.refl _)
      | (with_reducible exact LeO.none _)
      | (with_reducible refine LeO.ite ?_ ?_)
      | (with_reducible refine LeO.bind ?_ (fun _ => ?_))
      | exact ih0 _ _ _
      | exact milestoneref07_Prefix.mono _ _
      | exact LeO.none _
      | refine LeO.ite ?_ ?_
      | refine LeO.bind ?_ (fun _ => ?_)
theorem milestoneref07_First.mono : ∀ a0 a1 k, LeO (milestoneref07_First.f k a0 a1) (milestoneref07_First.f (k + 1) a0 a1) := by
  intro a0 a1 k
  have ih0 := milestoneref07_First.mono_l k
  unfold milestoneref07_First.f
  repeat' first
      | (with_reducible exact ih0 _ _ _)
      | (with_reducible exact milestoneref07_Prefix.mono _ _)
      | (with_reducible exact LeO.refl _)
      | (with_reducible exact LeO.none _)
      | (with_reducible refine LeO.ite ?_ ?_)
      | (with_reducible refine LeO.bind ?_ (fun _ => ?_))
      | exact ih0 _ _ _
      | exact milestoneref07_Prefix.mono _ _
      | exact LeO.none _
      | refine LeO.ite ?_ ?_
      | refine LeO.bind ?_ (fun _ => ?_)
set_option maxHeartbeats 8000000 in
set_option maxRecDepth 100000 in
theorem milestoneref07_First.calls (k : Nat) (a0_0 : Int) (a0_1 : Int) (r : Int) (w : World) (h : milestoneref07_First.f k a0_0 a0_1 = some r) :
    Calls Try.prog 17 #[.agg #[.int .u32 a0_0, .int .u8 a0_1]] w fun e w' => e = .returned (.int .i64 r) ∧ Below w.heap.size w w' := by
  have hu31 := Try.underlying31
  have HB := Aside0.mk (Below.refl w.heap.size w)
  have H : (milestoneref07_First.l0 k 0 a0_0 a0_1) = some r := h
  clear h
  have H' := Aside0.mk H
  clear H
  go_enter Try.func17, Try.ntmps17
  go_wp2_with (first | ((with_reducible refine gate_dst (N := 1) rfl ?_); refine box_event ?hg (N := 1) ?hd (cs := #[.int .u32 a0_0, .int .u8 a0_1]) (t := 31) ?hr ?_; (case hd => rfl); (case hg => rfl); (case hr => first | (go_simp; done) | (go_simp; rfl)); intro gb156 hg w2 hbox hb; have n0_ := Aside0.mk (below_step (by repeat (first | (with_reducible first | exact HB.out | apply below_alloc | apply pw_below_drewN | apply below_drew1) | exact HB.out)) hb); have n1_ := Aside0.mk (hbox); have n2_ := Aside0.mk ((by rw [hg]; exact (below_size (by repeat (first | (with_reducible first | exact HB.out | apply below_alloc | apply pw_below_drewN | apply below_drew1) | exact HB.out))) : w.heap.size ≤ gb156)); have n3_ := Aside0.mk ((by rw [hg]; exact (below_size (by repeat (first | (with_reducible first | exact HB.out | apply below_alloc | apply pw_below_drewN | apply below_drew1) | exact HB.out))) : w.heap.size ≤ gb156)); clear HB; have HB := n0_; have BK156 := n1_; have GW156 := n2_; have GE156 := n3_; clear n0_ n1_ n2_ n3_; clear hb hbox hg))
  go_loopg [3] k (fun kq v3 w' => ∃ (x3_1 : Int), v3 = .int .i64 x3_1 ∧ Aside0 (milestoneref07_First.l0 kq x3_1 a0_0 a0_1 = some r) ∧ Aside0 (kq ≤ k) ∧ Aside0 (w'.heap[gb156]? = some (.cells #[.int .u32 a0_0, .int .u8 a0_1] 31 (0, 0))) ∧ Aside0 (Below w.heap.size w w'))
  case atStart => exact ⟨(0), (by first | rfl | (simp; done) | (simp [*]; done) | (refine qa_int ?_; omega) | (refine qa_int ?_; simp <;> omega)), H', ⟨Nat.le_refl _⟩, ⟨by (with_reducible repeat (first | refine blk_drewN ?_ _ | refine blk_drew ?_ | refine blk_alloc ?_ _)); exact BK156.out⟩, ⟨by repeat (first | (with_reducible first | exact HB.out | apply below_alloc | apply pw_below_drewN | apply below_drew1 | refine below_set ?_ GE156.out) | exact HB.out)⟩⟩
  case round =>
    clear H'
    try clear c1
    try clear p2
    obtain ⟨x3_1, rfl, HA, HK1, BK156, HB⟩ := hrel
    cases gk with
    | zero => exact absurd HA.out (by simp [milestoneref07_First.l0])
    | succ k1 =>
      have H := HA.out
      clear HA
      simp only [milestoneref07_First.l0] at H
      by_cases c3 : x3_1 < 18
      · rw [if_pos c3] at H
        have c3b0 : decide (x3_1 < 18) = true := decide_eq_true c3
        clear c3
        replace H := Option.bind_eq_some_iff.mp H
        obtain ⟨⟨t157, t158⟩, A40, H⟩ := H
        replace H : (if (t157 == a0_0 && (t158 == a0_1)) = true then (some x3_1) else (milestoneref07_First.l0 k1 (wrap64 (x3_1 + 1)) a0_0 a0_1)) = some r := H
        have A4 := Aside0.mk A40
        clear A40
        by_cases c5 : (t157 == a0_0 && (t158 == a0_1)) = true
        · rw [if_pos c5] at H
          have c5b0 : (t157 == a0_0 && (t158 == a0_1)) = true := c5
          (try (have c5b1 : decide (t157 = a0_0 && (t158 == a0_1)) = true := by simpa using c5))
          (try (have c5b2 : (t157 == a0_0 && (t158 == a0_1)) = true := by simpa using c5))
          clear c5
          obtain rfl := Option.some.inj H
          simp only [Option.some.injEq, Prod.mk.injEq] at H
          obtain ⟨rfl⟩ := H
          try go_wp2
          have n0_ := Aside0.mk (blk_drew BK156.out)
          have n1_ := Aside0.mk (below_drew1 HB.out)
          clear BK156
          clear HB
          have BK156 := n0_
          have HB := n1_
          clear n0_ n1_
          refine start_ (n := 5) (S := fun w' => w'.cell? ⟨gb156, 0, none⟩ = some (.int .u32 a0_0) ∧ w'.cell? ⟨gb156, 1, none⟩ = some (.int .u8 a0_1)) (ds := []) #[false, false, false, false, false] (by kernel_rfl) rfl rfl ⟨(blk_cell BK156.out 0).trans rfl, (blk_cell BK156.out 1).trans rfl⟩ (fun hHeld => ?_)
          generalize wr.drew = w6 at BK156 HB hHeld ⊢
          refine pure_ (i := 0) (N := some 8) (v := ?_) (a' := ?_) #[true, false, false, false, false] rfl rfl (by kernel_rfl) (fun _ _ _ h => h) (Or.inl ⟨by rfl, ?_⟩) ?_ ?_
          rotate_left
          · intro w'
            go_simp
            with_reducible rfl
          rotate_left
          · simp only [Act.put, List.setIfInBounds_toArray, List.set_cons_zero, List.set_cons_succ, i64_w, i32_w]
            rfl
          refine pure_ (i := 1) (N := some 9) (v := ?_) (a' := ?_) #[true, true, false, false, false] rfl rfl (by kernel_rfl) (fun _ _ _ h => h) (Or.inl ⟨by rfl, ?_⟩) ?_ ?_
          rotate_left
          · intro w'
            go_simp
            with_reducible rfl
          rotate_left
          · simp only [Act.put, List.setIfInBounds_toArray, List.set_cons_zero, List.set_cons_succ, i64_w, i32_w]
            rfl
          refine take_ (i := 3) (N := some 11) (v := ?_) (a' := ?_) #[true, true, false, true, false] rfl rfl (by kernel_rfl) (fun _ _ _ h => h) (Or.inl ⟨by rfl, ?_⟩) hHeld ?_ ?_
          rotate_left
          · rintro w' ⟨s0, s1⟩
            go_simp
            with_reducible rfl
          rotate_left
          · simp only [Act.put, List.setIfInBounds_toArray, List.set_cons_zero, List.set_cons_succ, i64_w, i32_w]
            rfl
          refine one_ (i := 2) (N := some 10) #[true, true, true, true, false] rfl rfl (by kernel_rfl) (by decide) (fun K hK => ?_)
          refine goes_ Try.func8 (by kernel_rfl) rfl #[.int .u8 ((x3_1) % 256)] (by rfl) rfl rfl (by (try simp only [List.map_toArray, List.map_cons, List.map_nil]); first | done | rfl | (simp only [List.length_drop, List.length_take]; rfl)) ?_
          with_reducible refine (milestoneref07_Prefix.calls k1 ((x3_1) % 256) t157 t158 _ A4.out).mono ?_
          rintro e w7 ⟨rfl, hb⟩
          refine ⟨_, rfl, ?_⟩
          have n0_ := Aside0.mk (blk_below (g := gb156) (o := .cells #[.int .u32 a0_0, .int .u8 a0_1] 31 (0, 0)) (by (with_reducible repeat (first | refine blk_drewN ?_ _ | refine blk_drew ?_ | refine blk_alloc ?_ _)); exact BK156.out) hb)
          have n1_ := Aside0.mk (below_step (by repeat (first | (with_reducible first | exact HB.out | apply below_alloc | apply pw_below_drewN | apply below_drew1 | refine below_set ?_ GE156.out) | exact HB.out)) hb)
          clear BK156
          clear HB
          have BK156 := n0_
          have HB := n1_
          clear n0_ n1_
          (try clear hb)
          (try clear hb2)
          (try clear hk)
          (try clear hi)
          refine hK.out _ _ ⟨(blk_cell BK156.out 0).trans rfl, (blk_cell BK156.out 1).trans rfl⟩ (fun hHeld => ?_)
          clear hK K
          refine norm_ (a' := ?_) ?_ ?_
          rotate_left
          · show Act.put _ (some 10) _ = _
            simp only [Act.put, List.setIfInBounds_toArray, List.set_cons_zero, List.set_cons_succ, i64_w, i32_w]
            rfl
          refine pure_ (i := 4) (N := some 12) (v := ?_) (a' := ?_) #[true, true, true, true, true] rfl rfl (by kernel_rfl) (fun _ _ _ h => h) (Or.inl ⟨by rfl, ?_⟩) ?_ ?_
          rotate_left
          · intro w'
            go_simp
            with_reducible rfl
          rotate_left
          · simp only [Act.put, List.setIfInBounds_toArray, List.set_cons_zero, List.set_cons_succ, i64_w, i32_w]
            rfl
          refine done_ (by kernel_rfl) ?_
          try go_wp2
          go_ret
          exact ⟨by first | rfl | (simp [errW_none, errW_some] <;> rfl) | (simp [*, errW_none, errW_some] <;> rfl), by repeat (first | (with_reducible first | exact HB.out | apply below_alloc | apply pw_below_drewN | apply below_drew1 | refine below_set ?_ GE156.out) | exact HB.out)⟩
        · rw [if_neg c5] at H
          have c5b0 : (t157 == a0_0 && (t158 == a0_1)) = false := by simpa using c5
          (try (have c5b1 : decide (t157 = a0_0 && (t158 == a0_1)) = false := by simpa using c5))
          (try (have c5b2 : (t157 == a0_0 && (t158 == a0_1)) = false := by simpa using c5))
          (try (have c5b3 : ¬ (t157 = a0_0 && (t158 == a0_1)) := by simpa using c5))
          clear c5
          have H' := Aside0.mk H
          clear H
          try go_wp2
          have n0_ := Aside0.mk (blk_drew BK156.out)
          have n1_ := Aside0.mk (below_drew1 HB.out)
          clear BK156
          clear HB
          have BK156 := n0_
          have HB := n1_
          clear n0_ n1_
          refine start_ (n := 5) (S := fun w' => w'.cell? ⟨gb156, 0, none⟩ = some (.int .u32 a0_0) ∧ w'.cell? ⟨gb156, 1, none⟩ = some (.int .u8 a0_1)) (ds := []) #[false, false, false, false, false] (by kernel_rfl) rfl rfl ⟨(blk_cell BK156.out 0).trans rfl, (blk_cell BK156.out 1).trans rfl⟩ (fun hHeld => ?_)
          generalize wr.drew = w8 at BK156 HB hHeld ⊢
          refine pure_ (i := 0) (N := some 8) (v := ?_) (a' := ?_) #[true, false, false, false, false] rfl rfl (by kernel_rfl) (fun _ _ _ h => h) (Or.inl ⟨by rfl, ?_⟩) ?_ ?_
          rotate_left
          · intro w'
            go_simp
            with_reducible rfl
          rotate_left
          · simp only [Act.put, List.setIfInBounds_toArray, List.set_cons_zero, List.set_cons_succ, i64_w, i32_w]
            rfl
          refine pure_ (i := 1) (N := some 9) (v := ?_) (a' := ?_) #[true, true, false, false, false] rfl rfl (by kernel_rfl) (fun _ _ _ h => h) (Or.inl ⟨by rfl, ?_⟩) ?_ ?_
          rotate_left
          · intro w'
            go_simp
            with_reducible rfl
          rotate_left
          · simp only [Act.put, List.setIfInBounds_toArray, List.set_cons_zero, List.set_cons_succ, i64_w, i32_w]
            rfl
          refine take_ (i := 3) (N := some 11) (v := ?_) (a' := ?_) #[true, true, false, true, false] rfl rfl (by kernel_rfl) (fun _ _ _ h => h) (Or.inl ⟨by rfl, ?_⟩) hHeld ?_ ?_
          rotate_left
          · rintro w' ⟨s0, s1⟩
            go_simp
            with_reducible rfl
          rotate_left
          · simp only [Act.put, List.setIfInBounds_toArray, List.set_cons_zero, List.set_cons_succ, i64_w, i32_w]
            rfl
          refine one_ (i := 2) (N := some 10) #[true, true, true, true, false] rfl rfl (by kernel_rfl) (by decide) (fun K hK => ?_)
          refine goes_ Try.func8 (by kernel_rfl) rfl #[.int .u8 ((x3_1) % 256)] (by rfl) rfl rfl (by (try simp only [List.map_toArray, List.map_cons, List.map_nil]); first | done | rfl | (simp only [List.length_drop, List.length_take]; rfl)) ?_
          with_reducible refine (milestoneref07_Prefix.calls k1 ((x3_1) % 256) t157 t158 _ A4.out).mono ?_
          rintro e w9 ⟨rfl, hb⟩
          refine ⟨_, rfl, ?_⟩
          have n0_ := Aside0.mk (blk_below (g := gb156) (o := .cells #[.int .u32 a0_0, .int .u8 a0_1] 31 (0, 0)) (by (with_reducible repeat (first | refine blk_drewN ?_ _ | refine blk_drew ?_ | refine blk_alloc ?_ _)); exact BK156.out) hb)
          have n1_ := Aside0.mk (below_step (by repeat (first | (with_reducible first | exact HB.out | apply below_alloc | apply pw_below_drewN | apply below_drew1 | refine below_set ?_ GE156.out) | exact HB.out)) hb)
          clear BK156
          clear HB
          have BK156 := n0_
          have HB := n1_
          clear n0_ n1_
          (try clear hb)
          (try clear hb2)
          (try clear hk)
          (try clear hi)
          refine hK.out _ _ ⟨(blk_cell BK156.out 0).trans rfl, (blk_cell BK156.out 1).trans rfl⟩ (fun hHeld => ?_)
          clear hK K
          refine norm_ (a' := ?_) ?_ ?_
          rotate_left
          · show Act.put _ (some 10) _ = _
            simp only [Act.put, List.setIfInBounds_toArray, List.set_cons_zero, List.set_cons_succ, i64_w, i32_w]
            rfl
          refine pure_ (i := 4) (N := some 12) (v := ?_) (a' := ?_) #[true, true, true, true, true] rfl rfl (by kernel_rfl) (fun _ _ _ h => h) (Or.inl ⟨by rfl, ?_⟩) ?_ ?_
          rotate_left
          · intro w'
            go_simp
            with_reducible rfl
          rotate_left
          · simp only [Act.put, List.setIfInBounds_toArray, List.set_cons_zero, List.set_cons_succ, i64_w, i32_w]
            rfl
          refine done_ (by kernel_rfl) ?_
          try go_wp2
          go_roundg k1
          case measure => have := HK1.out; omega
          case rel => exact ⟨(wrap64 (x3_1 + 1)), (by first | rfl | (simp; done) | (simp [*]; done) | (refine qa_int ?_; omega) | (refine qa_int ?_; simp <;> omega)), H', ⟨by have := HK1.out; omega⟩, ⟨by (with_reducible repeat (first | refine blk_drewN ?_ _ | refine blk_drew ?_ | refine blk_alloc ?_ _)); exact BK156.out⟩, ⟨by repeat (first | (with_reducible first | exact HB.out | apply below_alloc | apply pw_below_drewN | apply below_drew1 | refine below_set ?_ GE156.out) | exact HB.out)⟩⟩
      · rw [if_neg c3] at H
        have c3b0 : decide (x3_1 < 18) = false := decide_eq_false c3
        clear c3
        obtain rfl := Option.some.inj H
        simp only [Option.some.injEq, Prod.mk.injEq] at H
        obtain ⟨rfl⟩ := H
        go_wp2
        go_ret
        exact ⟨by first | rfl | (simp [errW_none, errW_some] <;> rfl) | (simp [*, errW_none, errW_some] <;> rfl), by repeat (first | (with_reducible first | exact HB.out | apply below_alloc | apply pw_below_drewN | apply below_drew1 | refine below_set ?_ GE156.out) | exact HB.out)⟩

/-! ### milestoneref01_Newer: function 30 -/
def milestoneref01_Newer.f (a0 : Int) (a1 : Int) : Option (Bool) := if (Int.tmod (wrap64 ((wrap64 ((wrap64 (a0)) - (wrap64 (a1)))) + 65536)) 65536) ≥ 1 then (some (decide ((Int.tmod (wrap64 ((wrap64 ((wrap64 (a0)) - (wrap64 (a1)))) + 65536)) 65536) ≤ 32767))) else (some false)
set_option maxHeartbeats 8000000 in
set_option maxRecDepth 100000 in
theorem milestoneref01_Newer.calls (a0 : Int) (a1 : Int) (r : Bool) (w : World) (h : milestoneref01_Newer.f a0 a1 = some r) :
    Calls Try.prog 30 #[.int .u16 a0, .int .u16 a1] w fun e w' => e = .returned (.bool r) ∧ Drawn0 w w' := by
  have H : (if (Int.tmod (wrap64 ((wrap64 ((wrap64 (a0)) - (wrap64 (a1)))) + 65536)) 65536) ≥ 1 then (some (decide ((Int.tmod (wrap64 ((wrap64 ((wrap64 (a0)) - (wrap64 (a1)))) + 65536)) 65536) ≤ 32767))) else (some false)) = some r := h
  clear h
  by_cases c3 : (Int.tmod (wrap64 ((wrap64 ((wrap64 (a0)) - (wrap64 (a1)))) + 65536)) 65536) ≥ 1
  · rw [if_pos c3] at H
    have c3b0 : decide (1 ≤ (Int.tmod (wrap64 ((wrap64 ((wrap64 (a0)) - (wrap64 (a1)))) + 65536)) 65536)) = true := decide_eq_true c3
    clear c3
    obtain rfl := Option.some.inj H
    simp only [Option.some.injEq, Prod.mk.injEq] at H
    obtain ⟨rfl⟩ := H
    go_enter Try.func30, Try.ntmps30
    go_wp2
    go_ret
    exact ⟨by first | rfl | (simp; done) | (simp [*]; done) | (refine qa_int ?_; omega) | (refine qa_int ?_; simp <;> omega), by repeat (first | exact Drawn0.refl _ | apply Drawn0.step)⟩
  · rw [if_neg c3] at H
    have c3b0 : decide (1 ≤ (Int.tmod (wrap64 ((wrap64 ((wrap64 (a0)) - (wrap64 (a1)))) + 65536)) 65536)) = false := decide_eq_false c3
    clear c3
    obtain rfl := Option.some.inj H
    simp only [Option.some.injEq, Prod.mk.injEq] at H
    obtain ⟨rfl⟩ := H
    go_enter Try.func30, Try.ntmps30
    go_wp2
    go_ret
    exact ⟨by first | rfl | (simp; done) | (simp [*]; done) | (refine qa_int ?_; omega) | (refine qa_int ?_; simp <;> omega), by repeat (first | exact Drawn0.refl _ | apply Drawn0.step)⟩

/-! ### milestoneref01_Nearer: function 20 -/
def milestoneref01_Nearer.f (a0_0 : Int) (a0_1 : Int) (a1_0 : Int) (a1_1 : Int) : Option (Bool) := if a0_0 = a1_0 then (some (decide (a0_1 < a1_1))) else ((milestoneref01_Newer.f a0_0 a1_0).bind fun t161 => (some t161))
set_option maxHeartbeats 8000000 in
set_option maxRecDepth 100000 in
theorem milestoneref01_Nearer.calls (a0_0 : Int) (a0_1 : Int) (a1_0 : Int) (a1_1 : Int) (r : Bool) (w : World) (h : milestoneref01_Nearer.f a0_0 a0_1 a1_0 a1_1 = some r) :
    Calls Try.prog 20 #[.agg #[.int .u16 a0_0, .int .u16 a0_1], .agg #[.int .u16 a1_0, .int .u16 a1_1]] w fun e w' => e = .returned (.bool r) ∧ Below w.heap.size w w' := by
  have hu36 := Try.underlying36
  have HB := Aside0.mk (Below.refl w.heap.size w)
  have H : (if a0_0 = a1_0 then (some (decide (a0_1 < a1_1))) else ((milestoneref01_Newer.f a0_0 a1_0).bind fun t161 => (some t161))) = some r := h
  clear h
  by_cases c3 : a0_0 = a1_0
  · rw [if_pos c3] at H
    have c3b0 : (a0_0 == a1_0) = true := beq_iff_eq.mpr c3
    have c3b1 : (a0_0 != a1_0) = false := bne_eq_false_iff_eq.mpr c3
    clear c3
    obtain rfl := Option.some.inj H
    simp only [Option.some.injEq, Prod.mk.injEq] at H
    obtain ⟨rfl⟩ := H
    go_enter Try.func20, Try.ntmps20
    go_wp2_with (first | ((with_reducible refine gate_dst (N := 2) rfl ?_); refine box_event ?hg (N := 2) ?hd (cs := #[.int .u16 a0_0, .int .u16 a0_1]) (t := 36) ?hr ?_; (case hd => rfl); (case hg => rfl); (case hr => first | (go_simp; done) | (go_simp; rfl)); intro gb159 hg w4 hbox hb; have n0_ := Aside0.mk (below_step (by repeat (first | (with_reducible first | exact HB.out | apply below_alloc | apply pw_below_drewN | apply below_drew1) | exact HB.out)) hb); have n1_ := Aside0.mk (hbox); have n2_ := Aside0.mk ((by rw [hg]; exact (below_size (by repeat (first | (with_reducible first | exact HB.out | apply below_alloc | apply pw_below_drewN | apply below_drew1) | exact HB.out))) : w.heap.size ≤ gb159)); have n3_ := Aside0.mk ((by rw [hg]; exact (below_size (by repeat (first | (with_reducible first | exact HB.out | apply below_alloc | apply pw_below_drewN | apply below_drew1) | exact HB.out))) : w.heap.size ≤ gb159)); clear HB; have HB := n0_; have BK159 := n1_; have GW159 := n2_; have GE159 := n3_; clear n0_ n1_ n2_ n3_; clear hb hbox hg) | ((with_reducible refine gate_dst (N := 3) rfl ?_); refine box_event ?hg (N := 3) ?hd (cs := #[.int .u16 a1_0, .int .u16 a1_1]) (t := 36) ?hr ?_; (case hd => rfl); (case hg => rfl); (case hr => first | (go_simp; done) | (go_simp; rfl)); intro gb160 hg w5 hbox hb; have n0_ := Aside0.mk (blk_below (g := gb159) (o := .cells #[.int .u16 a0_0, .int .u16 a0_1] 36 (0, 0)) (by (with_reducible repeat (first | refine blk_drewN ?_ _ | refine blk_drew ?_ | refine blk_alloc ?_ _)); exact BK159.out) hb); have n1_ := Aside0.mk (below_step (by repeat (first | (with_reducible first | exact HB.out | apply below_alloc | apply pw_below_drewN | apply below_drew1 | refine below_set ?_ GE159.out) | exact HB.out)) hb); have n2_ := Aside0.mk (hbox); have n3_ := Aside0.mk ((by rw [hg]; exact (below_size (by repeat (first | (with_reducible first | exact HB.out | apply below_alloc | apply pw_below_drewN | apply below_drew1 | refine below_set ?_ GE159.out) | exact HB.out))) : w.heap.size ≤ gb160)); have n4_ := Aside0.mk ((by rw [hg]; exact (below_size (by repeat (first | (with_reducible first | exact HB.out | apply below_alloc | apply pw_below_drewN | apply below_drew1 | refine below_set ?_ GE159.out) | exact HB.out))) : w.heap.size ≤ gb160)); have n5_ := Aside0.mk ((by rw [hg]; exact Nat.ne_of_lt (blk_lt (g := gb159) (o := .cells #[.int .u16 a0_0, .int .u16 a0_1] 36 (0, 0)) (by (with_reducible repeat (first | refine blk_drewN ?_ _ | refine blk_drew ?_ | refine blk_alloc ?_ _)); exact BK159.out)) : gb159 ≠ gb160)); have n6_ := Aside0.mk ((by rw [hg]; exact Nat.ne_of_gt (blk_lt (g := gb159) (o := .cells #[.int .u16 a0_0, .int .u16 a0_1] 36 (0, 0)) (by (with_reducible repeat (first | refine blk_drewN ?_ _ | refine blk_drew ?_ | refine blk_alloc ?_ _)); exact BK159.out)) : gb160 ≠ gb159)); clear BK159; clear HB; have BK159 := n0_; have HB := n1_; have BK160 := n2_; have GW160 := n3_; have GE160 := n4_; have NB159_160 := n5_; have NB160_159 := n6_; clear n0_ n1_ n2_ n3_ n4_ n5_ n6_; clear hb hbox hg; have hnb6 := NB159_160.out; have hnc6 := NB160_159.out; have hcz7_0 : w5.cell? ⟨gb159, 0, none⟩ = some (.int .u16 a0_0) := (blk_cell BK159.out 0).trans rfl; have hcz7_1 : w5.cell? ⟨gb159, 1, none⟩ = some (.int .u16 a0_1) := (blk_cell BK159.out 1).trans rfl; have hfz7_0 := blk_frozen BK159.out 0; have hfz7_1 := blk_frozen BK159.out 1; have hcz8_0 : w5.cell? ⟨gb160, 0, none⟩ = some (.int .u16 a1_0) := (blk_cell BK160.out 0).trans rfl; have hcz8_1 : w5.cell? ⟨gb160, 1, none⟩ = some (.int .u16 a1_1) := (blk_cell BK160.out 1).trans rfl; have hfz8_0 := blk_frozen BK160.out 0; have hfz8_1 := blk_frozen BK160.out 1))
    go_ret
    exact ⟨by first | rfl | (simp [errW_none, errW_some] <;> rfl) | (simp [*, errW_none, errW_some] <;> rfl), by repeat (first | (with_reducible first | exact HB.out | apply below_alloc | apply pw_below_drewN | apply below_drew1 | refine below_set ?_ GE159.out | refine below_set ?_ GE160.out) | exact HB.out)⟩
  · rw [if_neg c3] at H
    have c3b0 : (a0_0 == a1_0) = false := beq_eq_false_iff_ne.mpr c3
    have c3b1 : (a0_0 != a1_0) = true := bne_iff_ne.mpr c3
    replace H := Option.bind_eq_some_iff.mp H
    obtain ⟨t161, A90, H⟩ := H
    replace H : (some t161) = some r := H
    have A9 := Aside0.mk A90
    clear A90
    obtain rfl := Option.some.inj H
    simp only [Option.some.injEq, Prod.mk.injEq] at H
    obtain ⟨rfl⟩ := H
    go_enter Try.func20, Try.ntmps20
    go_wp2_with (first | ((with_reducible refine gate_dst (N := 2) rfl ?_); refine box_event ?hg (N := 2) ?hd (cs := #[.int .u16 a0_0, .int .u16 a0_1]) (t := 36) ?hr ?_; (case hd => rfl); (case hg => rfl); (case hr => first | (go_simp; done) | (go_simp; rfl)); intro gb159 hg w10 hbox hb; have n0_ := Aside0.mk (below_step (by repeat (first | (with_reducible first | exact HB.out | apply below_alloc | apply pw_below_drewN | apply below_drew1) | exact HB.out)) hb); have n1_ := Aside0.mk (hbox); have n2_ := Aside0.mk ((by rw [hg]; exact (below_size (by repeat (first | (with_reducible first | exact HB.out | apply below_alloc | apply pw_below_drewN | apply below_drew1) | exact HB.out))) : w.heap.size ≤ gb159)); have n3_ := Aside0.mk ((by rw [hg]; exact (below_size (by repeat (first | (with_reducible first | exact HB.out | apply below_alloc | apply pw_below_drewN | apply below_drew1) | exact HB.out))) : w.heap.size ≤ gb159)); clear HB; have HB := n0_; have BK159 := n1_; have GW159 := n2_; have GE159 := n3_; clear n0_ n1_ n2_ n3_; clear hb hbox hg) | ((with_reducible refine gate_dst (N := 3) rfl ?_); refine box_event ?hg (N := 3) ?hd (cs := #[.int .u16 a1_0, .int .u16 a1_1]) (t := 36) ?hr ?_; (case hd => rfl); (case hg => rfl); (case hr => first | (go_simp; done) | (go_simp; rfl)); intro gb160 hg w11 hbox hb; have n0_ := Aside0.mk (blk_below (g := gb159) (o := .cells #[.int .u16 a0_0, .int .u16 a0_1] 36 (0, 0)) (by (with_reducible repeat (first | refine blk_drewN ?_ _ | refine blk_drew ?_ | refine blk_alloc ?_ _)); exact BK159.out) hb); have n1_ := Aside0.mk (below_step (by repeat (first | (with_reducible first | exact HB.out | apply below_alloc | apply pw_below_drewN | apply below_drew1 | refine below_set ?_ GE159.out) | exact HB.out)) hb); have n2_ := Aside0.mk (hbox); have n3_ := Aside0.mk ((by rw [hg]; exact (below_size (by repeat (first | (with_reducible first | exact HB.out | apply below_alloc | apply pw_below_drewN | apply below_drew1 | refine below_set ?_ GE159.out) | exact HB.out))) : w.heap.size ≤ gb160)); have n4_ := Aside0.mk ((by rw [hg]; exact (below_size (by repeat (first | (with_reducible first | exact HB.out | apply below_alloc | apply pw_below_drewN | apply below_drew1 | refine below_set ?_ GE159.out) | exact HB.out))) : w.heap.size ≤ gb160)); have n5_ := Aside0.mk ((by rw [hg]; exact Nat.ne_of_lt (blk_lt (g := gb159) (o := .cells #[.int .u16 a0_0, .int .u16 a0_1] 36 (0, 0)) (by (with_reducible repeat (first | refine blk_drewN ?_ _ | refine blk_drew ?_ | refine blk_alloc ?_ _)); exact BK159.out)) : gb159 ≠ gb160)); have n6_ := Aside0.mk ((by rw [hg]; exact Nat.ne_of_gt (blk_lt (g := gb159) (o := .cells #[.int .u16 a0_0, .int .u16 a0_1] 36 (0, 0)) (by (with_reducible repeat (first | refine blk_drewN ?_ _ | refine blk_drew ?_ | refine blk_alloc ?_ _)); exact BK159.out)) : gb160 ≠ gb159)); clear BK159; clear HB; have BK159 := n0_; have HB := n1_; have BK160 := n2_; have GW160 := n3_; have GE160 := n4_; have NB159_160 := n5_; have NB160_159 := n6_; clear n0_ n1_ n2_ n3_ n4_ n5_ n6_; clear hb hbox hg; have hnb12 := NB159_160.out; have hnc12 := NB160_159.out; have hcz13_0 : w11.cell? ⟨gb159, 0, none⟩ = some (.int .u16 a0_0) := (blk_cell BK159.out 0).trans rfl; have hcz13_1 : w11.cell? ⟨gb159, 1, none⟩ = some (.int .u16 a0_1) := (blk_cell BK159.out 1).trans rfl; have hfz13_0 := blk_frozen BK159.out 0; have hfz13_1 := blk_frozen BK159.out 1; have hcz14_0 : w11.cell? ⟨gb160, 0, none⟩ = some (.int .u16 a1_0) := (blk_cell BK160.out 0).trans rfl; have hcz14_1 : w11.cell? ⟨gb160, 1, none⟩ = some (.int .u16 a1_1) := (blk_cell BK160.out 1).trans rfl; have hfz14_0 := blk_frozen BK160.out 0; have hfz14_1 := blk_frozen BK160.out 1) | ((with_reducible refine gate_callee (f := 30) rfl ?_); refine goesL_ (some 19) rfl rfl Try.func30 (by kernel_rfl) rfl #[.int .u16 a0_0, .int .u16 a1_0] rfl (by (try simp only [List.map_toArray, List.map_cons, List.map_nil]); first | done | rfl | (simp only [List.length_drop, List.length_take]; rfl) | (simp; done) | (refine qa_arr ?_; (repeat' (first | rfl | refine qa_cons ?_ ?_ | refine qa_int ?_ | refine qa_agg ?_ | refine qa_arr ?_ | omega)); done)) ?_; (with_reducible refine (milestoneref01_Newer.calls a0_0 a1_0 t161 _ A9.out).mono ?_); rintro e w' ⟨rfl, ⟨nd, rfl⟩⟩; refine ⟨_, rfl, ?_⟩) | ((with_reducible refine gate_callee (f := 30) rfl ?_); refine goesL_ _ rfl rfl Try.func30 (by kernel_rfl) rfl #[.int .u16 a0_0, .int .u16 a1_0] rfl (by (try simp only [List.map_toArray, List.map_cons, List.map_nil]); first | done | rfl | (simp only [List.length_drop, List.length_take]; rfl) | (simp; done) | (refine qa_arr ?_; (repeat' (first | rfl | refine qa_cons ?_ ?_ | refine qa_int ?_ | refine qa_agg ?_ | refine qa_arr ?_ | omega)); done)) ?_; (with_reducible refine (milestoneref01_Newer.calls a0_0 a1_0 t161 _ A9.out).mono ?_); rintro e w' ⟨rfl, ⟨nd, rfl⟩⟩; refine ⟨_, rfl, ?_⟩))
    go_ret
    exact ⟨by first | rfl | (simp [errW_none, errW_some] <;> rfl) | (simp [*, errW_none, errW_some] <;> rfl), by repeat (first | (with_reducible first | exact HB.out | apply below_alloc | apply pw_below_drewN | apply below_drew1 | refine below_set ?_ GE159.out | refine below_set ?_ GE160.out) | exact HB.out)⟩

end Go.Proofs.Ytkngncckidlniaa.QSourcePlays
