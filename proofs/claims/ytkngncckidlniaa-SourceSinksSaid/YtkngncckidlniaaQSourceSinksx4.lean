-- Lines by a program of this session, for this claim.
import Derived.Test.YtkngncckidlniaaQSourceSinksx0
import Derived.Test.YtkngncckidlniaaQSourceSinksx1
import Derived.Test.YtkngncckidlniaaQSourceSinksx2
import Derived.Test.YtkngncckidlniaaQSourceSinksx3
namespace Go.Proofs.Ytkngncckidlniaa.QSourceSinks
open Go.RowKit Go.Proofs.YtkngncckidlniaaW.PrintWords Go.Proofs.YtkngncckidlniaaW.PrintLast Go.Proofs.YtkngncckidlniaaW.PrintMore
attribute [local go_sem] max2_int min2_int max_two min_two max_three min_three max_four min_four   -- for this text's walks alone
set_option linter.unusedVariables false
set_option linter.unusedSimpArgs false

/-! ### source_Source_Mark: function 15 -/
set_option maxHeartbeats 4000000 in
set_option maxRecDepth 100000 in
theorem source_Source_Mark.calls (k : Nat) (g : Nat) (A : Option Addr) (c : Nat) (l : List S71) (pa pn : Int) (i : Nat) (cv : Nat → Int) (m0 m1 : Int) (b : Bool) (w : World) (hg : w.heap[g]? = some (.cells #[.slice A l.length c] 64 (0, 0))) (hC : Kd.C k71 w A l.length l) (hlen : l.length ≤ 1000) (hi : i ≤ l.length)
    (hcmp : ∀ j : Nat, j < l.length → prefix_Compare.f k (rd_T71 l (j : Int)).f0.f0 (rd_T71 l (j : Int)).f0.f1 pa pn = some (cv j) ∧ (cv j < 0 ↔ j < i))
    (hres : (i < l.length ∧ cv i = 0 ∧ m0 = (rd_T71 l (i : Int)).f1.f0 ∧ m1 = (rd_T71 l (i : Int)).f1.f1 ∧ b = true) ∨ (¬ (i < l.length ∧ cv i = 0) ∧ m0 = 0 ∧ m1 = 0 ∧ b = false)) :
    Calls Try.prog 15 #[.pointer (some ⟨g, 0, none⟩), .agg #[.int .u32 pa, .int .u8 pn]] w fun e w' => e = .returned (.tuple #[.agg #[.int .u16 m0, .int .u16 m1], .bool b]) ∧ Below w.heap.size w w' := by
  have hu31 := Try.underlying31
  have hu36 := Try.underlying36
  have HC := Aside0.mk hC
  have HM := Aside0.mk hcmp
  have BKs := Aside0.mk hg
  clear hC hcmp hg
  go_enter Try.func15, Try.ntmps15
  go_wp2_with (first | ((with_reducible refine gate_dst (N := 3) rfl ?_); (try (refine gate_guard (by rfl) ?_; dsimp only)); refine box_event ?hg (N := 3) ?hd (cs := #[.int .u32 pa, .int .u8 pn]) (t := 31) ?hr ?_; (case hd => rfl); (case hg => rfl); (case hr => first | (go_simp; done) | (go_simp; rfl)); intro g3 hg w3 hbox hb; have BK3 := Aside0.mk hbox; have HB3 := Aside0.mk hb; have BKg := Aside0.mk (blk_below BKs.out hb); clear hb hbox hg BKs) | ((with_reducible refine gate_dst (N := 4) rfl ?_); (try (refine gate_guard (by rfl) ?_; dsimp only)); refine box_event ?hg (N := 4) ?hd (cs := #[.int .u16 0, .int .u16 0]) (t := 36) ?hr ?_; (case hd => rfl); (case hg => rfl); (case hr => first | (go_simp; done) | (go_simp; rfl)); intro g4 hg w4 hbox hb; have BK4 := Aside0.mk hbox; have HB4 := Aside0.mk (below_step HB3.out hb); have BK3b := Aside0.mk (blk_below BK3.out hb); have BKg4 := Aside0.mk (blk_below BKg.out hb); have GE4 := Aside0.mk (show w.heap.size ≤ g4 from by rw [hg]; exact HB3.out.size); clear hb hbox hg BK3 BKg HB3; have hp0 : w4.cell? ⟨g3, 0, none⟩ = some (.int .u32 pa) := (blk_cell BK3b.out 0).trans rfl; have hp1 : w4.cell? ⟨g3, 1, none⟩ = some (.int .u8 pn) := (blk_cell BK3b.out 1).trans rfl))
  refine (source_Source_find.calls k g A c l pa pn i cv _ BKg4.out (Kd.C_below HC.out HB4.out) hlen hi HM.out).mono ?_
  rintro e w5 ⟨rfl, hb⟩
  have BK5 := Aside0.mk (blk_below BK4.out hb)
  have BKg5 := Aside0.mk (blk_below BKg4.out hb)
  have HB5 := Aside0.mk (below_step HB4.out hb)
  clear hb hp0 hp1 BK4 BKg4 HB4
  have h40 : w5.cell? ⟨g4, 0, none⟩ = some (.int .u16 0) := (blk_cell BK5.out 0).trans rfl
  have h41 : w5.cell? ⟨g4, 1, none⟩ = some (.int .u16 0) := (blk_cell BK5.out 1).trans rfl
  have y40 := blk_frozen BK5.out 0
  have y41 := blk_frozen BK5.out 1
  have hg0 : w5.cell? ⟨g, 0, none⟩ = some (.slice A l.length c) := (blk_cell BKg5.out 0).trans rfl
  rcases hres with ⟨hlt, h0, rfl, rfl, rfl⟩ | ⟨hn, rfl, rfl, rfl⟩
  · have q1 : decide (i < l.length) = true := decide_eq_true hlt
    have q2 : (cv i == 0) = true := beq_iff_eq.mpr h0
    obtain ⟨ad, e0, hx0, hx1, hx2, hx3⟩ := at_T71 (Kd.C_below HC.out HB5.out) (i : Int) (by omega) (by omega)
    cases e0
    simp only [Int.toNat_natCast] at hx0 hx1 hx2 hx3
    have p1 : decide (0 ≤ (i : Int)) = true := decide_eq_true (by omega)
    have p2 : decide ((i : Int) < (l.length : Int)) = true := decide_eq_true (by omega)
    go_wp2_with (fail)
    refine bodyPost_ret (results_ct rfl _ _ g4 36 #[.int .u16 ((rd_T71 l (i : Int)).f1.f0), .int .u16 ((rd_T71 l (i : Int)).f1.f1)] (0, 0) _ rfl (by refine blk_put (cs := #[.int .u16 ((rd_T71 l (i : Int)).f1.f0), .int .u16 0]) ?_ 1 _ rfl; refine blk_put (cs := #[.int .u16 0, .int .u16 0]) ?_ 0 _ rfl; exact BK5.out) Try.underlying36 rfl (by kernel_rfl)) rfl ?_
    exact ⟨rfl, below_set (below_set HB5.out GE4.out) GE4.out⟩
  · have q1 : (decide (i < l.length) && (cv i == 0)) = false := by
      rw [Bool.and_eq_false_iff, decide_eq_false_iff_not, beq_eq_false_iff_ne]
      by_cases h : i < l.length
      · exact .inr fun h0 => hn ⟨h, h0⟩
      · exact .inl h
    go_wp2_with (fail)
    refine bodyPost_ret (results_ct rfl _ _ g4 36 #[.int .u16 0, .int .u16 0] (0, 0) _ rfl (by refine blk_put (cs := #[.int .u16 0, .int .u16 0]) ?_ 1 _ rfl; refine blk_put (cs := #[.int .u16 0, .int .u16 0]) ?_ 0 _ rfl; exact BK5.out) Try.underlying36 rfl (by kernel_rfl)) rfl ?_
    exact ⟨rfl, below_set (below_set HB5.out GE4.out) GE4.out⟩

/-! ### source_Source_Feasible: function 11 -/
set_option maxHeartbeats 4000000 in
set_option maxRecDepth 100000 in
theorem source_Source_Feasible.calls (k : Nat) (g : Nat) (A : Option Addr) (c : Nat) (l : List S71) (pa pn : Int) (i : Nat) (cv : Nat → Int) (m0 m1 ms mm : Int) (b rn : Bool) (w : World) (hg : w.heap[g]? = some (.cells #[.slice A l.length c] 64 (0, 0))) (hC : Kd.C k71 w A l.length l) (hlen : l.length ≤ 1000) (hi : i ≤ l.length)
    (hcmp : ∀ j : Nat, j < l.length → prefix_Compare.f k (rd_T71 l (j : Int)).f0.f0 (rd_T71 l (j : Int)).f0.f1 pa pn = some (cv j) ∧ (cv j < 0 ↔ j < i))
    (hres : (i < l.length ∧ cv i = 0 ∧ m0 = (rd_T71 l (i : Int)).f1.f0 ∧ m1 = (rd_T71 l (i : Int)).f1.f1 ∧ b = true) ∨ (¬ (i < l.length ∧ cv i = 0) ∧ m0 = 0 ∧ m1 = 0 ∧ b = false)) (hnr : serial_Nearer.f ms mm m0 m1 = some rn) :
    Calls Try.prog 11 #[.pointer (some ⟨g, 0, none⟩), .agg #[.int .u32 pa, .int .u8 pn], .agg #[.int .u16 ms, .int .u16 mm]] w fun e w' => e = .returned (.bool ((mm == 65535) || (!b || rn))) ∧ Below w.heap.size w w' := by
  have hu31 := Try.underlying31
  have hu36 := Try.underlying36
  have HC := Aside0.mk hC
  have HM := Aside0.mk hcmp
  have HRS := Aside0.mk hres
  have HN := Aside0.mk hnr
  have BKs := Aside0.mk hg
  clear hC hcmp hg hres hnr
  go_enter Try.func11, Try.ntmps11
  go_wp2_with (first | ((with_reducible refine gate_dst (N := 4) rfl ?_); (try (refine gate_guard (by rfl) ?_; dsimp only)); refine box_event ?hg (N := 4) ?hd (cs := #[.int .u32 pa, .int .u8 pn]) (t := 31) ?hr ?_; (case hd => rfl); (case hg => rfl); (case hr => first | (go_simp; done) | (go_simp; rfl)); intro g4 hg w4 hbox hb; have BK4 := Aside0.mk hbox; have HB4 := Aside0.mk hb; have BKg := Aside0.mk (blk_below BKs.out hb); clear hb hbox hg BKs) | ((with_reducible refine gate_dst (N := 5) rfl ?_); (try (refine gate_guard (by rfl) ?_; dsimp only)); refine box_event ?hg (N := 5) ?hd (cs := #[.int .u16 ms, .int .u16 mm]) (t := 36) ?hr ?_; (case hd => rfl); (case hg => rfl); (case hr => first | (go_simp; done) | (go_simp; rfl)); intro g5 hg w5 hbox hb; have BK5 := Aside0.mk hbox; have HB5 := Aside0.mk (below_step HB4.out hb); have BK4b := Aside0.mk (blk_below BK4.out hb); have BKg5 := Aside0.mk (blk_below BKg.out hb); clear hb hbox hg BK4 BKg HB4; have hp0 : w5.cell? ⟨g4, 0, none⟩ = some (.int .u32 pa) := (blk_cell BK4b.out 0).trans rfl; have hp1 : w5.cell? ⟨g4, 1, none⟩ = some (.int .u8 pn) := (blk_cell BK4b.out 1).trans rfl))
  refine (source_Source_Mark.calls k g A c l pa pn i cv m0 m1 b _ BKg5.out (Kd.C_below HC.out HB5.out) hlen hi HM.out HRS.out).mono ?_
  rintro e w6 ⟨rfl, hb⟩
  have BK56 := Aside0.mk (blk_below BK5.out hb)
  have HB6 := Aside0.mk (below_step HB5.out hb)
  clear hb hp0 hp1 BK5 BKg5 HB5
  go_upto_region 2 with (first | ((with_reducible refine gate_dst (N := 7) rfl ?_); (try (refine gate_guard (by rfl) ?_; dsimp only)); refine box_event ?hg (N := 7) ?hd (cs := #[.int .u16 0, .int .u16 0]) (t := 36) ?hr ?_; (case hd => rfl); (case hg => rfl); (case hr => first | (go_simp; done) | (go_simp; rfl)); intro g7 hg w7 hbox hb; have BK7 := Aside0.mk hbox; have HB7 := Aside0.mk (below_step HB6.out hb); have BK57 := Aside0.mk (blk_below BK56.out hb); have GE7 := Aside0.mk (show w6.heap.size ≤ g7 from by rw [hg]; exact Nat.le_refl _); have HB67 := Aside0.mk hb; clear hb hbox hg; have z0 : w7.cell? ⟨g7, 0, none⟩ = some (.int .u16 0) := (blk_cell BK7.out 0).trans rfl; have z1 : w7.cell? ⟨g7, 1, none⟩ = some (.int .u16 0) := (blk_cell BK7.out 1).trans rfl; have y0 := blk_frozen BK7.out 0; have y1 := blk_frozen BK7.out 1))
  obtain ⟨W, hW⟩ : ∃ W : World, W = ((w7.setCell ⟨g7, 0, none⟩ (.int .u16 m0)).setCell ⟨g7, 1, none⟩ (.int .u16 m1)) := ⟨_, rfl⟩
  rw [← hW]
  have HBW := Aside0.mk (show Below w6.heap.size w6 W from by rw [hW]; exact below_set (below_set HB67.out GE7.out) GE7.out)
  have BKW := Aside0.mk (show W.heap[g7]? = some (.cells #[.int .u16 m0, .int .u16 m1] 36 (0, 0)) from by rw [hW]; refine blk_put (cs := #[.int .u16 m0, .int .u16 0]) ?_ 1 _ rfl; refine blk_put (cs := #[.int .u16 0, .int .u16 0]) ?_ 0 _ rfl; exact BK7.out)
  have BK5W := Aside0.mk (blk_below BK56.out HBW.out)
  have HBF := Aside0.mk (below_step HB6.out HBW.out)
  clear hW z0 z1 y0 y1 BK7 BK57 HB7 HB67
  have c0 : W.cell? ⟨g5, 0, none⟩ = some (.int .u16 ms) := (blk_cell BK5W.out 0).trans rfl
  have c1 : W.cell? ⟨g5, 1, none⟩ = some (.int .u16 mm) := (blk_cell BK5W.out 1).trans rfl
  have d0 : W.cell? ⟨g7, 0, none⟩ = some (.int .u16 m0) := (blk_cell BKW.out 0).trans rfl
  have d1 : W.cell? ⟨g7, 1, none⟩ = some (.int .u16 m1) := (blk_cell BKW.out 1).trans rfl
  by_cases hm : mm = 65535
  · have q1 : (mm == 65535) = true := beq_iff_eq.mpr hm
    go_wp2_with (fail)
    go_ret
    exact ⟨by simp [q1], HBF.out⟩
  · have q1 : (mm == 65535) = false := beq_eq_false_iff_ne.mpr hm
    cases b
    · go_wp2_with (fail)
      go_ret
      exact ⟨by simp [q1], HBF.out⟩
    · go_wp2_with (fail)
      refine (serial_Nearer.calls ms mm m0 m1 rn _ HN.out).mono ?_
      rintro e w8 ⟨rfl, hb⟩
      have HB8 := Aside0.mk (below_step HBF.out hb)
      clear hb
      go_wp2_with (fail)
      go_ret
      exact ⟨by simp [q1], HB8.out⟩

/-! ### milestonelaw15_awake: function 6 -/
def milestoneref01_Bit.l0 : Nat → Int → Int → Option (Bool)
  | 0, _, _ => none
  | k + 1, x0, x1 => if x1 < 31 then (milestoneref01_Bit.l0 k ((Int.tdiv x0 2) % 4294967296) (wrap64 (x1 + 1))) else (some ((Int.tmod x0 2) == 1))
def milestoneref01_Bit.f (k : Nat) (a0 : Int) (a1 : Int) : Option (Bool) := milestoneref01_Bit.l0 k a0 a1
theorem milestoneref01_Bit.mono_l : ∀ k, (∀ y0 y1, LeO (milestoneref01_Bit.l0 k y0 y1) (milestoneref01_Bit.l0 (k + 1) y0 y1))
  | 0 => fun _ _ r h => by simp [milestoneref01_Bit.l0] at h
  | k + 1 => by
    have ih0 := milestoneref01_Bit.mono_l k
    · intro y0 y1
      unfold milestoneref01_Bit.l0
      repeat' first
      | (with_reducible exact ih0 _ _)
      | (with_reducible exact LeO.refl _)
      | (with_reducible exact LeO.none _)
      | (with_reducible refine LeO.ite ?_ ?_)
      | (with_reducible refine LeO.bind ?_ (fun _ => ?_))
      | exact ih0 _ _
      | exact LeO.none _
      | refine LeO.ite ?_ ?_
      | refine LeO.bind ?_ (fun _ => ?_)
theorem milestoneref01_Bit.mono : ∀ a0 a1 k, LeO (milestoneref01_Bit.f k a0 a1) (milestoneref01_Bit.f (k + 1) a0 a1) := by
  intro a0 a1 k
  have ih0 := milestoneref01_Bit.mono_l k
  unfold milestoneref01_Bit.f
  repeat' first
      | (with_reducible exact ih0 _ _)
      | (with_reducible exact LeO.refl _)
      | (with_reducible exact LeO.none _)
      | (with_reducible refine LeO.ite ?_ ?_)
      | (with_reducible refine LeO.bind ?_ (fun _ => ?_))
      | exact ih0 _ _
      | exact LeO.none _
      | refine LeO.ite ?_ ?_
      | refine LeO.bind ?_ (fun _ => ?_)
set_option maxHeartbeats 8000000 in
set_option maxRecDepth 100000 in
theorem milestoneref01_Bit.calls (k : Nat) (a0 : Int) (a1 : Int) (r : Bool) (w : World) (h : milestoneref01_Bit.f k a0 a1 = some r) :
    Calls Try.prog 31 #[.int .u32 a0, .int .i64 a1] w fun e w' => e = .returned (.bool r) ∧ Drawn0 w w' := by
  have H : (milestoneref01_Bit.l0 k a0 a1) = some r := h
  clear h
  have H' := Aside0.mk H
  clear H
  go_enter Try.func31, Try.ntmps31
  go_wp2
  go_loopg [0, 1] k (fun kq v0 v1 w' => ∃ (x0_1 : Int) (x1_1 : Int), v0 = .int .u32 x0_1 ∧ v1 = .int .i64 x1_1 ∧ Aside0 (milestoneref01_Bit.l0 kq x0_1 x1_1 = some r) ∧ Aside0 (kq ≤ k) ∧ Drawn0 w w')
  case atStart => exact ⟨(a0), (a1), (by first | rfl | (simp; done) | (simp [*]; done) | (refine qa_int ?_; omega) | (refine qa_int ?_; simp <;> omega)), (by first | rfl | (simp; done) | (simp [*]; done) | (refine qa_int ?_; omega) | (refine qa_int ?_; simp <;> omega)), H', ⟨Nat.le_refl _⟩, by repeat (first | exact Drawn0.refl _ | apply Drawn0.step)⟩
  case round =>
    clear H'
    try clear p2
    obtain ⟨x0_1, x1_1, rfl, rfl, HA, HK1, ⟨m1, rfl⟩⟩ := hrel
    cases gk with
    | zero => exact absurd HA.out (by simp [milestoneref01_Bit.l0])
    | succ k1 =>
      have H := HA.out
      clear HA
      simp only [milestoneref01_Bit.l0] at H
      by_cases c3 : x1_1 < 31
      · rw [if_pos c3] at H
        have c3b0 : decide (x1_1 < 31) = true := decide_eq_true c3
        clear c3
        have H' := Aside0.mk H
        clear H
        go_wp2
        go_roundg k1
        case measure => have := HK1.out; omega
        case rel => exact ⟨((Int.tdiv x0_1 2) % 4294967296), (wrap64 (x1_1 + 1)), (by first | rfl | (simp; done) | (simp [*]; done) | (refine qa_int ?_; omega) | (refine qa_int ?_; simp <;> omega)), (by first | rfl | (simp; done) | (simp [*]; done) | (refine qa_int ?_; omega) | (refine qa_int ?_; simp <;> omega)), H', ⟨by have := HK1.out; omega⟩, by repeat (first | exact Drawn0.refl _ | apply Drawn0.step)⟩
      · rw [if_neg c3] at H
        have c3b0 : decide (x1_1 < 31) = false := decide_eq_false c3
        clear c3
        obtain rfl := Option.some.inj H
        simp only [Option.some.injEq, Prod.mk.injEq] at H
        obtain ⟨rfl⟩ := H
        go_wp2
        go_ret
        exact ⟨by first | rfl | (simp; done) | (simp [*]; done) | (refine qa_int ?_; omega) | (refine qa_int ?_; simp <;> omega), by repeat (first | exact Drawn0.refl _ | apply Drawn0.step)⟩

/-! ### milestoneref01_Of: function 21 -/
mutual
def milestoneref01_Of.j0 : Nat → Int → Int → Option (Int × Int)
  | 0, _, _ => none
  | k + 1, x0, x1 => milestoneref01_Of.l0 k x0 x1 0 0
def milestoneref01_Of.l0 : Nat → Int → Int → Int → Int → Option (Int × Int)
  | 0, _, _, _, _ => none
  | k + 1, x0, x1, x5, x6 => if x6 < 32 then (if x6 < (wrap64 (x1)) then ((milestoneref01_Bit.f k x0 x6).bind fun t147 => (if t147 = true then (milestoneref01_Of.l0 k x0 x1 (((x5 * 2) + 1) % 4294967296) (wrap64 (x6 + 1))) else (milestoneref01_Of.l0 k x0 x1 ((x5 * 2) % 4294967296) (wrap64 (x6 + 1))))) else (milestoneref01_Of.l0 k x0 x1 ((x5 * 2) % 4294967296) (wrap64 (x6 + 1)))) else (some (x5, x1))
end
def milestoneref01_Of.f (k : Nat) (a0 : Int) (a1 : Int) : Option (Int × Int) := if a1 > 32 then (milestoneref01_Of.j0 k a0 32) else (milestoneref01_Of.j0 k a0 a1)
theorem milestoneref01_Of.mono_l : ∀ k, (∀ y0 y1, LeO (milestoneref01_Of.j0 k y0 y1) (milestoneref01_Of.j0 (k + 1) y0 y1)) ∧ (∀ y0 y1 y2 y3, LeO (milestoneref01_Of.l0 k y0 y1 y2 y3) (milestoneref01_Of.l0 (k + 1) y0 y1 y2 y3))
  | 0 => ⟨fun _ _ r h => by simp [milestoneref01_Of.j0] at h, fun _ _ _ _ r h => by simp [milestoneref01_Of.l0] at h⟩
  | k + 1 => by
    obtain ⟨ih0, ih1⟩ := milestoneref01_Of.mono_l k
    refine ⟨?_, ?_⟩
    · intro y0 y1
      unfold milestoneref01_Of.j0
      repeat' first
      | (with_reducible exact ih0 _ _)
      | (with_reducible exact ih1 _ _ _ _)
      | (with_reducible exact milestoneref01_Bit.mono _ _ _)
      | (with_reducible exact LeO.refl _)
      | (with_reducible exact LeO.none _)
      | (with_reducible refine LeO.ite ?_ ?_)
      | (with_reducible refine LeO.bind ?_ (fun _ => ?_))
      | exact ih0 _ _
      | exact ih1 _ _ _ _
      | exact milestoneref01_Bit.mono _ _ _
      | exact LeO.none _
      | refine LeO.ite ?_ ?_
      | refine LeO.bind ?_ (fun _ => ?_)
    · intro y0 y1 y2 y3
      unfold milestoneref01_Of.l0
      repeat' first
      | (with_reducible exact ih0 _ _)
      | (with_reducible exact ih1 _ _ _ _)
      | (with_reducible exact milestoneref01_Bit.mono _ _ _)
      | (with_reducible exact LeO.refl _)
      | (with_reducible exact LeO.none _)
      | (with_reducible refine LeO.ite ?_ ?_)
      | (with_reducible refine LeO.bind ?_ (fun _ => ?_))
      | exact ih0 _ _
      | exact ih1 _ _ _ _
      | exact milestoneref01_Bit.mono _ _ _
      | exact LeO.none _
      | refine LeO.ite ?_ ?_
      | refine LeO.bind ?_ (fun _ => ?_)
theorem milestoneref01_Of.mono : ∀ a0 a1 k, LeO (milestoneref01_Of.f k a0 a1) (milestoneref01_Of.f (k + 1) a0 a1) := by
  intro a0 a1 k
  obtain ⟨ih0, ih1⟩ := milestoneref01_Of.mono_l k
  unfold milestoneref01_Of.f
  repeat' first
      | (with_reducible exact ih0 _ _)
      | (with_reducible exact ih1 _ _ _ _)
      | (with_reducible exact milestoneref01_Bit.mono _ _ _)
      | (with_reducible exact LeO.refl _)
      | (with_reducible exact LeO.none _)
      | (with_reducible refine LeO.ite ?_ ?_)
      | (with_reducible refine LeO.bind ?_ (fun _ => ?_))
      | exact ih0 _ _
      | exact ih1 _ _ _ _
      | exact milestoneref01_Bit.mono _ _ _
      | exact LeO.none _
      | refine LeO.ite ?_ ?_
      | refine LeO.bind ?_ (fun _ => ?_)
set_option maxHeartbeats 8000000 in
set_option maxRecDepth 100000 in
theorem milestoneref01_Of.calls (k : Nat) (a0 : Int) (a1 : Int) (r1 : Int) (r2 : Int) (w : World) (h : milestoneref01_Of.f k a0 a1 = some (r1, r2)) :
    Calls Try.prog 21 #[.int .u32 a0, .int .u8 a1] w fun e w' => e = .returned (.agg #[.int .u32 r1, .int .u8 r2]) ∧ Below w.heap.size w w' := by
  have hu31 := Try.underlying31
  have HB := Aside0.mk (Below.refl w.heap.size w)
  have H : (if a1 > 32 then (milestoneref01_Of.j0 k a0 32) else (milestoneref01_Of.j0 k a0 a1)) = some (r1, r2) := h
  clear h
  have HC3 := Aside0.mk H
  clear H
  go_enter Try.func21, Try.ntmps21
  go_upto_if 8 with (first | ((with_reducible refine gate_dst (N := 4) rfl ?_); refine box_event ?hg (N := 4) ?hd (cs := #[.int .u32 0, .int .u8 0]) (t := 31) ?hr ?_; (case hd => rfl); (case hg => rfl); (case hr => first | (go_simp; done) | (go_simp; rfl)); intro gb146 hg w4 hbox hb; have n0_ := Aside0.mk (below_step (by repeat (first | (with_reducible first | exact HB.out | apply below_alloc | apply pw_below_drewN | apply below_drew1) | exact HB.out)) hb); have n1_ := Aside0.mk (hbox); have n2_ := Aside0.mk ((by rw [hg]; exact (below_size (by repeat (first | (with_reducible first | exact HB.out | apply below_alloc | apply pw_below_drewN | apply below_drew1) | exact HB.out))) : w.heap.size ≤ gb146)); have n3_ := Aside0.mk ((by rw [hg]; exact (below_size (by repeat (first | (with_reducible first | exact HB.out | apply below_alloc | apply pw_below_drewN | apply below_drew1) | exact HB.out))) : w.heap.size ≤ gb146)); clear HB; have HB := n0_; have BK146 := n1_; have GW146 := n2_; have GE146 := n3_; clear n0_ n1_ n2_ n3_; clear hb hbox hg))
  (try simp only [Act.put, List.setIfInBounds_toArray, List.set_cons_zero, List.set_cons_succ])
  go_cut [1] (fun v1 wc => ∃ (kq : Nat) (x1_2 : Int), v1 = .int .u8 x1_2 ∧ Aside0 (milestoneref01_Of.j0 kq a0 x1_2 = some (r1, r2)) ∧ Aside0 (kq ≤ k) ∧ Aside0 (wc.heap[gb146]? = some (.cells #[.int .u32 0, .int .u8 0] 31 (0, 0))) ∧ Aside0 (Below w.heap.size w wc))
  case first =>
    have H := HC3.out
    clear HC3
    by_cases c5 : a1 > 32
    · rw [if_pos c5] at H
      have c5b0 : decide (32 < a1) = true := decide_eq_true c5
      clear c5
      (first | rw [c5b0] | (simp only [i64_w, i32_w]; rw [c5b0]) | skip)
      have H' := Aside0.mk H
      clear H
      go_wp2
      go_meet
      case rel => exact ⟨_, (32), (by first | rfl | (simp; done) | (simp [*]; done) | (refine qa_int ?_; omega) | (refine qa_int ?_; simp <;> omega)), H', ⟨by first | omega | exact Nat.le_refl _⟩, ⟨by (with_reducible repeat (first | refine blk_drewN ?_ _ | refine blk_drew ?_ | refine blk_alloc ?_ _)); exact BK146.out⟩, ⟨by repeat (first | (with_reducible first | exact HB.out | apply below_alloc | apply pw_below_drewN | apply below_drew1 | refine below_set ?_ GE146.out) | exact HB.out)⟩⟩
    · rw [if_neg c5] at H
      have c5b0 : decide (32 < a1) = false := decide_eq_false c5
      clear c5
      (first | rw [c5b0] | (simp only [i64_w, i32_w]; rw [c5b0]) | skip)
      have H' := Aside0.mk H
      clear H
      go_wp2
      go_meet
      case rel => exact ⟨_, (a1), (by first | rfl | (simp; done) | (simp [*]; done) | (refine qa_int ?_; omega) | (refine qa_int ?_; simp <;> omega)), H', ⟨by first | omega | exact Nat.le_refl _⟩, ⟨by (with_reducible repeat (first | refine blk_drewN ?_ _ | refine blk_drew ?_ | refine blk_alloc ?_ _)); exact BK146.out⟩, ⟨by repeat (first | (with_reducible first | exact HB.out | apply below_alloc | apply pw_below_drewN | apply below_drew1 | refine below_set ?_ GE146.out) | exact HB.out)⟩⟩
  case rest =>
    clear HC3
    try clear c2
    try clear p2
    try clear c5
    try clear c5b0
    obtain ⟨kq, x1_2, rfl, HA, HJ2, BK146, HB⟩ := hcut
    cases kq with
    | zero => exact absurd HA.out (by simp [milestoneref01_Of.j0])
    | succ kj2 =>
      have H := HA.out
      clear HA
      simp only [milestoneref01_Of.j0] at H
      have H' := Aside0.mk H
      clear H
      go_wp2
      go_loopg [5, 6] kj2 (fun kq v5 v6 w' => ∃ (x5_2 : Int) (x6_2 : Int), v5 = .int .u32 x5_2 ∧ v6 = .int .i64 x6_2 ∧ Aside0 (milestoneref01_Of.l0 kq a0 x1_2 x5_2 x6_2 = some (r1, r2)) ∧ Aside0 (kq ≤ kj2) ∧ Aside0 (w'.heap[gb146]? = some (.cells #[.int .u32 0, .int .u8 0] 31 (0, 0))) ∧ Aside0 (Below w.heap.size w w'))
      case atStart => exact ⟨(0), (0), (by first | rfl | (simp; done) | (simp [*]; done) | (refine qa_int ?_; omega) | (refine qa_int ?_; simp <;> omega)), (by first | rfl | (simp; done) | (simp [*]; done) | (refine qa_int ?_; omega) | (refine qa_int ?_; simp <;> omega)), H', ⟨Nat.le_refl _⟩, ⟨by (with_reducible repeat (first | refine blk_drewN ?_ _ | refine blk_drew ?_ | refine blk_alloc ?_ _)); exact BK146.out⟩, ⟨by repeat (first | (with_reducible first | exact HB.out | apply below_alloc | apply pw_below_drewN | apply below_drew1 | refine below_set ?_ GE146.out) | exact HB.out)⟩⟩
      case round =>
        clear H'
        try clear c2
        try clear p2
        try clear c5
        try clear c5b0
        try clear p2
        obtain ⟨x5_2, x6_2, rfl, rfl, HA, HK2, BK146, HB⟩ := hrel
        cases gk with
        | zero => exact absurd HA.out (by simp [milestoneref01_Of.l0])
        | succ k2 =>
          have H := HA.out
          clear HA
          simp only [milestoneref01_Of.l0] at H
          by_cases c6 : x6_2 < 32
          · rw [if_pos c6] at H
            have c6b0 : decide (x6_2 < 32) = true := decide_eq_true c6
            clear c6
            by_cases c7 : x6_2 < (wrap64 (x1_2))
            · rw [if_pos c7] at H
              have c7b0 : decide (x6_2 < (wrap64 (x1_2))) = true := decide_eq_true c7
              clear c7
              replace H := Option.bind_eq_some_iff.mp H
              obtain ⟨t147, A80, H⟩ := H
              replace H : (if t147 = true then (milestoneref01_Of.l0 k2 a0 x1_2 (((x5_2 * 2) + 1) % 4294967296) (wrap64 (x6_2 + 1))) else (milestoneref01_Of.l0 k2 a0 x1_2 ((x5_2 * 2) % 4294967296) (wrap64 (x6_2 + 1)))) = some (r1, r2) := H
              have A8 := Aside0.mk A80
              clear A80
              by_cases c9 : t147 = true
              · subst c9
                have H1 : (milestoneref01_Of.l0 k2 a0 x1_2 (((x5_2 * 2) + 1) % 4294967296) (wrap64 (x6_2 + 1))) = some (r1, r2) := by rw [if_pos rfl] at H; exact H
                clear H
                have H := H1
                clear H1
                have H' := Aside0.mk H
                clear H
                go_wp2_with (first | (go_at_call 31; (with_reducible refine (milestoneref01_Bit.calls k2 a0 x6_2 true _ A8.out).mono ?_); rintro e w' ⟨rfl, ⟨nd, rfl⟩⟩) | (go_at_call 31; (refine calls_of_args (args' := #[.int .u32 a0, .int .i64 x6_2]) ?_ ?_; focus (first | rfl | (simp; done) | (refine qa_arr ?_; (repeat' (first | rfl | refine qa_cons ?_ ?_ | refine qa_int ?_ | refine qa_agg ?_ | refine qa_arr ?_ | omega)); done)); (with_reducible refine (milestoneref01_Bit.calls k2 a0 x6_2 true _ A8.out).mono ?_)); rintro e w' ⟨rfl, ⟨nd, rfl⟩⟩))
                go_roundg k2
                case measure => have := HJ2.out; have := HK2.out; omega
                case rel => exact ⟨(((x5_2 * 2) + 1) % 4294967296), (wrap64 (x6_2 + 1)), (by first | rfl | (simp; done) | (simp [*]; done) | (refine qa_int ?_; omega) | (refine qa_int ?_; simp <;> omega)), (by first | rfl | (simp; done) | (simp [*]; done) | (refine qa_int ?_; omega) | (refine qa_int ?_; simp <;> omega)), H', ⟨by have := HJ2.out; have := HK2.out; omega⟩, ⟨by (with_reducible repeat (first | refine blk_drewN ?_ _ | refine blk_drew ?_ | refine blk_alloc ?_ _)); exact BK146.out⟩, ⟨by repeat (first | (with_reducible first | exact HB.out | apply below_alloc | apply pw_below_drewN | apply below_drew1 | refine below_set ?_ GE146.out) | exact HB.out)⟩⟩
              · replace c9 := Bool.eq_false_iff.mpr c9
                subst c9
                have H1 : (milestoneref01_Of.l0 k2 a0 x1_2 ((x5_2 * 2) % 4294967296) (wrap64 (x6_2 + 1))) = some (r1, r2) := by rw [if_neg (show ¬ (false = true) by decide)] at H; exact H
                clear H
                have H := H1
                clear H1
                have H' := Aside0.mk H
                clear H
                go_wp2_with (first | (go_at_call 31; (with_reducible refine (milestoneref01_Bit.calls k2 a0 x6_2 false _ A8.out).mono ?_); rintro e w' ⟨rfl, ⟨nd, rfl⟩⟩) | (go_at_call 31; (refine calls_of_args (args' := #[.int .u32 a0, .int .i64 x6_2]) ?_ ?_; focus (first | rfl | (simp; done) | (refine qa_arr ?_; (repeat' (first | rfl | refine qa_cons ?_ ?_ | refine qa_int ?_ | refine qa_agg ?_ | refine qa_arr ?_ | omega)); done)); (with_reducible refine (milestoneref01_Bit.calls k2 a0 x6_2 false _ A8.out).mono ?_)); rintro e w' ⟨rfl, ⟨nd, rfl⟩⟩))
                go_roundg k2
                case measure => have := HJ2.out; have := HK2.out; omega
                case rel => exact ⟨((x5_2 * 2) % 4294967296), (wrap64 (x6_2 + 1)), (by first | rfl | (simp; done) | (simp [*]; done) | (refine qa_int ?_; omega) | (refine qa_int ?_; simp <;> omega)), (by first | rfl | (simp; done) | (simp [*]; done) | (refine qa_int ?_; omega) | (refine qa_int ?_; simp <;> omega)), H', ⟨by have := HJ2.out; have := HK2.out; omega⟩, ⟨by (with_reducible repeat (first | refine blk_drewN ?_ _ | refine blk_drew ?_ | refine blk_alloc ?_ _)); exact BK146.out⟩, ⟨by repeat (first | (with_reducible first | exact HB.out | apply below_alloc | apply pw_below_drewN | apply below_drew1 | refine below_set ?_ GE146.out) | exact HB.out)⟩⟩
            · rw [if_neg c7] at H
              have c7b0 : decide (x6_2 < (wrap64 (x1_2))) = false := decide_eq_false c7
              clear c7
              have H' := Aside0.mk H
              clear H
              go_wp2
              go_roundg k2
              case measure => have := HJ2.out; have := HK2.out; omega
              case rel => exact ⟨((x5_2 * 2) % 4294967296), (wrap64 (x6_2 + 1)), (by first | rfl | (simp; done) | (simp [*]; done) | (refine qa_int ?_; omega) | (refine qa_int ?_; simp <;> omega)), (by first | rfl | (simp; done) | (simp [*]; done) | (refine qa_int ?_; omega) | (refine qa_int ?_; simp <;> omega)), H', ⟨by have := HJ2.out; have := HK2.out; omega⟩, ⟨by (with_reducible repeat (first | refine blk_drewN ?_ _ | refine blk_drew ?_ | refine blk_alloc ?_ _)); exact BK146.out⟩, ⟨by repeat (first | (with_reducible first | exact HB.out | apply below_alloc | apply pw_below_drewN | apply below_drew1 | refine below_set ?_ GE146.out) | exact HB.out)⟩⟩
          · rw [if_neg c6] at H
            have c6b0 : decide (x6_2 < 32) = false := decide_eq_false c6
            clear c6
            simp only [Option.some.injEq, Prod.mk.injEq] at H
            obtain ⟨rfl, rfl⟩ := H
            have hcz10_0 : wr.cell? ⟨gb146, 0, none⟩ = some (.int .u32 0) := (blk_cell BK146.out 0).trans rfl
            have hcz10_1 : wr.cell? ⟨gb146, 1, none⟩ = some (.int .u8 0) := (blk_cell BK146.out 1).trans rfl
            have hfz10_0 := blk_frozen BK146.out 0
            have hfz10_1 := blk_frozen BK146.out 1
            go_wp2
            refine bodyPost_ret (results_cell_row rfl _ _ gb146 31 #[.int .u32 x5_2, .int .u8 x1_2] (0, 0) _ rfl (by (with_reducible repeat (first | refine blk_drewN ?_ _ | refine blk_drew ?_ | refine blk_alloc ?_ _)); refine blk_put (cs := #[.int .u32 x5_2, .int .u8 0]) ?_ 1 _ rfl; (with_reducible repeat (first | refine blk_drewN ?_ _ | refine blk_drew ?_ | refine blk_alloc ?_ _)); refine blk_put (cs := #[.int .u32 0, .int .u8 0]) ?_ 0 _ rfl; (with_reducible repeat (first | refine blk_drewN ?_ _ | refine blk_drew ?_ | refine blk_alloc ?_ _)); exact BK146.out) Try.underlying31 rfl (by kernel_rfl)) rfl ?_
            exact ⟨by first | rfl | (simp [errW_none, errW_some] <;> rfl) | (simp [*, errW_none, errW_some] <;> rfl), by repeat (first | (with_reducible first | exact HB.out | apply below_alloc | apply pw_below_drewN | apply below_drew1 | refine below_set ?_ GE146.out) | exact HB.out)⟩

/-! ### milestoneref07_Prefix: function 8 -/
def milestoneref07_Prefix.f (k : Nat) (a0 : Int) : Option (Int × Int) := (milestoneref01_Of.f k (Go.bits .or .u32 (Go.bits .or .u32 167772160 ((((Int.tmod a0 3) % 4294967296) * 65536) % 4294967296)) (((Int.tdiv a0 3) % 2) * 32768)) (8 + ((((Int.tdiv a0 6) % 256) % 3) * 8))).bind fun bt149 => (some (bt149.1, bt149.2))
theorem milestoneref07_Prefix.mono : ∀ a0 k, LeO (milestoneref07_Prefix.f k a0) (milestoneref07_Prefix.f (k + 1) a0) := by
  intro a0 k
  unfold milestoneref07_Prefix.f
  repeat' first
      | (with_reducible exact milestoneref01_Of.mono _ _ _)
      | (with_reducible exact LeO.refl _)
      | (with_reducible exact LeO.none _)
      | (with_reducible refine LeO.ite ?_ ?_)
      | (with_reducible refine LeO.bind ?_ (fun _ => ?_))
      | exact milestoneref01_Of.mono _ _ _
      | exact LeO.none _
      | refine LeO.ite ?_ ?_
      | refine LeO.bind ?_ (fun _ => ?_)
set_option maxHeartbeats 8000000 in
set_option maxRecDepth 100000 in
theorem milestoneref07_Prefix.calls (k : Nat) (a0 : Int) (r1 : Int) (r2 : Int) (w : World) (h : milestoneref07_Prefix.f k a0 = some (r1, r2)) :
    Calls Try.prog 8 #[.int .u8 a0] w fun e w' => e = .returned (.agg #[.int .u32 r1, .int .u8 r2]) ∧ Below w.heap.size w w' := by
  have hu31 := Try.underlying31
  have HB := Aside0.mk (Below.refl w.heap.size w)
  have H : ((milestoneref01_Of.f k (Go.bits .or .u32 (Go.bits .or .u32 167772160 ((((Int.tmod a0 3) % 4294967296) * 65536) % 4294967296)) (((Int.tdiv a0 3) % 2) * 32768)) (8 + ((((Int.tdiv a0 6) % 256) % 3) * 8))).bind fun bt149 => (some (bt149.1, bt149.2))) = some (r1, r2) := h
  clear h
  replace H := Option.bind_eq_some_iff.mp H
  obtain ⟨⟨t149, t150⟩, A20, H⟩ := H
  replace H : (some (t149, t150)) = some (r1, r2) := H
  have A2 := Aside0.mk A20
  clear A20
  simp only [Option.some.injEq, Prod.mk.injEq] at H
  obtain ⟨rfl, rfl⟩ := H
  go_enter Try.func8, Try.ntmps8
  go_wp2_with (first | ((with_reducible refine gate_dst (N := 2) rfl ?_); refine box_event ?hg (N := 2) ?hd (cs := #[.int .u32 0, .int .u8 0]) (t := 31) ?hr ?_; (case hd => rfl); (case hg => rfl); (case hr => first | (go_simp; done) | (go_simp; rfl)); intro gb148 hg w3 hbox hb; have n0_ := Aside0.mk (below_step (by repeat (first | (with_reducible first | exact HB.out | apply below_alloc | apply pw_below_drewN | apply below_drew1) | exact HB.out)) hb); have n1_ := Aside0.mk (hbox); have n2_ := Aside0.mk ((by rw [hg]; exact (below_size (by repeat (first | (with_reducible first | exact HB.out | apply below_alloc | apply pw_below_drewN | apply below_drew1) | exact HB.out))) : w.heap.size ≤ gb148)); have n3_ := Aside0.mk ((by rw [hg]; exact (below_size (by repeat (first | (with_reducible first | exact HB.out | apply below_alloc | apply pw_below_drewN | apply below_drew1) | exact HB.out))) : w.heap.size ≤ gb148)); clear HB; have HB := n0_; have BK148 := n1_; have GW148 := n2_; have GE148 := n3_; clear n0_ n1_ n2_ n3_; clear hb hbox hg) | ((with_reducible refine gate_callee (f := 21) rfl ?_); refine goesL_ (some 19) rfl rfl Try.func21 (by kernel_rfl) rfl #[.int .u32 (Go.bits .or .u32 (Go.bits .or .u32 167772160 ((((Int.tmod a0 3) % 4294967296) * 65536) % 4294967296)) (((Int.tdiv a0 3) % 2) * 32768)), .int .u8 (8 + ((((Int.tdiv a0 6) % 256) % 3) * 8))] rfl (by (try simp only [List.map_toArray, List.map_cons, List.map_nil]); first | done | rfl | (simp only [List.length_drop, List.length_take]; rfl) | (simp; done) | (refine qa_arr ?_; (repeat' (first | rfl | refine qa_cons ?_ ?_ | refine qa_int ?_ | refine qa_agg ?_ | refine qa_arr ?_ | omega)); done)) ?_; (with_reducible refine (milestoneref01_Of.calls k (Go.bits .or .u32 (Go.bits .or .u32 167772160 ((((Int.tmod a0 3) % 4294967296) * 65536) % 4294967296)) (((Int.tdiv a0 3) % 2) * 32768)) (8 + ((((Int.tdiv a0 6) % 256) % 3) * 8)) t149 t150 _ A2.out).mono ?_); rintro e w4 ⟨rfl, hb⟩; refine ⟨_, rfl, ?_⟩; have n0_ := Aside0.mk (blk_below (g := gb148) (o := .cells #[.int .u32 0, .int .u8 0] 31 (0, 0)) (by (with_reducible repeat (first | refine blk_drewN ?_ _ | refine blk_drew ?_ | refine blk_alloc ?_ _)); exact BK148.out) hb); have n1_ := Aside0.mk (below_step (by repeat (first | (with_reducible first | exact HB.out | apply below_alloc | apply pw_below_drewN | apply below_drew1 | refine below_set ?_ GE148.out) | exact HB.out)) hb); clear BK148; clear HB; have BK148 := n0_; have HB := n1_; clear n0_ n1_; (try clear hb); (try clear hb2); (try clear hk); (try clear hi); have hcz5_0 : w4.cell? ⟨gb148, 0, none⟩ = some (.int .u32 0) := (blk_cell BK148.out 0).trans rfl; have hcz5_1 : w4.cell? ⟨gb148, 1, none⟩ = some (.int .u8 0) := (blk_cell BK148.out 1).trans rfl; have hfz5_0 := blk_frozen BK148.out 0; have hfz5_1 := blk_frozen BK148.out 1))
  refine bodyPost_ret (results_cell_row rfl _ _ gb148 31 #[.int .u32 t149, .int .u8 t150] (0, 0) _ rfl (by (with_reducible repeat (first | refine blk_drewN ?_ _ | refine blk_drew ?_ | refine blk_alloc ?_ _)); refine blk_put (cs := #[.int .u32 t149, .int .u8 0]) ?_ 1 _ rfl; (with_reducible repeat (first | refine blk_drewN ?_ _ | refine blk_drew ?_ | refine blk_alloc ?_ _)); refine blk_put (cs := #[.int .u32 0, .int .u8 0]) ?_ 0 _ rfl; (with_reducible repeat (first | refine blk_drewN ?_ _ | refine blk_drew ?_ | refine blk_alloc ?_ _)); exact BK148.out) Try.underlying31 rfl (by kernel_rfl)) rfl ?_
  exact ⟨by first | rfl | (simp [errW_none, errW_some] <;> rfl) | (simp [*, errW_none, errW_some] <;> rfl), by repeat (first | (with_reducible first | exact HB.out | apply below_alloc | apply pw_below_drewN | apply below_drew1 | refine below_set ?_ GE148.out) | exact HB.out)⟩

/-! ### milestonelaw15_mark: function 10 -/
def milestonelaw15_mark.f (a0_0 : Int) (a0_1 : Int) (a0_2 : Int) : Option (Int × Int) := some (IntKind.u16.wrap ((Int.tmod (IntKind.u16.wrap (a0_1)) 9) + 65532), a0_2)
set_option maxHeartbeats 8000000 in
set_option maxRecDepth 100000 in
theorem milestonelaw15_mark.calls (a0_0 : Int) (a0_1 : Int) (a0_2 : Int) (r1 : Int) (r2 : Int) (w : World) (h : milestonelaw15_mark.f a0_0 a0_1 a0_2 = some (r1, r2)) :
    Calls Try.prog 10 #[.agg #[.int .u8 a0_0, .int .u8 a0_1, .int .u16 a0_2]] w fun e w' => e = .returned (.agg #[.int .u16 r1, .int .u16 r2]) ∧ Below w.heap.size w w' := by
  have hu25 := Try.underlying25
  have hu36 := Try.underlying36
  have HB := Aside0.mk (Below.refl w.heap.size w)
  have H : (some (IntKind.u16.wrap ((Int.tmod (IntKind.u16.wrap (a0_1)) 9) + 65532), a0_2)) = some (r1, r2) := h
  clear h
  simp only [Option.some.injEq, Prod.mk.injEq] at H
  obtain ⟨rfl, rfl⟩ := H
  go_enter Try.func10, Try.ntmps10
  go_wp2_with (first | ((with_reducible refine gate_dst (N := 1) rfl ?_); refine box_event ?hg (N := 1) ?hd (cs := #[.int .u8 a0_0, .int .u8 a0_1, .int .u16 a0_2]) (t := 25) ?hr ?_; (case hd => rfl); (case hg => rfl); (case hr => first | (go_simp; done) | (go_simp; rfl)); intro gb151 hg w2 hbox hb; have n0_ := Aside0.mk (below_step (by repeat (first | (with_reducible first | exact HB.out | apply below_alloc | apply pw_below_drewN | apply below_drew1) | exact HB.out)) hb); have n1_ := Aside0.mk (hbox); have n2_ := Aside0.mk ((by rw [hg]; exact (below_size (by repeat (first | (with_reducible first | exact HB.out | apply below_alloc | apply pw_below_drewN | apply below_drew1) | exact HB.out))) : w.heap.size ≤ gb151)); have n3_ := Aside0.mk ((by rw [hg]; exact (below_size (by repeat (first | (with_reducible first | exact HB.out | apply below_alloc | apply pw_below_drewN | apply below_drew1) | exact HB.out))) : w.heap.size ≤ gb151)); clear HB; have HB := n0_; have BK151 := n1_; have GW151 := n2_; have GE151 := n3_; clear n0_ n1_ n2_ n3_; clear hb hbox hg) | ((with_reducible refine gate_dst (N := 2) rfl ?_); refine box_event ?hg (N := 2) ?hd (cs := #[.int .u16 0, .int .u16 0]) (t := 36) ?hr ?_; (case hd => rfl); (case hg => rfl); (case hr => first | (go_simp; done) | (go_simp; rfl)); intro gb152 hg w3 hbox hb; have n0_ := Aside0.mk (blk_below (g := gb151) (o := .cells #[.int .u8 a0_0, .int .u8 a0_1, .int .u16 a0_2] 25 (0, 0)) (by (with_reducible repeat (first | refine blk_drewN ?_ _ | refine blk_drew ?_ | refine blk_alloc ?_ _)); exact BK151.out) hb); have n1_ := Aside0.mk (below_step (by repeat (first | (with_reducible first | exact HB.out | apply below_alloc | apply pw_below_drewN | apply below_drew1 | refine below_set ?_ GE151.out) | exact HB.out)) hb); have n2_ := Aside0.mk (hbox); have n3_ := Aside0.mk ((by rw [hg]; exact (below_size (by repeat (first | (with_reducible first | exact HB.out | apply below_alloc | apply pw_below_drewN | apply below_drew1 | refine below_set ?_ GE151.out) | exact HB.out))) : w.heap.size ≤ gb152)); have n4_ := Aside0.mk ((by rw [hg]; exact (below_size (by repeat (first | (with_reducible first | exact HB.out | apply below_alloc | apply pw_below_drewN | apply below_drew1 | refine below_set ?_ GE151.out) | exact HB.out))) : w.heap.size ≤ gb152)); have n5_ := Aside0.mk ((by rw [hg]; exact Nat.ne_of_lt (blk_lt (g := gb151) (o := .cells #[.int .u8 a0_0, .int .u8 a0_1, .int .u16 a0_2] 25 (0, 0)) (by (with_reducible repeat (first | refine blk_drewN ?_ _ | refine blk_drew ?_ | refine blk_alloc ?_ _)); exact BK151.out)) : gb151 ≠ gb152)); have n6_ := Aside0.mk ((by rw [hg]; exact Nat.ne_of_gt (blk_lt (g := gb151) (o := .cells #[.int .u8 a0_0, .int .u8 a0_1, .int .u16 a0_2] 25 (0, 0)) (by (with_reducible repeat (first | refine blk_drewN ?_ _ | refine blk_drew ?_ | refine blk_alloc ?_ _)); exact BK151.out)) : gb152 ≠ gb151)); clear BK151; clear HB; have BK151 := n0_; have HB := n1_; have BK152 := n2_; have GW152 := n3_; have GE152 := n4_; have NB151_152 := n5_; have NB152_151 := n6_; clear n0_ n1_ n2_ n3_ n4_ n5_ n6_; clear hb hbox hg; have hnb4 := NB151_152.out; have hnc4 := NB152_151.out; have hcz5_0 : w3.cell? ⟨gb151, 0, none⟩ = some (.int .u8 a0_0) := (blk_cell BK151.out 0).trans rfl; have hcz5_1 : w3.cell? ⟨gb151, 1, none⟩ = some (.int .u8 a0_1) := (blk_cell BK151.out 1).trans rfl; have hcz5_2 : w3.cell? ⟨gb151, 2, none⟩ = some (.int .u16 a0_2) := (blk_cell BK151.out 2).trans rfl; have hfz5_0 := blk_frozen BK151.out 0; have hfz5_1 := blk_frozen BK151.out 1; have hfz5_2 := blk_frozen BK151.out 2; have hcz6_0 : w3.cell? ⟨gb152, 0, none⟩ = some (.int .u16 0) := (blk_cell BK152.out 0).trans rfl; have hcz6_1 : w3.cell? ⟨gb152, 1, none⟩ = some (.int .u16 0) := (blk_cell BK152.out 1).trans rfl; have hfz6_0 := blk_frozen BK152.out 0; have hfz6_1 := blk_frozen BK152.out 1))
  refine bodyPost_ret (results_cell_row rfl _ _ gb152 36 #[.int .u16 (IntKind.u16.wrap ((Int.tmod (IntKind.u16.wrap (a0_1)) 9) + 65532)), .int .u16 a0_2] (0, 0) _ rfl (by (with_reducible repeat (first | refine blk_drewN ?_ _ | refine blk_drew ?_ | refine blk_alloc ?_ _)); refine blk_put (cs := #[.int .u16 (IntKind.u16.wrap ((Int.tmod (IntKind.u16.wrap (a0_1)) 9) + 65532)), .int .u16 0]) ?_ 1 _ rfl; (with_reducible repeat (first | refine blk_drewN ?_ _ | refine blk_drew ?_ | refine blk_alloc ?_ _)); refine blk_put (cs := #[.int .u16 0, .int .u16 0]) ?_ 0 _ rfl; (with_reducible repeat (first | refine blk_drewN ?_ _ | refine blk_drew ?_ | refine blk_alloc ?_ _)); exact BK152.out) Try.underlying36 rfl (by kernel_rfl)) rfl ?_
  exact ⟨by first | rfl | (simp [errW_none, errW_some] <;> rfl) | (simp [*, errW_none, errW_some] <;> rfl), by repeat (first | (with_reducible first | exact HB.out | apply below_alloc | apply pw_below_drewN | apply below_drew1 | refine below_set ?_ GE151.out | refine below_set ?_ GE152.out) | exact HB.out)⟩

end Go.Proofs.Ytkngncckidlniaa.QSourceSinks
