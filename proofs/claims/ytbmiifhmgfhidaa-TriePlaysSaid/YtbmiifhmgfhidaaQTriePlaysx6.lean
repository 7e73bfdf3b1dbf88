-- Lines by a program of this session, for this claim.
import Derived.Test.YtbmiifhmgfhidaaQTriePlaysx0
import Derived.Test.YtbmiifhmgfhidaaQTriePlaysx1
import Derived.Test.YtbmiifhmgfhidaaQTriePlaysx3
import Derived.Test.YtbmiifhmgfhidaaQTriePlaysx4
import Derived.Test.YtbmiifhmgfhidaaQTriePlaysx5
namespace Go.Proofs.Ytbmiifhmgfhidaa.QTriePlays
open Go.RowKit Go.Proofs.YtbmiifhmgfhidaaW.PrintWords Go.Proofs.YtbmiifhmgfhidaaW.PrintLast Go.Proofs.YtbmiifhmgfhidaaW.PrintMore
attribute [local go_sem] max2_int min2_int max_two min_two max_three min_three max_four min_four   -- for this text's walks alone
set_option linter.unusedVariables false
set_option linter.unusedSimpArgs false

attribute [local go_sem high] eqA27
/-! ### milestoneref01_Of: function 21 -/
mutual
def milestoneref01_Of.j0 : Nat → Int → Int → Option (Int × Int)
  | 0, _, _ => none
  | k + 1, x0, x1 => milestoneref01_Of.l0 k x0 x1 0 0
def milestoneref01_Of.l0 : Nat → Int → Int → Int → Int → Option (Int × Int)
  | 0, _, _, _, _ => none
  | k + 1, x0, x1, x5, x6 => if x6 < 32 then (if x6 < (wrap64 (x1)) then ((milestoneref01_Bit.f k x0 x6).bind fun t120 => (if t120 = true then (milestoneref01_Of.l0 k x0 x1 (((x5 * 2) + 1) % 4294967296) (wrap64 (x6 + 1))) else (milestoneref01_Of.l0 k x0 x1 ((x5 * 2) % 4294967296) (wrap64 (x6 + 1))))) else (milestoneref01_Of.l0 k x0 x1 ((x5 * 2) % 4294967296) (wrap64 (x6 + 1)))) else (some (x5, x1))
end
def milestoneref01_Of.f (k : Nat) (a0 : Int) (a1 : Int) : Option (Int × Int) := if a1 > 32 then (milestoneref01_Of.j0 k a0 32) else (milestoneref01_Of.j0 k a0 a1)
theorem milestoneref01_Of.mono_l : ∀ k, (∀ y0 y1, LeO (milestoneref01_Of.j0 k y0 y1) (milestoneref01_Of.j0 (k + 1) y0 y1)) ∧ (∀ y0 y1 y2 y3, LeO (milestoneref01_Of.l0 k y0 y1 y2 y3) (milestoneref01_Of.l0 (k + 1) y0 y1 y2 y3))
  | 0 => ⟨fun _ _ r h => by simp [milestoneref01_Of.j0] at h, fun _ _ _ _ r h => by simp [milestoneref01_Of.l0] at h⟩
  | k + 1 => by
    obtain ⟨ih0, ih1⟩ := milestoneref01_Of.mono_l k
    refine ⟨?_, ?_⟩
    · intro y0 y1
      unfold milestoneref01_Of.j0
      repeat' first
      | (with_reducible exact ih0 _ _)
      | (with_reducible exact ih1 _ _ _ _)
      | (with_reducible exact milestoneref01_Bit.mono _ _ _)
      | (with_reducible exact LeO.refl _)
      | (with_reducible exact LeO.none _)
      | (with_reducible refine LeO.ite ?_ ?_)
      | (with_reducible refine LeO.bind ?_ (fun _ => ?_))
      | exact ih0 _ _
      | exact ih1 _ _ _ _
      | exact milestoneref01_Bit.mono _ _ _
      | exact LeO.none _
      | refine LeO.ite ?_ ?_
      | refine LeO.bind ?_ (fun _ => ?_)
    · intro y0 y1 y2 y3
      unfold milestoneref01_Of.l0
      repeat' first
      | (with_reducible exact ih0 _ _)
      | (with_reducible exact ih1 _ _ _ _)
      | (with_reducible exact milestoneref01_Bit.mono _ _ _)
      | (with_reducible exact LeO.refl _)
      | (with_reducible exact LeO.none _)
      | (with_reducible refine LeO.ite ?_ ?_)
      | (with_reducible refine LeO.bind ?_ (fun _ => ?_))
      | exact ih0 _ _
      | exact ih1 _ _ _ _
      | exact milestoneref01_Bit.mono _ _ _
      | exact LeO.none _
      | refine LeO.ite ?_ ?_
      | refine LeO.bind ?_ (fun _ => ?_)
theorem milestoneref01_Of.mono : ∀ a0 a1 k, LeO (milestoneref01_Of.f k a0 a1) (milestoneref01_Of.f (k + 1) a0 a1) := by
  intro a0 a1 k
  obtain ⟨ih0, ih1⟩ := milestoneref01_Of.mono_l k
  unfold milestoneref01_Of.f
  repeat' first
      | (with_reducible exact ih0 _ _)
      | (with_reducible exact ih1 _ _ _ _)
      | (with_reducible exact milestoneref01_Bit.mono _ _ _)
      | (with_reducible exact LeO.refl _)
      | (with_reducible exact LeO.none _)
      | (with_reducible refine LeO.ite ?_ ?_)
      | (with_reducible refine LeO.bind ?_ (fun _ => ?_))
      | exact ih0 _ _
      | exact ih1 _ _ _ _
      | exact milestoneref01_Bit.mono _ _ _
      | exact LeO.none _
      | refine LeO.ite ?_ ?_
      | refine LeO.bind ?_ (fun _ => ?_)
set_option maxHeartbeats 8000000 in
set_option maxRecDepth 100000 in
theorem milestoneref01_Of.calls (k : Nat) (a0 : Int) (a1 : Int) (r1 : Int) (r2 : Int) (w : World) (h : milestoneref01_Of.f k a0 a1 = some (r1, r2)) :
    Calls Try.prog 21 #[.int .u32 a0, .int .u8 a1] w fun e w' => e = .returned (.agg #[.int .u32 r1, .int .u8 r2]) ∧ Below w.heap.size w w' := by
  have hu27 := Try.underlying27
  have HB := Aside0.mk (Below.refl w.heap.size w)
  have H : (if a1 > 32 then (milestoneref01_Of.j0 k a0 32) else (milestoneref01_Of.j0 k a0 a1)) = some (r1, r2) := h
  clear h
  have HC3 := Aside0.mk H
  clear H
  go_enter Try.func21, Try.ntmps21
  go_upto_if 8 with (first | ((with_reducible refine gate_dst (N := 4) rfl ?_); refine box_event ?hg (N := 4) ?hd (cs := #[.int .u32 0, .int .u8 0]) (t := 27) ?hr ?_; (case hd => rfl); (case hg => rfl); (case hr => first | (go_simp; done) | (go_simp; rfl)); intro gb119 hg w4 hbox hb; have n0_ := Aside0.mk (below_step (by repeat (first | (with_reducible first | exact HB.out | apply below_alloc | apply pw_below_drewN | apply below_drew1) | exact HB.out)) hb); have n1_ := Aside0.mk (hbox); have n2_ := Aside0.mk ((by rw [hg]; exact (below_size (by repeat (first | (with_reducible first | exact HB.out | apply below_alloc | apply pw_below_drewN | apply below_drew1) | exact HB.out))) : w.heap.size ≤ gb119)); have n3_ := Aside0.mk ((by rw [hg]; exact (below_size (by repeat (first | (with_reducible first | exact HB.out | apply below_alloc | apply pw_below_drewN | apply below_drew1) | exact HB.out))) : w.heap.size ≤ gb119)); clear HB; have HB := n0_; have BK119 := n1_; have GW119 := n2_; have GE119 := n3_; clear n0_ n1_ n2_ n3_; clear hb hbox hg))
  (try simp only [Act.put, List.setIfInBounds_toArray, List.set_cons_zero, List.set_cons_succ])
  go_cut [1] (fun v1 wc => ∃ (kq : Nat) (x1_2 : Int), v1 = .int .u8 x1_2 ∧ Aside0 (milestoneref01_Of.j0 kq a0 x1_2 = some (r1, r2)) ∧ Aside0 (kq ≤ k) ∧ Aside0 (wc.heap[gb119]? = some (.cells #[.int .u32 0, .int .u8 0] 27 (0, 0))) ∧ Aside0 (Below w.heap.size w wc))
  case first =>
    have H := HC3.out
    clear HC3
    by_cases c5 : a1 > 32
    · rw [if_pos c5] at H
      have c5b0 : decide (32 < a1) = true := decide_eq_true c5
      clear c5
      (first | rw [c5b0] | (simp only [i64_w, i32_w]; rw [c5b0]) | skip)
      have H' := Aside0.mk H
      clear H
      go_wp2
      go_meet
      case rel => exact ⟨_, (32), (by first | rfl | (simp; done) | (simp [*]; done) | (refine qa_int ?_; omega) | (refine qa_int ?_; simp <;> omega)), H', ⟨by first | omega | exact Nat.le_refl _⟩, ⟨by (with_reducible repeat (first | refine blk_drewN ?_ _ | refine blk_drew ?_ | refine blk_alloc ?_ _)); exact BK119.out⟩, ⟨by repeat (first | (with_reducible first | exact HB.out | apply below_alloc | apply pw_below_drewN | apply below_drew1 | refine below_set ?_ GE119.out) | exact HB.out)⟩⟩
    · rw [if_neg c5] at H
      have c5b0 : decide (32 < a1) = false := decide_eq_false c5
      clear c5
      (first | rw [c5b0] | (simp only [i64_w, i32_w]; rw [c5b0]) | skip)
      have H' := Aside0.mk H
      clear H
      go_wp2
      go_meet
      case rel => exact ⟨_, (a1), (by first | rfl | (simp; done) | (simp [*]; done) | (refine qa_int ?_; omega) | (refine qa_int ?_; simp <;> omega)), H', ⟨by first | omega | exact Nat.le_refl _⟩, ⟨by (with_reducible repeat (first | refine blk_drewN ?_ _ | refine blk_drew ?_ | refine blk_alloc ?_ _)); exact BK119.out⟩, ⟨by repeat (first | (with_reducible first | exact HB.out | apply below_alloc | apply pw_below_drewN | apply below_drew1 | refine below_set ?_ GE119.out) | exact HB.out)⟩⟩
  case rest =>
    clear HC3
    try clear c2
    try clear p2
    try clear c5
    try clear c5b0
    obtain ⟨kq, x1_2, rfl, HA, HJ2, BK119, HB⟩ := hcut
    cases kq with
    | zero => exact absurd HA.out (by simp [milestoneref01_Of.j0])
    | succ kj2 =>
      have H := HA.out
      clear HA
      simp only [milestoneref01_Of.j0] at H
      have H' := Aside0.mk H
      clear H
      go_wp2
      go_loopg [5, 6] kj2 (fun kq v5 v6 w' => ∃ (x5_2 : Int) (x6_2 : Int), v5 = .int .u32 x5_2 ∧ v6 = .int .i64 x6_2 ∧ Aside0 (milestoneref01_Of.l0 kq a0 x1_2 x5_2 x6_2 = some (r1, r2)) ∧ Aside0 (kq ≤ kj2) ∧ Aside0 (w'.heap[gb119]? = some (.cells #[.int .u32 0, .int .u8 0] 27 (0, 0))) ∧ Aside0 (Below w.heap.size w w'))
      case atStart => exact ⟨(0), (0), (by first | rfl | (simp; done) | (simp [*]; done) | (refine qa_int ?_; omega) | (refine qa_int ?_; simp <;> omega)), (by first | rfl | (simp; done) | (simp [*]; done) | (refine qa_int ?_; omega) | (refine qa_int ?_; simp <;> omega)), H', ⟨Nat.le_refl _⟩, ⟨by (with_reducible repeat (first | refine blk_drewN ?_ _ | refine blk_drew ?_ | refine blk_alloc ?_ _)); exact BK119.out⟩, ⟨by repeat (first | (with_reducible first | exact HB.out | apply below_alloc | apply pw_below_drewN | apply below_drew1 | refine below_set ?_ GE119.out) | exact HB.out)⟩⟩
      case round =>
        clear H'
        try clear c2
        try clear p2
        try clear c5
        try clear c5b0
        try clear p2
        obtain ⟨x5_2, x6_2, rfl, rfl, HA, HK2, BK119, HB⟩ := hrel
        cases gk with
        | zero => exact absurd HA.out (by simp [milestoneref01_Of.l0])
        | succ k2 =>
          have H := HA.out
          clear HA
          simp only [milestoneref01_Of.l0] at H
          by_cases c6 : x6_2 < 32
          · rw [if_pos c6] at H
            have c6b0 : decide (x6_2 < 32) = true := decide_eq_true c6
            clear c6
            by_cases c7 : x6_2 < (wrap64 (x1_2))
            · rw [if_pos c7] at H
              have c7b0 : decide (x6_2 < (wrap64 (x1_2))) = true := decide_eq_true c7
              clear c7
              replace H := Option.bind_eq_some_iff.mp H
              obtain ⟨t120, A80, H⟩ := H
              replace H : (if t120 = true then (milestoneref01_Of.l0 k2 a0 x1_2 (((x5_2 * 2) + 1) % 4294967296) (wrap64 (x6_2 + 1))) else (milestoneref01_Of.l0 k2 a0 x1_2 ((x5_2 * 2) % 4294967296) (wrap64 (x6_2 + 1)))) = some (r1, r2) := H
              have A8 := Aside0.mk A80
              clear A80
              by_cases c9 : t120 = true
              · subst c9
                have H1 : (milestoneref01_Of.l0 k2 a0 x1_2 (((x5_2 * 2) + 1) % 4294967296) (wrap64 (x6_2 + 1))) = some (r1, r2) := by rw [if_pos rfl] at H; exact H
                clear H
                have H := H1
                clear H1
                have H' := Aside0.mk H
                clear H
                go_wp2_with (first | (go_at_call 28; (with_reducible refine (milestoneref01_Bit.calls k2 a0 x6_2 true _ A8.out).mono ?_); rintro e w' ⟨rfl, ⟨nd, rfl⟩⟩) | (go_at_call 28; (refine calls_of_args (args' := #[.int .u32 a0, .int .i64 x6_2]) ?_ ?_; focus (first | rfl | (simp; done) | (refine qa_arr ?_; (repeat' (first | rfl | refine qa_cons ?_ ?_ | refine qa_int ?_ | refine qa_agg ?_ | refine qa_arr ?_ | omega)); done)); (with_reducible refine (milestoneref01_Bit.calls k2 a0 x6_2 true _ A8.out).mono ?_)); rintro e w' ⟨rfl, ⟨nd, rfl⟩⟩))
                go_roundg k2
                case measure => have := HJ2.out; have := HK2.out; omega
                case rel => exact ⟨(((x5_2 * 2) + 1) % 4294967296), (wrap64 (x6_2 + 1)), (by first | rfl | (simp; done) | (simp [*]; done) | (refine qa_int ?_; omega) | (refine qa_int ?_; simp <;> omega)), (by first | rfl | (simp; done) | (simp [*]; done) | (refine qa_int ?_; omega) | (refine qa_int ?_; simp <;> omega)), H', ⟨by have := HJ2.out; have := HK2.out; omega⟩, ⟨by (with_reducible repeat (first | refine blk_drewN ?_ _ | refine blk_drew ?_ | refine blk_alloc ?_ _)); exact BK119.out⟩, ⟨by repeat (first | (with_reducible first | exact HB.out | apply below_alloc | apply pw_below_drewN | apply below_drew1 | refine below_set ?_ GE119.out) | exact HB.out)⟩⟩
              · replace c9 := Bool.eq_false_iff.mpr c9
                subst c9
                have H1 : (milestoneref01_Of.l0 k2 a0 x1_2 ((x5_2 * 2) % 4294967296) (wrap64 (x6_2 + 1))) = some (r1, r2) := by rw [if_neg (show ¬ (false = true) by decide)] at H; exact H
                clear H
                have H := H1
                clear H1
                have H' := Aside0.mk H
                clear H
                go_wp2_with (first | (go_at_call 28; (with_reducible refine (milestoneref01_Bit.calls k2 a0 x6_2 false _ A8.out).mono ?_); rintro e w' ⟨rfl, ⟨nd, rfl⟩⟩) | (go_at_call 28; (refine calls_of_args (args' := #[.int .u32 a0, .int .i64 x6_2]) ?_ ?_; focus (first | rfl | (simp; done) | (refine qa_arr ?_; (repeat' (first | rfl | refine qa_cons ?_ ?_ | refine qa_int ?_ | refine qa_agg ?_ | refine qa_arr ?_ | omega)); done)); (with_reducible refine (milestoneref01_Bit.calls k2 a0 x6_2 false _ A8.out).mono ?_)); rintro e w' ⟨rfl, ⟨nd, rfl⟩⟩))
                go_roundg k2
                case measure => have := HJ2.out; have := HK2.out; omega
                case rel => exact ⟨((x5_2 * 2) % 4294967296), (wrap64 (x6_2 + 1)), (by first | rfl | (simp; done) | (simp [*]; done) | (refine qa_int ?_; omega) | (refine qa_int ?_; simp <;> omega)), (by first | rfl | (simp; done) | (simp [*]; done) | (refine qa_int ?_; omega) | (refine qa_int ?_; simp <;> omega)), H', ⟨by have := HJ2.out; have := HK2.out; omega⟩, ⟨by (with_reducible repeat (first | refine blk_drewN ?_ _ | refine blk_drew ?_ | refine blk_alloc ?_ _)); exact BK119.out⟩, ⟨by repeat (first | (with_reducible first | exact HB.out | apply below_alloc | apply pw_below_drewN | apply below_drew1 | refine below_set ?_ GE119.out) | exact HB.out)⟩⟩
            · rw [if_neg c7] at H
              have c7b0 : decide (x6_2 < (wrap64 (x1_2))) = false := decide_eq_false c7
              clear c7
              have H' := Aside0.mk H
              clear H
              go_wp2
              go_roundg k2
              case measure => have := HJ2.out; have := HK2.out; omega
              case rel => exact ⟨((x5_2 * 2) % 4294967296), (wrap64 (x6_2 + 1)), (by first | rfl | (simp; done) | (simp [*]; done) | (refine qa_int ?_; omega) | (refine qa_int ?_; simp <;> omega)), (by first | rfl | (simp; done) | (simp [*]; done) | (refine qa_int ?_; omega) | (refine qa_int ?_; simp <;> omega)), H', ⟨by have := HJ2.out; have := HK2.out; omega⟩, ⟨by (with_reducible repeat (first | refine blk_drewN ?_ _ | refine blk_drew ?_ | refine blk_alloc ?_ _)); exact BK119.out⟩, ⟨by repeat (first | (with_reducible first | exact HB.out | apply below_alloc | apply pw_below_drewN | apply below_drew1 | refine below_set ?_ GE119.out) | exact HB.out)⟩⟩
          · rw [if_neg c6] at H
            have c6b0 : decide (x6_2 < 32) = false := decide_eq_false c6
            clear c6
            simp only [Option.some.injEq, Prod.mk.injEq] at H
            obtain ⟨rfl, rfl⟩ := H
            have hcz10_0 : wr.cell? ⟨gb119, 0, none⟩ = some (.int .u32 0) := (blk_cell BK119.out 0).trans rfl
            have hcz10_1 : wr.cell? ⟨gb119, 1, none⟩ = some (.int .u8 0) := (blk_cell BK119.out 1).trans rfl
            have hfz10_0 := blk_frozen BK119.out 0
            have hfz10_1 := blk_frozen BK119.out 1
            go_wp2
            refine bodyPost_ret (results_cell_row rfl _ _ gb119 27 #[.int .u32 x5_2, .int .u8 x1_2] (0, 0) _ rfl (by (with_reducible repeat (first | refine blk_drewN ?_ _ | refine blk_drew ?_ | refine blk_alloc ?_ _)); refine blk_put (cs := #[.int .u32 x5_2, .int .u8 0]) ?_ 1 _ rfl; (with_reducible repeat (first | refine blk_drewN ?_ _ | refine blk_drew ?_ | refine blk_alloc ?_ _)); refine blk_put (cs := #[.int .u32 0, .int .u8 0]) ?_ 0 _ rfl; (with_reducible repeat (first | refine blk_drewN ?_ _ | refine blk_drew ?_ | refine blk_alloc ?_ _)); exact BK119.out) Try.underlying27 rfl (by kernel_rfl)) rfl ?_
            exact ⟨by first | rfl | (simp [errW_none, errW_some] <;> rfl) | (simp [*, errW_none, errW_some] <;> rfl), by repeat (first | (with_reducible first | exact HB.out | apply below_alloc | apply pw_below_drewN | apply below_drew1 | refine below_set ?_ GE119.out) | exact HB.out)⟩

/-! ### milestoneref07_Prefix: function 20 -/
def milestoneref07_Prefix.f (k : Nat) (a0 : Int) : Option (Int × Int) := (milestoneref01_Of.f k (Go.bits .or .u32 (Go.bits .or .u32 167772160 ((((Int.tmod a0 3) % 4294967296) * 65536) % 4294967296)) (((Int.tdiv a0 3) % 2) * 32768)) (8 + ((((Int.tdiv a0 6) % 256) % 3) * 8))).bind fun bt122 => (some (bt122.1, bt122.2))
theorem milestoneref07_Prefix.mono : ∀ a0 k, LeO (milestoneref07_Prefix.f k a0) (milestoneref07_Prefix.f (k + 1) a0) := by
  intro a0 k
  unfold milestoneref07_Prefix.f
  repeat' first
      | (with_reducible exact milestoneref01_Of.mono _ _ _)
      | (with_reducible exact LeO.refl _)
      | (with_reducible exact LeO.none _)
      | (with_reducible refine LeO.ite ?_ ?_)
      | (with_reducible refine LeO.bind ?_ (fun _ => ?_))
      | exact milestoneref01_Of.mono _ _ _
      | exact LeO.none _
      | refine LeO.ite ?_ ?_
      | refine LeO.bind ?_ (fun _ => ?_)
set_option maxHeartbeats 8000000 in
set_option maxRecDepth 100000 in
theorem milestoneref07_Prefix.calls (k : Nat) (a0 : Int) (r1 : Int) (r2 : Int) (w : World) (h : milestoneref07_Prefix.f k a0 = some (r1, r2)) :
    Calls Try.prog 20 #[.int .u8 a0] w fun e w' => e = .returned (.agg #[.int .u32 r1, .int .u8 r2]) ∧ Below w.heap.size w w' := by
  have hu27 := Try.underlying27
  have HB := Aside0.mk (Below.refl w.heap.size w)
  have H : ((milestoneref01_Of.f k (Go.bits .or .u32 (Go.bits .or .u32 167772160 ((((Int.tmod a0 3) % 4294967296) * 65536) % 4294967296)) (((Int.tdiv a0 3) % 2) * 32768)) (8 + ((((Int.tdiv a0 6) % 256) % 3) * 8))).bind fun bt122 => (some (bt122.1, bt122.2))) = some (r1, r2) := h
  clear h
  replace H := Option.bind_eq_some_iff.mp H
  obtain ⟨⟨t122, t123⟩, A20, H⟩ := H
  replace H : (some (t122, t123)) = some (r1, r2) := H
  have A2 := Aside0.mk A20
  clear A20
  simp only [Option.some.injEq, Prod.mk.injEq] at H
  obtain ⟨rfl, rfl⟩ := H
  go_enter Try.func20, Try.ntmps20
  go_wp2_with (first | ((with_reducible refine gate_dst (N := 2) rfl ?_); refine box_event ?hg (N := 2) ?hd (cs := #[.int .u32 0, .int .u8 0]) (t := 27) ?hr ?_; (case hd => rfl); (case hg => rfl); (case hr => first | (go_simp; done) | (go_simp; rfl)); intro gb121 hg w3 hbox hb; have n0_ := Aside0.mk (below_step (by repeat (first | (with_reducible first | exact HB.out | apply below_alloc | apply pw_below_drewN | apply below_drew1) | exact HB.out)) hb); have n1_ := Aside0.mk (hbox); have n2_ := Aside0.mk ((by rw [hg]; exact (below_size (by repeat (first | (with_reducible first | exact HB.out | apply below_alloc | apply pw_below_drewN | apply below_drew1) | exact HB.out))) : w.heap.size ≤ gb121)); have n3_ := Aside0.mk ((by rw [hg]; exact (below_size (by repeat (first | (with_reducible first | exact HB.out | apply below_alloc | apply pw_below_drewN | apply below_drew1) | exact HB.out))) : w.heap.size ≤ gb121)); clear HB; have HB := n0_; have BK121 := n1_; have GW121 := n2_; have GE121 := n3_; clear n0_ n1_ n2_ n3_; clear hb hbox hg) | ((with_reducible refine gate_callee (f := 21) rfl ?_); refine goesL_ (some 19) rfl rfl Try.func21 (by kernel_rfl) rfl #[.int .u32 (Go.bits .or .u32 (Go.bits .or .u32 167772160 ((((Int.tmod a0 3) % 4294967296) * 65536) % 4294967296)) (((Int.tdiv a0 3) % 2) * 32768)), .int .u8 (8 + ((((Int.tdiv a0 6) % 256) % 3) * 8))] rfl (by (try simp only [List.map_toArray, List.map_cons, List.map_nil]); first | done | rfl | (simp only [List.length_drop, List.length_take]; rfl) | (simp; done) | (refine qa_arr ?_; (repeat' (first | rfl | refine qa_cons ?_ ?_ | refine qa_int ?_ | refine qa_agg ?_ | refine qa_arr ?_ | omega)); done)) ?_; (with_reducible refine (milestoneref01_Of.calls k (Go.bits .or .u32 (Go.bits .or .u32 167772160 ((((Int.tmod a0 3) % 4294967296) * 65536) % 4294967296)) (((Int.tdiv a0 3) % 2) * 32768)) (8 + ((((Int.tdiv a0 6) % 256) % 3) * 8)) t122 t123 _ A2.out).mono ?_); rintro e w4 ⟨rfl, hb⟩; refine ⟨_, rfl, ?_⟩; have n0_ := Aside0.mk (blk_below (g := gb121) (o := .cells #[.int .u32 0, .int .u8 0] 27 (0, 0)) (by (with_reducible repeat (first | refine blk_drewN ?_ _ | refine blk_drew ?_ | refine blk_alloc ?_ _)); exact BK121.out) hb); have n1_ := Aside0.mk (below_step (by repeat (first | (with_reducible first | exact HB.out | apply below_alloc | apply pw_below_drewN | apply below_drew1 | refine below_set ?_ GE121.out) | exact HB.out)) hb); clear BK121; clear HB; have BK121 := n0_; have HB := n1_; clear n0_ n1_; (try clear hb); (try clear hb2); (try clear hk); (try clear hi); have hcz5_0 : w4.cell? ⟨gb121, 0, none⟩ = some (.int .u32 0) := (blk_cell BK121.out 0).trans rfl; have hcz5_1 : w4.cell? ⟨gb121, 1, none⟩ = some (.int .u8 0) := (blk_cell BK121.out 1).trans rfl; have hfz5_0 := blk_frozen BK121.out 0; have hfz5_1 := blk_frozen BK121.out 1))
  refine bodyPost_ret (results_cell_row rfl _ _ gb121 27 #[.int .u32 t122, .int .u8 t123] (0, 0) _ rfl (by (with_reducible repeat (first | refine blk_drewN ?_ _ | refine blk_drew ?_ | refine blk_alloc ?_ _)); refine blk_put (cs := #[.int .u32 t122, .int .u8 0]) ?_ 1 _ rfl; (with_reducible repeat (first | refine blk_drewN ?_ _ | refine blk_drew ?_ | refine blk_alloc ?_ _)); refine blk_put (cs := #[.int .u32 0, .int .u8 0]) ?_ 0 _ rfl; (with_reducible repeat (first | refine blk_drewN ?_ _ | refine blk_drew ?_ | refine blk_alloc ?_ _)); exact BK121.out) Try.underlying27 rfl (by kernel_rfl)) rfl ?_
  exact ⟨by first | rfl | (simp [errW_none, errW_some] <;> rfl) | (simp [*, errW_none, errW_some] <;> rfl), by repeat (first | (with_reducible first | exact HB.out | apply below_alloc | apply pw_below_drewN | apply below_drew1 | refine below_set ?_ GE121.out) | exact HB.out)⟩

/-! ### milestonelaw09_place: function 8 -/
def milestonelaw09_place.f (k : Nat) (a0_0 : Int) (a0_1 : Int) (a0_2 : Int) (a0_3 : Int) : Option (Int × Int) := if (Int.tmod a0_3 2) = 0 then ((milestoneref07_Prefix.f k a0_2).bind fun bt126 => (some (bt126.1, bt126.2))) else ((milestoneref01_Of.f k a0_1 (Int.tmod a0_2 34)).bind fun bt128 => (some (bt128.1, bt128.2)))
theorem milestonelaw09_place.mono : ∀ a0 a1 a2 a3 k, LeO (milestonelaw09_place.f k a0 a1 a2 a3) (milestonelaw09_place.f (k + 1) a0 a1 a2 a3) := by
  intro a0 a1 a2 a3 k
  unfold milestonelaw09_place.f
  repeat' first
      | (with_reducible exact milestoneref01_Of.mono _ _ _)
      | (with_reducible exact milestoneref07_Prefix.mono _ _)
      | (with_reducible exact LeO.refl _)
      | (with_reducible exact LeO.none _)
      | (with_reducible refine LeO.ite ?_ ?_)
      | (with_reducible refine LeO.bind ?_ (fun _ => ?_))
      | exact milestoneref01_Of.mono _ _ _
      | exact milestoneref07_Prefix.mono _ _
      | exact LeO.none _
      | refine LeO.ite ?_ ?_
      | refine LeO.bind ?_ (fun _ => ?_)
set_option maxHeartbeats 8000000 in
set_option maxRecDepth 100000 in
theorem milestonelaw09_place.calls (k : Nat) (a0_0 : Int) (a0_1 : Int) (a0_2 : Int) (a0_3 : Int) (r1 : Int) (r2 : Int) (w : World) (h : milestonelaw09_place.f k a0_0 a0_1 a0_2 a0_3 = some (r1, r2)) :
    Calls Try.prog 8 #[.agg #[.int .u8 a0_0, .int .u32 a0_1, .int .u8 a0_2, .int .u8 a0_3]] w fun e w' => e = .returned (.agg #[.int .u32 r1, .int .u8 r2]) ∧ Below w.heap.size w w' := by
  have hu30 := Try.underlying30
  have hu27 := Try.underlying27
  have HB := Aside0.mk (Below.refl w.heap.size w)
  have H : (if (Int.tmod a0_3 2) = 0 then ((milestoneref07_Prefix.f k a0_2).bind fun bt126 => (some (bt126.1, bt126.2))) else ((milestoneref01_Of.f k a0_1 (Int.tmod a0_2 34)).bind fun bt128 => (some (bt128.1, bt128.2)))) = some (r1, r2) := h
  clear h
  by_cases c2 : (Int.tmod a0_3 2) = 0
  · rw [if_pos c2] at H
    have c2b0 : ((Int.tmod a0_3 2) == 0) = true := beq_iff_eq.mpr c2
    have c2b1 : ((Int.tmod a0_3 2) != 0) = false := bne_eq_false_iff_eq.mpr c2
    clear c2
    replace H := Option.bind_eq_some_iff.mp H
    obtain ⟨⟨t126, t127⟩, A30, H⟩ := H
    replace H : (some (t126, t127)) = some (r1, r2) := H
    have A3 := Aside0.mk A30
    clear A30
    simp only [Option.some.injEq, Prod.mk.injEq] at H
    obtain ⟨rfl, rfl⟩ := H
    go_enter Try.func8, Try.ntmps8
    go_wp2_with (first | ((with_reducible refine gate_dst (N := 1) rfl ?_); refine box_event ?hg (N := 1) ?hd (cs := #[.int .u8 a0_0, .int .u32 a0_1, .int .u8 a0_2, .int .u8 a0_3]) (t := 30) ?hr ?_; (case hd => rfl); (case hg => rfl); (case hr => first | (go_simp; done) | (go_simp; rfl)); intro gb124 hg w4 hbox hb; have n0_ := Aside0.mk (below_step (by repeat (first | (with_reducible first | exact HB.out | apply below_alloc | apply pw_below_drewN | apply below_drew1) | exact HB.out)) hb); have n1_ := Aside0.mk (hbox); have n2_ := Aside0.mk ((by rw [hg]; exact (below_size (by repeat (first | (with_reducible first | exact HB.out | apply below_alloc | apply pw_below_drewN | apply below_drew1) | exact HB.out))) : w.heap.size ≤ gb124)); have n3_ := Aside0.mk ((by rw [hg]; exact (below_size (by repeat (first | (with_reducible first | exact HB.out | apply below_alloc | apply pw_below_drewN | apply below_drew1) | exact HB.out))) : w.heap.size ≤ gb124)); clear HB; have HB := n0_; have BK124 := n1_; have GW124 := n2_; have GE124 := n3_; clear n0_ n1_ n2_ n3_; clear hb hbox hg) | ((with_reducible refine gate_dst (N := 2) rfl ?_); refine box_event ?hg (N := 2) ?hd (cs := #[.int .u32 0, .int .u8 0]) (t := 27) ?hr ?_; (case hd => rfl); (case hg => rfl); (case hr => first | (go_simp; done) | (go_simp; rfl)); intro gb125 hg w5 hbox hb; have n0_ := Aside0.mk (blk_below (g := gb124) (o := .cells #[.int .u8 a0_0, .int .u32 a0_1, .int .u8 a0_2, .int .u8 a0_3] 30 (0, 0)) (by (with_reducible repeat (first | refine blk_drewN ?_ _ | refine blk_drew ?_ | refine blk_alloc ?_ _)); exact BK124.out) hb); have n1_ := Aside0.mk (below_step (by repeat (first | (with_reducible first | exact HB.out | apply below_alloc | apply pw_below_drewN | apply below_drew1 | refine below_set ?_ GE124.out) | exact HB.out)) hb); have n2_ := Aside0.mk (hbox); have n3_ := Aside0.mk ((by rw [hg]; exact (below_size (by repeat (first | (with_reducible first | exact HB.out | apply below_alloc | apply pw_below_drewN | apply below_drew1 | refine below_set ?_ GE124.out) | exact HB.out))) : w.heap.size ≤ gb125)); have n4_ := Aside0.mk ((by rw [hg]; exact (below_size (by repeat (first | (with_reducible first | exact HB.out | apply below_alloc | apply pw_below_drewN | apply below_drew1 | refine below_set ?_ GE124.out) | exact HB.out))) : w.heap.size ≤ gb125)); have n5_ := Aside0.mk ((by rw [hg]; exact Nat.ne_of_lt (blk_lt (g := gb124) (o := .cells #[.int .u8 a0_0, .int .u32 a0_1, .int .u8 a0_2, .int .u8 a0_3] 30 (0, 0)) (by (with_reducible repeat (first | refine blk_drewN ?_ _ | refine blk_drew ?_ | refine blk_alloc ?_ _)); exact BK124.out)) : gb124 ≠ gb125)); have n6_ := Aside0.mk ((by rw [hg]; exact Nat.ne_of_gt (blk_lt (g := gb124) (o := .cells #[.int .u8 a0_0, .int .u32 a0_1, .int .u8 a0_2, .int .u8 a0_3] 30 (0, 0)) (by (with_reducible repeat (first | refine blk_drewN ?_ _ | refine blk_drew ?_ | refine blk_alloc ?_ _)); exact BK124.out)) : gb125 ≠ gb124)); clear BK124; clear HB; have BK124 := n0_; have HB := n1_; have BK125 := n2_; have GW125 := n3_; have GE125 := n4_; have NB124_125 := n5_; have NB125_124 := n6_; clear n0_ n1_ n2_ n3_ n4_ n5_ n6_; clear hb hbox hg; have hnb6 := NB124_125.out; have hnc6 := NB125_124.out; have hcz7_0 : w5.cell? ⟨gb124, 0, none⟩ = some (.int .u8 a0_0) := (blk_cell BK124.out 0).trans rfl; have hcz7_1 : w5.cell? ⟨gb124, 1, none⟩ = some (.int .u32 a0_1) := (blk_cell BK124.out 1).trans rfl; have hcz7_2 : w5.cell? ⟨gb124, 2, none⟩ = some (.int .u8 a0_2) := (blk_cell BK124.out 2).trans rfl; have hcz7_3 : w5.cell? ⟨gb124, 3, none⟩ = some (.int .u8 a0_3) := (blk_cell BK124.out 3).trans rfl; have hfz7_0 := blk_frozen BK124.out 0; have hfz7_1 := blk_frozen BK124.out 1; have hfz7_2 := blk_frozen BK124.out 2; have hfz7_3 := blk_frozen BK124.out 3) | ((with_reducible refine gate_callee (f := 20) rfl ?_); refine goesL_ (some 9) rfl rfl Try.func20 (by kernel_rfl) rfl #[.int .u8 a0_2] rfl (by (try simp only [List.map_toArray, List.map_cons, List.map_nil]); first | done | rfl | (simp only [List.length_drop, List.length_take]; rfl) | (simp; done) | (refine qa_arr ?_; (repeat' (first | rfl | refine qa_cons ?_ ?_ | refine qa_int ?_ | refine qa_agg ?_ | refine qa_arr ?_ | omega)); done)) ?_; (with_reducible refine (milestoneref07_Prefix.calls k a0_2 t126 t127 _ A3.out).mono ?_); rintro e w8 ⟨rfl, hb⟩; refine ⟨_, rfl, ?_⟩; have n0_ := Aside0.mk (blk_below (g := gb124) (o := .cells #[.int .u8 a0_0, .int .u32 a0_1, .int .u8 a0_2, .int .u8 a0_3] 30 (0, 0)) (by (with_reducible repeat (first | refine blk_drewN ?_ _ | refine blk_drew ?_ | refine blk_alloc ?_ _)); exact BK124.out) hb); have n1_ := Aside0.mk (blk_below (g := gb125) (o := .cells #[.int .u32 0, .int .u8 0] 27 (0, 0)) (by (with_reducible repeat (first | refine blk_drewN ?_ _ | refine blk_drew ?_ | refine blk_alloc ?_ _)); exact BK125.out) hb); have n2_ := Aside0.mk (below_step (by repeat (first | (with_reducible first | exact HB.out | apply below_alloc | apply pw_below_drewN | apply below_drew1 | refine below_set ?_ GE124.out | refine below_set ?_ GE125.out) | exact HB.out)) hb); clear BK124; clear BK125; clear HB; have BK124 := n0_; have BK125 := n1_; have HB := n2_; clear n0_ n1_ n2_; (try clear hb); (try clear hb2); (try clear hk); (try clear hi); have hcz9_0 : w8.cell? ⟨gb125, 0, none⟩ = some (.int .u32 0) := (blk_cell BK125.out 0).trans rfl; have hcz9_1 : w8.cell? ⟨gb125, 1, none⟩ = some (.int .u8 0) := (blk_cell BK125.out 1).trans rfl; have hfz9_0 := blk_frozen BK125.out 0; have hfz9_1 := blk_frozen BK125.out 1))
    refine bodyPost_ret (results_cell_row rfl _ _ gb125 27 #[.int .u32 t126, .int .u8 t127] (0, 0) _ rfl (by (with_reducible repeat (first | refine blk_drewN ?_ _ | refine blk_drew ?_ | refine blk_alloc ?_ _)); refine blk_put (cs := #[.int .u32 t126, .int .u8 0]) ?_ 1 _ rfl; (with_reducible repeat (first | refine blk_drewN ?_ _ | refine blk_drew ?_ | refine blk_alloc ?_ _)); refine blk_put (cs := #[.int .u32 0, .int .u8 0]) ?_ 0 _ rfl; (with_reducible repeat (first | refine blk_drewN ?_ _ | refine blk_drew ?_ | refine blk_alloc ?_ _)); exact BK125.out) Try.underlying27 rfl (by kernel_rfl)) rfl ?_
    exact ⟨by first | rfl | (simp [errW_none, errW_some] <;> rfl) | (simp [*, errW_none, errW_some] <;> rfl), by repeat (first | (with_reducible first | exact HB.out | apply below_alloc | apply pw_below_drewN | apply below_drew1 | refine below_set ?_ GE124.out | refine below_set ?_ GE125.out) | exact HB.out)⟩
  · rw [if_neg c2] at H
    have c2b0 : ((Int.tmod a0_3 2) == 0) = false := beq_eq_false_iff_ne.mpr c2
    have c2b1 : ((Int.tmod a0_3 2) != 0) = true := bne_iff_ne.mpr c2
    replace H := Option.bind_eq_some_iff.mp H
    obtain ⟨⟨t128, t129⟩, A100, H⟩ := H
    replace H : (some (t128, t129)) = some (r1, r2) := H
    have A10 := Aside0.mk A100
    clear A100
    simp only [Option.some.injEq, Prod.mk.injEq] at H
    obtain ⟨rfl, rfl⟩ := H
    go_enter Try.func8, Try.ntmps8
    go_wp2_with (first | ((with_reducible refine gate_dst (N := 1) rfl ?_); refine box_event ?hg (N := 1) ?hd (cs := #[.int .u8 a0_0, .int .u32 a0_1, .int .u8 a0_2, .int .u8 a0_3]) (t := 30) ?hr ?_; (case hd => rfl); (case hg => rfl); (case hr => first | (go_simp; done) | (go_simp; rfl)); intro gb124 hg w11 hbox hb; have n0_ := Aside0.mk (below_step (by repeat (first | (with_reducible first | exact HB.out | apply below_alloc | apply pw_below_drewN | apply below_drew1) | exact HB.out)) hb); have n1_ := Aside0.mk (hbox); have n2_ := Aside0.mk ((by rw [hg]; exact (below_size (by repeat (first | (with_reducible first | exact HB.out | apply below_alloc | apply pw_below_drewN | apply below_drew1) | exact HB.out))) : w.heap.size ≤ gb124)); have n3_ := Aside0.mk ((by rw [hg]; exact (below_size (by repeat (first | (with_reducible first | exact HB.out | apply below_alloc | apply pw_below_drewN | apply below_drew1) | exact HB.out))) : w.heap.size ≤ gb124)); clear HB; have HB := n0_; have BK124 := n1_; have GW124 := n2_; have GE124 := n3_; clear n0_ n1_ n2_ n3_; clear hb hbox hg) | ((with_reducible refine gate_dst (N := 2) rfl ?_); refine box_event ?hg (N := 2) ?hd (cs := #[.int .u32 0, .int .u8 0]) (t := 27) ?hr ?_; (case hd => rfl); (case hg => rfl); (case hr => first | (go_simp; done) | (go_simp; rfl)); intro gb125 hg w12 hbox hb; have n0_ := Aside0.mk (blk_below (g := gb124) (o := .cells #[.int .u8 a0_0, .int .u32 a0_1, .int .u8 a0_2, .int .u8 a0_3] 30 (0, 0)) (by (with_reducible repeat (first | refine blk_drewN ?_ _ | refine blk_drew ?_ | refine blk_alloc ?_ _)); exact BK124.out) hb); have n1_ := Aside0.mk (below_step (by repeat (first | (with_reducible first | exact HB.out | apply below_alloc | apply pw_below_drewN | apply below_drew1 | refine below_set ?_ GE124.out) | exact HB.out)) hb); have n2_ := Aside0.mk (hbox); have n3_ := Aside0.mk ((by rw [hg]; exact (below_size (by repeat (first | (with_reducible first | exact HB.out | apply below_alloc | apply pw_below_drewN | apply below_drew1 | refine below_set ?_ GE124.out) | exact HB.out))) : w.heap.size ≤ gb125)); have n4_ := Aside0.mk ((by rw [hg]; exact (below_size (by repeat (first | (with_reducible first | exact HB.out | apply below_alloc | apply pw_below_drewN | apply below_drew1 | refine below_set ?_ GE124.out) | exact HB.out))) : w.heap.size ≤ gb125)); have n5_ := Aside0.mk ((by rw [hg]; exact Nat.ne_of_lt (blk_lt (g := gb124) (o := .cells #[.int .u8 a0_0, .int .u32 a0_1, .int .u8 a0_2, .int .u8 a0_3] 30 (0, 0)) (by (with_reducible repeat (first | refine blk_drewN ?_ _ | refine blk_drew ?_ | refine blk_alloc ?_ _)); exact BK124.out)) : gb124 ≠ gb125)); have n6_ := Aside0.mk ((by rw [hg]; exact Nat.ne_of_gt (blk_lt (g := gb124) (o := .cells #[.int .u8 a0_0, .int .u32 a0_1, .int .u8 a0_2, .int .u8 a0_3] 30 (0, 0)) (by (with_reducible repeat (first | refine blk_drewN ?_ _ | refine blk_drew ?_ | refine blk_alloc ?_ _)); exact BK124.out)) : gb125 ≠ gb124)); clear BK124; clear HB; have BK124 := n0_; have HB := n1_; have BK125 := n2_; have GW125 := n3_; have GE125 := n4_; have NB124_125 := n5_; have NB125_124 := n6_; clear n0_ n1_ n2_ n3_ n4_ n5_ n6_; clear hb hbox hg; have hnb13 := NB124_125.out; have hnc13 := NB125_124.out; have hcz14_0 : w12.cell? ⟨gb124, 0, none⟩ = some (.int .u8 a0_0) := (blk_cell BK124.out 0).trans rfl; have hcz14_1 : w12.cell? ⟨gb124, 1, none⟩ = some (.int .u32 a0_1) := (blk_cell BK124.out 1).trans rfl; have hcz14_2 : w12.cell? ⟨gb124, 2, none⟩ = some (.int .u8 a0_2) := (blk_cell BK124.out 2).trans rfl; have hcz14_3 : w12.cell? ⟨gb124, 3, none⟩ = some (.int .u8 a0_3) := (blk_cell BK124.out 3).trans rfl; have hfz14_0 := blk_frozen BK124.out 0; have hfz14_1 := blk_frozen BK124.out 1; have hfz14_2 := blk_frozen BK124.out 2; have hfz14_3 := blk_frozen BK124.out 3) | ((with_reducible refine gate_callee (f := 21) rfl ?_); refine goesL_ (some 15) rfl rfl Try.func21 (by kernel_rfl) rfl #[.int .u32 a0_1, .int .u8 (Int.tmod a0_2 34)] rfl (by (try simp only [List.map_toArray, List.map_cons, List.map_nil]); first | done | rfl | (simp only [List.length_drop, List.length_take]; rfl) | (simp; done) | (refine qa_arr ?_; (repeat' (first | rfl | refine qa_cons ?_ ?_ | refine qa_int ?_ | refine qa_agg ?_ | refine qa_arr ?_ | omega)); done)) ?_; (with_reducible refine (milestoneref01_Of.calls k a0_1 (Int.tmod a0_2 34) t128 t129 _ A10.out).mono ?_); rintro e w15 ⟨rfl, hb⟩; refine ⟨_, rfl, ?_⟩; have n0_ := Aside0.mk (blk_below (g := gb124) (o := .cells #[.int .u8 a0_0, .int .u32 a0_1, .int .u8 a0_2, .int .u8 a0_3] 30 (0, 0)) (by (with_reducible repeat (first | refine blk_drewN ?_ _ | refine blk_drew ?_ | refine blk_alloc ?_ _)); exact BK124.out) hb); have n1_ := Aside0.mk (blk_below (g := gb125) (o := .cells #[.int .u32 0, .int .u8 0] 27 (0, 0)) (by (with_reducible repeat (first | refine blk_drewN ?_ _ | refine blk_drew ?_ | refine blk_alloc ?_ _)); exact BK125.out) hb); have n2_ := Aside0.mk (below_step (by repeat (first | (with_reducible first | exact HB.out | apply below_alloc | apply pw_below_drewN | apply below_drew1 | refine below_set ?_ GE124.out | refine below_set ?_ GE125.out) | exact HB.out)) hb); clear BK124; clear BK125; clear HB; have BK124 := n0_; have BK125 := n1_; have HB := n2_; clear n0_ n1_ n2_; (try clear hb); (try clear hb2); (try clear hk); (try clear hi); have hcz16_0 : w15.cell? ⟨gb125, 0, none⟩ = some (.int .u32 0) := (blk_cell BK125.out 0).trans rfl; have hcz16_1 : w15.cell? ⟨gb125, 1, none⟩ = some (.int .u8 0) := (blk_cell BK125.out 1).trans rfl; have hfz16_0 := blk_frozen BK125.out 0; have hfz16_1 := blk_frozen BK125.out 1))
    refine bodyPost_ret (results_cell_row rfl _ _ gb125 27 #[.int .u32 t128, .int .u8 t129] (0, 0) _ rfl (by (with_reducible repeat (first | refine blk_drewN ?_ _ | refine blk_drew ?_ | refine blk_alloc ?_ _)); refine blk_put (cs := #[.int .u32 t128, .int .u8 0]) ?_ 1 _ rfl; (with_reducible repeat (first | refine blk_drewN ?_ _ | refine blk_drew ?_ | refine blk_alloc ?_ _)); refine blk_put (cs := #[.int .u32 0, .int .u8 0]) ?_ 0 _ rfl; (with_reducible repeat (first | refine blk_drewN ?_ _ | refine blk_drew ?_ | refine blk_alloc ?_ _)); exact BK125.out) Try.underlying27 rfl (by kernel_rfl)) rfl ?_
    exact ⟨by first | rfl | (simp [errW_none, errW_some] <;> rfl) | (simp [*, errW_none, errW_some] <;> rfl), by repeat (first | (with_reducible first | exact HB.out | apply below_alloc | apply pw_below_drewN | apply below_drew1 | refine below_set ?_ GE124.out | refine below_set ?_ GE125.out) | exact HB.out)⟩

/-! ### milestonelaw09_find: function 13 -/
def milestonelaw09_find.l0 : Nat → List (S33) → Int → Int → Int → Option (Int)
  | 0, _, _, _, _ => none
  | k + 1, x0, x5, x131000, x131001 => if x5 < (x0.length : Int) then (if 0 ≤ x5 then (if (((rd_T33 x0 x5).f0.f0) == x131000 && (((rd_T33 x0 x5).f0.f1) == x131001)) = true then (some x5) else (milestonelaw09_find.l0 k x0 (wrap64 (x5 + 1)) x131000 x131001)) else (none)) else (some (-1))
def milestonelaw09_find.f (k : Nat) (l0 : List (S33)) (a1_0 : Int) (a1_1 : Int) : Option (Int) := milestonelaw09_find.l0 k l0 0 a1_0 a1_1
theorem milestonelaw09_find.mono_l : ∀ k, (∀ y0 y1 y2 y3, LeO (milestonelaw09_find.l0 k y0 y1 y2 y3) (milestonelaw09_find.l0 (k + 1) y0 y1 y2 y3))
  | 0 => fun _ _ _ _ r h => by simp [milestonelaw09_find.l0] at h
  | k + 1 => by
    have ih0 := milestonelaw09_find.mono_l k
    · intro y0 y1 y2 y3
      unfold milestonelaw09_find.l0
      repeat' first
      | (with_reducible exact ih0 _ _ _ _)
      | (with_reducible exact LeO.refl _)
      | (with_reducible exact LeO.none _)
      | (with_reducible refine LeO.ite ?_ ?_)
      | (with_reducible refine LeO.bind ?_ (fun _ => ?_))
      | exact ih0 _ _ _ _
      | exact LeO.none _
      | refine LeO.ite ?_ ?_
      | refine LeO.bind ?_ (fun _ => ?_)
theorem milestonelaw09_find.mono : ∀ a0 a1 a2 k, LeO (milestonelaw09_find.f k a0 a1 a2) (milestonelaw09_find.f (k + 1) a0 a1 a2) := by
  intro a0 a1 a2 k
  have ih0 := milestonelaw09_find.mono_l k
  unfold milestonelaw09_find.f
  repeat' first
      | (with_reducible exact ih0 _ _ _ _)
      | (with_reducible exact LeO.refl _)
      | (with_reducible exact LeO.none _)
      | (with_reducible refine LeO.ite ?_ ?_)
      | (with_reducible refine LeO.bind ?_ (fun _ => ?_))
      | exact ih0 _ _ _ _
      | exact LeO.none _
      | refine LeO.ite ?_ ?_
      | refine LeO.bind ?_ (fun _ => ?_)
set_option maxHeartbeats 8000000 in
set_option maxRecDepth 100000 in
theorem milestonelaw09_find.calls (k : Nat) (A0 : Option Addr) (c0 : Nat) (l0 : List (S33)) (a1_0 : Int) (a1_1 : Int) (r : Int) (w : World) (hr0 : Kd.C k33 w A0 l0.length l0) (hc0 : l0.length ≤ c0) (h : milestonelaw09_find.f k l0 a1_0 a1_1 = some r) :
    Calls Try.prog 13 #[.slice A0 l0.length c0, .agg #[.int .u32 a1_0, .int .u8 a1_1]] w fun e w' => e = .returned (.int .i64 r) ∧ Below w.heap.size w w' := by
  have hu27 := Try.underlying27
  have HR0 := Aside0.mk hr0
  have HC0 := Aside0.mk hc0
  clear hr0 hc0
  have HB := Aside0.mk (Below.refl w.heap.size w)
  have H : (milestonelaw09_find.l0 k l0 0 a1_0 a1_1) = some r := h
  clear h
  have H' := Aside0.mk H
  clear H
  go_enter Try.func13, Try.ntmps13
  go_wp2_with (first | ((with_reducible refine gate_dst (N := 3) rfl ?_); refine box_event ?hg (N := 3) ?hd (cs := #[.int .u32 a1_0, .int .u8 a1_1]) (t := 27) ?hr ?_; (case hd => rfl); (case hg => rfl); (case hr => first | (go_simp; done) | (go_simp; rfl)); intro gb130 hg w3 hbox hb; have n0_ := Aside0.mk (below_step (by repeat (first | (with_reducible first | exact HB.out | apply below_alloc | apply pw_below_drewN | apply below_drew1) | exact HB.out)) hb); have n1_ := Aside0.mk (hbox); have n2_ := Aside0.mk ((by rw [hg]; exact (below_size (by repeat (first | (with_reducible first | exact HB.out | apply below_alloc | apply pw_below_drewN | apply below_drew1) | exact HB.out))) : w.heap.size ≤ gb130)); have n3_ := Aside0.mk ((by rw [hg]; exact (below_size (by repeat (first | (with_reducible first | exact HB.out | apply below_alloc | apply pw_below_drewN | apply below_drew1) | exact HB.out))) : w.heap.size ≤ gb130)); clear HB; have HB := n0_; have BK130 := n1_; have GW130 := n2_; have GE130 := n3_; clear n0_ n1_ n2_ n3_; clear hb hbox hg))
  repeat (go_quiet (first | ((with_reducible refine gate_dst (N := 3) rfl ?_); refine box_event ?hg (N := 3) ?hd (cs := #[.int .u32 a1_0, .int .u8 a1_1]) (t := 27) ?hr ?_; (case hd => rfl); (case hg => rfl); (case hr => first | (go_simp; done) | (go_simp; rfl)); intro gb130 hg w3 hbox hb; have n0_ := Aside0.mk (below_step (by repeat (first | (with_reducible first | exact HB.out | apply below_alloc | apply pw_below_drewN | apply below_drew1) | exact HB.out)) hb); have n1_ := Aside0.mk (hbox); have n2_ := Aside0.mk ((by rw [hg]; exact (below_size (by repeat (first | (with_reducible first | exact HB.out | apply below_alloc | apply pw_below_drewN | apply below_drew1) | exact HB.out))) : w.heap.size ≤ gb130)); have n3_ := Aside0.mk ((by rw [hg]; exact (below_size (by repeat (first | (with_reducible first | exact HB.out | apply below_alloc | apply pw_below_drewN | apply below_drew1) | exact HB.out))) : w.heap.size ≤ gb130)); clear HB; have HB := n0_; have BK130 := n1_; have GW130 := n2_; have GE130 := n3_; clear n0_ n1_ n2_ n3_; clear hb hbox hg)); try go_wp2_with (first | ((with_reducible refine gate_dst (N := 3) rfl ?_); refine box_event ?hg (N := 3) ?hd (cs := #[.int .u32 a1_0, .int .u8 a1_1]) (t := 27) ?hr ?_; (case hd => rfl); (case hg => rfl); (case hr => first | (go_simp; done) | (go_simp; rfl)); intro gb130 hg w3 hbox hb; have n0_ := Aside0.mk (below_step (by repeat (first | (with_reducible first | exact HB.out | apply below_alloc | apply pw_below_drewN | apply below_drew1) | exact HB.out)) hb); have n1_ := Aside0.mk (hbox); have n2_ := Aside0.mk ((by rw [hg]; exact (below_size (by repeat (first | (with_reducible first | exact HB.out | apply below_alloc | apply pw_below_drewN | apply below_drew1) | exact HB.out))) : w.heap.size ≤ gb130)); have n3_ := Aside0.mk ((by rw [hg]; exact (below_size (by repeat (first | (with_reducible first | exact HB.out | apply below_alloc | apply pw_below_drewN | apply below_drew1) | exact HB.out))) : w.heap.size ≤ gb130)); clear HB; have HB := n0_; have BK130 := n1_; have GW130 := n2_; have GE130 := n3_; clear n0_ n1_ n2_ n3_; clear hb hbox hg)))
  go_loopg [5] k (fun kq v5 w' => ∃ (x5_1 : Int), v5 = .int .i64 x5_1 ∧ Aside0 (milestonelaw09_find.l0 kq l0 x5_1 a1_0 a1_1 = some r) ∧ Aside0 (kq ≤ k) ∧ Aside0 (w'.heap[gb130]? = some (.cells #[.int .u32 a1_0, .int .u8 a1_1] 27 (0, 0))) ∧ Aside0 (Below w.heap.size w w'))
  case atStart => exact ⟨(0), (by first | rfl | (simp; done) | (simp [*]; done) | (refine qa_int ?_; omega) | (refine qa_int ?_; simp <;> omega)), H', ⟨Nat.le_refl _⟩, ⟨by (with_reducible repeat (first | refine blk_drewN ?_ _ | refine blk_drew ?_ | refine blk_alloc ?_ _)); exact BK130.out⟩, ⟨by repeat (first | (with_reducible first | exact HB.out | apply below_alloc | apply pw_below_drewN | apply below_drew1 | refine below_set ?_ GE130.out) | exact HB.out)⟩⟩
  case round =>
    clear H'
    try clear c1
    try clear p2
    obtain ⟨x5_1, rfl, HA, HK1, BK130, HB⟩ := hrel
    cases gk with
    | zero => exact absurd HA.out (by simp [milestonelaw09_find.l0])
    | succ k1 =>
      have H := HA.out
      clear HA
      simp only [milestonelaw09_find.l0] at H
      by_cases c4 : x5_1 < (l0.length : Int)
      · rw [if_pos c4] at H
        have c4b0 : decide (x5_1 < (l0.length : Int)) = true := decide_eq_true c4
        clear c4
        by_cases c5 : 0 ≤ x5_1
        · rw [if_pos c5] at H
          have c5b0 : decide (0 ≤ x5_1) = true := decide_eq_true c5
          clear c5
          by_cases c6 : (((rd_T33 l0 x5_1).f0.f0) == a1_0 && (((rd_T33 l0 x5_1).f0.f1) == a1_1)) = true
          · rw [if_pos c6] at H
            have c6b0 : (((rd_T33 l0 x5_1).f0.f0) == a1_0 && (((rd_T33 l0 x5_1).f0.f1) == a1_1)) = true := c6
            (try (have c6b1 : decide (((rd_T33 l0 x5_1).f0.f0) = a1_0 && (((rd_T33 l0 x5_1).f0.f1) == a1_1)) = true := by simpa using c6))
            (try (have c6b2 : (((rd_T33 l0 x5_1).f0.f0) == a1_0 && (((rd_T33 l0 x5_1).f0.f1) == a1_1)) = true := by simpa using c6))
            clear c6
            obtain rfl := Option.some.inj H
            simp only [Option.some.injEq, Prod.mk.injEq] at H
            obtain ⟨rfl⟩ := H
            have p131 : 0 ≤ (x5_1 : Int) := of_decide_eq_true (by first | (with_reducible assumption) | assumption)
            have q131 : x5_1 < (l0.length : Int) := of_decide_eq_true (by first | (with_reducible assumption) | assumption)
            obtain ⟨ad131, e131, hx131_0, hx131_1, hx131_2, hx131_3, hx131_4⟩ := at_T33 HR0.out x5_1 p131 q131
            cases e131
            replace hx131_0 := (HB.out.cell (World.block_lt_of_cell? w _ hx131_0)).trans hx131_0
            replace hx131_1 := (HB.out.cell (World.block_lt_of_cell? w _ hx131_1)).trans hx131_1
            replace hx131_2 := (HB.out.cell (World.block_lt_of_cell? w _ hx131_2)).trans hx131_2
            replace hx131_3 := (HB.out.cell (World.block_lt_of_cell? w _ hx131_3)).trans hx131_3
            replace hx131_4 := (HB.out.cell (World.block_lt_of_cell? w _ hx131_4)).trans hx131_4
            replace p131 := eq_true p131
            replace q131 := eq_true q131
            have hcz7_0 : wr.cell? ⟨gb130, 0, none⟩ = some (.int .u32 a1_0) := (blk_cell BK130.out 0).trans rfl
            have hcz7_1 : wr.cell? ⟨gb130, 1, none⟩ = some (.int .u8 a1_1) := (blk_cell BK130.out 1).trans rfl
            have hfz7_0 := blk_frozen BK130.out 0
            have hfz7_1 := blk_frozen BK130.out 1
            go_wp2
            repeat (go_quiet (fail); try go_wp2)
            go_ret
            exact ⟨by first | rfl | (simp [errW_none, errW_some] <;> rfl) | (simp [*, errW_none, errW_some] <;> rfl), by repeat (first | (with_reducible first | exact HB.out | apply below_alloc | apply pw_below_drewN | apply below_drew1 | refine below_set ?_ GE130.out) | exact HB.out)⟩
          · rw [if_neg c6] at H
            have c6b0 : (((rd_T33 l0 x5_1).f0.f0) == a1_0 && (((rd_T33 l0 x5_1).f0.f1) == a1_1)) = false := by simpa using c6
            (try (have c6b1 : decide (((rd_T33 l0 x5_1).f0.f0) = a1_0 && (((rd_T33 l0 x5_1).f0.f1) == a1_1)) = false := by simpa using c6))
            (try (have c6b2 : (((rd_T33 l0 x5_1).f0.f0) == a1_0 && (((rd_T33 l0 x5_1).f0.f1) == a1_1)) = false := by simpa using c6))
            (try (have c6b3 : ¬ (((rd_T33 l0 x5_1).f0.f0) = a1_0 && (((rd_T33 l0 x5_1).f0.f1) == a1_1)) := by simpa using c6))
            clear c6
            have H' := Aside0.mk H
            clear H
            have p131 : 0 ≤ (x5_1 : Int) := of_decide_eq_true (by first | (with_reducible assumption) | assumption)
            have q131 : x5_1 < (l0.length : Int) := of_decide_eq_true (by first | (with_reducible assumption) | assumption)
            obtain ⟨ad131, e131, hx131_0, hx131_1, hx131_2, hx131_3, hx131_4⟩ := at_T33 HR0.out x5_1 p131 q131
            cases e131
            replace hx131_0 := (HB.out.cell (World.block_lt_of_cell? w _ hx131_0)).trans hx131_0
            replace hx131_1 := (HB.out.cell (World.block_lt_of_cell? w _ hx131_1)).trans hx131_1
            replace hx131_2 := (HB.out.cell (World.block_lt_of_cell? w _ hx131_2)).trans hx131_2
            replace hx131_3 := (HB.out.cell (World.block_lt_of_cell? w _ hx131_3)).trans hx131_3
            replace hx131_4 := (HB.out.cell (World.block_lt_of_cell? w _ hx131_4)).trans hx131_4
            replace p131 := eq_true p131
            replace q131 := eq_true q131
            have hcz8_0 : wr.cell? ⟨gb130, 0, none⟩ = some (.int .u32 a1_0) := (blk_cell BK130.out 0).trans rfl
            have hcz8_1 : wr.cell? ⟨gb130, 1, none⟩ = some (.int .u8 a1_1) := (blk_cell BK130.out 1).trans rfl
            have hfz8_0 := blk_frozen BK130.out 0
            have hfz8_1 := blk_frozen BK130.out 1
            go_wp2
            repeat (go_quiet (fail); try go_wp2)
            go_roundg k1
            case measure => have := HK1.out; omega
            case rel => exact ⟨(wrap64 (x5_1 + 1)), (by first | rfl | (simp; done) | (simp [*]; done) | (refine qa_int ?_; omega) | (refine qa_int ?_; simp <;> omega)), H', ⟨by have := HK1.out; omega⟩, ⟨by (with_reducible repeat (first | refine blk_drewN ?_ _ | refine blk_drew ?_ | refine blk_alloc ?_ _)); exact BK130.out⟩, ⟨by repeat (first | (with_reducible first | exact HB.out | apply below_alloc | apply pw_below_drewN | apply below_drew1 | refine below_set ?_ GE130.out) | exact HB.out)⟩⟩
        · rw [if_neg c5] at H
          exact absurd H (by simp)
      · rw [if_neg c4] at H
        have c4b0 : decide (x5_1 < (l0.length : Int)) = false := decide_eq_false c4
        clear c4
        obtain rfl := Option.some.inj H
        simp only [Option.some.injEq, Prod.mk.injEq] at H
        obtain ⟨rfl⟩ := H
        go_wp2
        repeat (go_quiet (fail); try go_wp2)
        go_ret
        exact ⟨by first | rfl | (simp [errW_none, errW_some] <;> rfl) | (simp [*, errW_none, errW_some] <;> rfl), by repeat (first | (with_reducible first | exact HB.out | apply below_alloc | apply pw_below_drewN | apply below_drew1 | refine below_set ?_ GE130.out) | exact HB.out)⟩

/-! ### trie_drop: function 25 -/
set_option maxHeartbeats 8000000 in
set_option maxRecDepth 100000 in
theorem trie_drop.calls (a1_0 a1_1 : Int) (h0 : 0 ≤ a1_1) (hle : a1_1 ≤ 32) (w0 : World) : ∀ (m : Nat) (at_ : Nat) (h : Nat) (x : Option Int) (o : Option S33) (a b : Tr S33) (bs : List Nat) (w : World), at_ + m = a1_1.toNat → Nod w h x o a b bs → (h :: bs).Nodup → (∀ k ∈ h :: bs, w0.heap.size ≤ k) → Below w0.heap.size w0 w →
    Calls Try.prog 25 #[.pointer (some ⟨h, 0, none⟩), .agg #[.int .u32 a1_0, .int .u8 a1_1], .int .u8 (at_ : Int)] w fun e w' => e = .returned (.bool ((Tr.node o a b).get (pathFrom a1_0 m at_)).isSome) ∧ (∃ o' a' b' bs', (Tr.node o a b).dropC (pathFrom a1_0 m at_) = .node o' a' b' ∧ Nod w' h x o' a' b' bs' ∧ (∀ k ∈ bs', k ∈ bs) ∧ (h ∉ bs' ∧ bs'.Nodup)) ∧ Below w0.heap.size w0 w' ∧ Kb w w' (h :: bs) := by
  intro m
  induction m with
  | zero =>
    intro at_ h x o a b bs w hm hn hd hge hB
    have hu33 := Try.underlying33
    have hu44 := Try.underlying44
    have hu42 := Try.underlying42
    have hu27 := Try.underlying27
    have HB := Aside0.mk hB
    have HN := Aside0.mk hn
    have HD := Aside0.mk hd
    have HG := Aside0.mk hge
    clear hB hn hd hge
    go_enter Try.func25, Try.ntmps25
    go_upto_region 1 with ((with_reducible refine gate_dst (N := 4) rfl ?_); (try (refine gate_guard (by rfl) ?_; dsimp only)); refine box_event ?hg (N := 4) ?hd (cs := #[.int .u32 a1_0, .int .u8 a1_1]) (t := 27) ?hr ?_; (case hd => rfl); (case hg => rfl); (case hr => first | (go_simp; done) | (go_simp; rfl)); intro g4 hg w4 hbox hb; have BK4 := Aside0.mk hbox; have HB4 := Aside0.mk hb; clear hb hbox hg; have p0 : w4.cell? ⟨g4, 0, none⟩ = some (.int .u32 a1_0) := (blk_cell BK4.out 0).trans rfl; have p1 : w4.cell? ⟨g4, 1, none⟩ = some (.int .u8 a1_1) := (blk_cell BK4.out 1).trans rfl)
    obtain ⟨va, vb, ba, bb, hx, ha, hb', rfl⟩ := HN.out.frame (fun k hk => HB4.out.block k (HN.out.lt k hk))
    have c0 : w4.cell? ⟨h, 0, none⟩ = some (.bool o.isSome) := hx.cell.1
    have z1 := hx.cell.2.1
    have z2 := hx.cell.2.2.1
    have z3 := hx.cell.2.2.2.1
    have z4 := hx.cell.2.2.2.2.1
    have z5 := hx.cell.2.2.2.2.2.1
    have f0 := hx.frozen 0
    have f1 := hx.frozen 1
    have f2 := hx.frozen 2
    have f3 := hx.frozen 3
    have f4 := hx.frozen 4
    have f5 := hx.frozen 5
    have q1 : ((at_ : Int) == a1_1) = true := beq_iff_eq.mpr (by omega)
    have HX := Aside0.mk hx
    have HA := Aside0.mk ha
    have HO := Aside0.mk hb'
    clear hx ha hb'
    go_wp2_with (fail)
    go_ret
    have hgh : w0.heap.size ≤ h := HG.out h List.mem_cons_self
    have hB1 := below_step HB.out HB4.out
    have hdd := List.nodup_cons.1 HD.out
    have hfr : ∀ k, k ≠ h → ((((((w4.setCell ⟨h, 0, none⟩ (.bool false)).setCell ⟨h, 1, none⟩ (.int .u32 0)).setCell ⟨h, 2, none⟩ (.int .u8 0)).setCell ⟨h, 3, none⟩ (.int .i64 0)).setCell ⟨h, 4, none⟩ (.int .u16 0)).setCell ⟨h, 5, none⟩ (.int .u16 0)).heap[k]? = w4.heap[k]? := fun k hk => by
      rw [heap_set _ _ _ _ _ hk, heap_set _ _ _ _ _ hk, heap_set _ _ _ _ _ hk, heap_set _ _ _ _ _ hk, heap_set _ _ _ _ _ hk, heap_set _ _ _ _ _ hk]
    have hmem : ∀ k, k ∈ ba ∨ k ∈ bb → k ≠ h := fun k hk e => hdd.1 (by rw [← e]; exact List.mem_append.2 hk)
    refine ⟨rfl, ⟨none, a, b, ba ++ bb, Tr.dropC_nil o a b, ⟨va, vb, ba, bb, HX.out.clear, HA.out.frame (fun k hk => hfr k (hmem k (.inl hk))), HO.out.frame (fun k hk => hfr k (hmem k (.inr hk))), rfl⟩, fun _ hk => hk, hdd⟩, below_set (below_set (below_set (below_set (below_set (below_set hB1 hgh) hgh) hgh) hgh) hgh) hgh, ?_⟩
    exact Kb.set (Kb.set (Kb.set (Kb.set (Kb.set (Kb.set (Kb.of_below HB4.out _) List.mem_cons_self _ _) List.mem_cons_self _ _) List.mem_cons_self _ _) List.mem_cons_self _ _) List.mem_cons_self _ _) List.mem_cons_self _ _
  | succ m ih =>
    intro at_ h x o a b bs w hm hn hd hge hB
    have hu33 := Try.underlying33
    have hu44 := Try.underlying44
    have hu42 := Try.underlying42
    have hu27 := Try.underlying27
    have HB := Aside0.mk hB
    have HN := Aside0.mk hn
    have HD := Aside0.mk hd
    have HG := Aside0.mk hge
    have IH := Aside0.mk ih
    clear hB hn hd hge ih
    have q1 : ((at_ : Int) == a1_1) = false := beq_eq_false_iff_ne.mpr (by omega)
    have hside := side_is a1_0 at_
    obtain ⟨bt, hbt⟩ : ∃ bt : Bool, (trie_side.f a1_0 (at_ : Int) == some 1) = bt := ⟨_, rfl⟩
    have hpath : pathFrom a1_0 (m + 1) at_ = bt :: pathFrom a1_0 m (at_ + 1) := by rw [pathFrom, hbt]
    rw [hbt] at hside
    rw [hpath]
    clear hpath hbt
    go_enter Try.func25, Try.ntmps25
    go_wp2_with ((with_reducible refine gate_dst (N := 4) rfl ?_); (try (refine gate_guard (by rfl) ?_; dsimp only)); refine box_event ?hg (N := 4) ?hd (cs := #[.int .u32 a1_0, .int .u8 a1_1]) (t := 27) ?hr ?_; (case hd => rfl); (case hg => rfl); (case hr => first | (go_simp; done) | (go_simp; rfl)); intro g4 hg w4 hbox hb; have BK4 := Aside0.mk hbox; have HB4 := Aside0.mk hb; clear hb hbox hg; have p0 : w4.cell? ⟨g4, 0, none⟩ = some (.int .u32 a1_0) := (blk_cell BK4.out 0).trans rfl; have p1 : w4.cell? ⟨g4, 1, none⟩ = some (.int .u8 a1_1) := (blk_cell BK4.out 1).trans rfl)
    refine (trie_side.calls a1_0 (at_ : Int) _ _ hside).mono ?_
    rintro e w5 ⟨rfl, hdr⟩
    have hb := hdr.below
    have HB5 := Aside0.mk (below_step HB4.out hb)
    have BK5 := Aside0.mk (blk_below BK4.out hb)
    clear hb hdr p0 p1 BK4 HB4 hside
    have p0 : w5.cell? ⟨g4, 0, none⟩ = some (.int .u32 a1_0) := (blk_cell BK5.out 0).trans rfl
    have p1 : w5.cell? ⟨g4, 1, none⟩ = some (.int .u8 a1_1) := (blk_cell BK5.out 1).trans rfl
    obtain ⟨va, vb, ba, bb, hx, ha, hb', rfl⟩ := HN.out.frame (fun k hk => HB5.out.block k (HN.out.lt k hk))
    clear HN
    cases bt
    · cases a with
      | nil =>
        obtain ⟨rfl, rfl⟩ : va = .pointer none ∧ ba = [] := ha
        have c6 : w5.cell? ⟨h, 6, none⟩ = some (.pointer none) := hx.cell.2.2.2.2.2.2.1
        have HX := Aside0.mk hx
        have HO := Aside0.mk hb'
        clear hx hb'
        have hg0 : (Tr.node o Tr.nil b).get (false :: pathFrom a1_0 m (at_ + 1)) = none := Tr.get_nil (pathFrom a1_0 m (at_ + 1))
        go_wp2_with (fail)
        go_ret
        exact ⟨by rw [hg0]; rfl, ⟨o, _, _, _, Tr.dropC_no hg0, ⟨_, _, _, _, HX.out, ⟨rfl, rfl⟩, HO.out, rfl⟩, fun _ hk => hk, List.nodup_cons.1 HD.out⟩, below_step HB.out HB5.out, Kb.of_below HB5.out _⟩
      | node o2 a2 b2 =>
        obtain ⟨h2, va2, vb2, ba2, bb2, rfl, hx2, ha2, hb2, rfl⟩ := ha
        have c6 : w5.cell? ⟨h, 6, none⟩ = some (.pointer (some ⟨h2, 0, none⟩)) := hx.cell.2.2.2.2.2.2.1
        have HX := Aside0.mk hx
        have HO := Aside0.mk hb'
        have HY := Aside0.mk (show Nod w5 h2 none o2 a2 b2 (ba2 ++ bb2) from ⟨va2, vb2, ba2, bb2, hx2, ha2, hb2, rfl⟩)
        clear hx hx2 ha2 hb2 hb'
        go_wp2_with (fail)
        have hsubs : ∀ k, k ∈ h2 :: (ba2 ++ bb2) → k ∈ h :: ((h2 :: (ba2 ++ bb2)) ++ bb) := fun k hk => List.mem_cons_of_mem _ (List.mem_append_left _ hk)
        have hd2 : (h2 :: (ba2 ++ bb2)).Nodup := by have h1 := (List.nodup_cons.1 HD.out).2; rw [List.nodup_append] at h1; exact h1.1
        have IH1 := IH.out (at_ + 1) h2 none o2 a2 b2 (ba2 ++ bb2) w5 (by omega) HY.out hd2 (fun k hk => HG.out k (hsubs k hk)) (below_step HB.out HB5.out)
        have hc : (((at_ + 1 : Nat)) : Int) = (at_ : Int) + 1 := by omega
        rw [hc] at IH1
        refine IH1.mono ?_
        rintro e w6 ⟨rfl, ⟨o3, a3, b3, bs3, he3, hn3, hsub3, hnd3⟩, hB6, hK6⟩
        obtain ⟨hA, hC⟩ := nod_left HX.out HO.out HD.out hK6 hn3 hsub3 hnd3
        have HK6 := Aside0.mk ((Kb.of_below HB5.out _).trans hK6 hsubs)
        have HB6 := Aside0.mk hB6
        have hx6 := hn3
        obtain ⟨va3, vb3, ba3, bb3, hx6, ha3, hb3, _⟩ := hx6
        have hgx : (Tr.node o (Tr.node o2 a2 b2) b).get (false :: pathFrom a1_0 m (at_ + 1)) = (Tr.node o2 a2 b2).get (pathFrom a1_0 m (at_ + 1)) := rfl
        cases hget : ((Tr.node o2 a2 b2).get (pathFrom a1_0 m (at_ + 1))).isSome
        · have hgn : (Tr.node o2 a2 b2).get (pathFrom a1_0 m (at_ + 1)) = none := by simpa using hget
          rw [Tr.dropC_no hgn] at he3
          injection he3 with e1 e2 e3
          subst e1 e2 e3
          go_wp2_with (fail)
          go_ret
          obtain ⟨bs', hA1, hA2⟩ := hA
          exact ⟨by rw [hgx, hget]; rfl, ⟨_, _, _, bs', Tr.dropC_no (hgx.trans hgn), hA1, hA2⟩, HB6.out, HK6.out⟩
        · have hdc := Tr.dropC_left (o := o) (b := b) hget
          rw [he3] at hdc
          have HDC := Aside0.mk hdc
          clear hdc
          have c0 : w6.cell? ⟨h2, 0, none⟩ = some (.bool o3.isSome) := hx6.cell.1
          have c6 : w6.cell? ⟨h2, 6, none⟩ = some va3 := hx6.cell.2.2.2.2.2.2.1
          have c7 : w6.cell? ⟨h2, 7, none⟩ = some vb3 := hx6.cell.2.2.2.2.2.2.2
          have hxh : Nx w6 h x o _ _ := HX.out.move (hK6.2 h HX.out.lt (fun hm => (List.nodup_cons.1 HD.out).1 (List.mem_append_left _ hm)))
          have d6 := hxh.cell.2.2.2.2.2.2.1
          have y6 := hxh.frozen 6
          have HA := Aside0.mk hA
          have HC := Aside0.mk hC
          have hin : h ∈ h :: ((h2 :: (ba2 ++ bb2)) ++ bb) := List.mem_cons_self
          have hgh : w0.heap.size ≤ h := HG.out h hin
          have HNA := Aside0.mk ha3.nil_iff
          have HNB := Aside0.mk hb3.nil_iff
          clear hA hC hx6 ha3 hb3 hxh hK6 hn3 hB6
          cases o3 with
          | some r3 =>
            go_wp2_with (fail)
            go_ret
            obtain ⟨bs', hA1, hA2⟩ := HA.out
            exact ⟨by rw [hgx, hget]; rfl, ⟨_, _, _, bs', HDC.out, hA1, hA2⟩, HB6.out, HK6.out⟩
          | none =>
            rcases HNA.out with ⟨rfl, rfl⟩ | ⟨⟨k3, rfl⟩, o4, a4, b4, rfl⟩
            · rcases HNB.out with ⟨rfl, rfl⟩ | ⟨⟨k5, rfl⟩, o5, a5, b5, rfl⟩
              · have e42 := eq42 w6 none none
                go_wp2_with (fail)
                go_ret
                obtain ⟨bs', hA1, hA2⟩ := HC.out
                exact ⟨by rw [hgx, hget]; rfl, ⟨_, _, _, bs', HDC.out, hA1, hA2⟩, below_set HB6.out hgh, Kb.set HK6.out hin _ _⟩
              · have e42 := eq42 w6 none (some ⟨k5, 0, none⟩)
                go_wp2_with (fail)
                go_ret
                obtain ⟨bs', hA1, hA2⟩ := HA.out
                exact ⟨by rw [hgx, hget]; rfl, ⟨_, _, _, bs', HDC.out, hA1, hA2⟩, HB6.out, HK6.out⟩
            · have e42 : ∀ z, _ := eq42 w6 (some ⟨k3, 0, none⟩)
              rcases HNB.out with ⟨rfl, rfl⟩ | ⟨⟨k5, rfl⟩, o5, a5, b5, rfl⟩
              · have e43 := e42 none
                go_wp2_with (fail)
                go_ret
                obtain ⟨bs', hA1, hA2⟩ := HA.out
                exact ⟨by rw [hgx, hget]; rfl, ⟨_, _, _, bs', HDC.out, hA1, hA2⟩, HB6.out, HK6.out⟩
              · have e43 := e42 (some ⟨k5, 0, none⟩)
                go_wp2_with (fail)
                go_ret
                obtain ⟨bs', hA1, hA2⟩ := HA.out
                exact ⟨by rw [hgx, hget]; rfl, ⟨_, _, _, bs', HDC.out, hA1, hA2⟩, HB6.out, HK6.out⟩
    · cases b with
      | nil =>
        obtain ⟨rfl, rfl⟩ : vb = .pointer none ∧ bb = [] := hb'
        have c6 : w5.cell? ⟨h, 7, none⟩ = some (.pointer none) := hx.cell.2.2.2.2.2.2.2
        have HX := Aside0.mk hx
        have HO := Aside0.mk ha
        clear hx ha
        have hg0 : (Tr.node o a Tr.nil).get (true :: pathFrom a1_0 m (at_ + 1)) = none := Tr.get_nil (pathFrom a1_0 m (at_ + 1))
        go_wp2_with (fail)
        go_ret
        exact ⟨by rw [hg0]; rfl, ⟨o, _, _, _, Tr.dropC_no hg0, ⟨_, _, _, _, HX.out, HO.out, ⟨rfl, rfl⟩, rfl⟩, fun _ hk => hk, List.nodup_cons.1 HD.out⟩, below_step HB.out HB5.out, Kb.of_below HB5.out _⟩
      | node o2 a2 b2 =>
        obtain ⟨h2, va2, vb2, ba2, bb2, rfl, hx2, ha2, hb2, rfl⟩ := hb'
        have c6 : w5.cell? ⟨h, 7, none⟩ = some (.pointer (some ⟨h2, 0, none⟩)) := hx.cell.2.2.2.2.2.2.2
        have HX := Aside0.mk hx
        have HO := Aside0.mk ha
        have HY := Aside0.mk (show Nod w5 h2 none o2 a2 b2 (ba2 ++ bb2) from ⟨va2, vb2, ba2, bb2, hx2, ha2, hb2, rfl⟩)
        clear hx hx2 ha2 hb2 ha
        go_wp2_with (fail)
        have hsubs : ∀ k, k ∈ h2 :: (ba2 ++ bb2) → k ∈ h :: (ba ++ (h2 :: (ba2 ++ bb2))) := fun k hk => List.mem_cons_of_mem _ (List.mem_append_right _ hk)
        have hd2 : (h2 :: (ba2 ++ bb2)).Nodup := by have h1 := (List.nodup_cons.1 HD.out).2; rw [List.nodup_append] at h1; exact h1.2.1
        have IH1 := IH.out (at_ + 1) h2 none o2 a2 b2 (ba2 ++ bb2) w5 (by omega) HY.out hd2 (fun k hk => HG.out k (hsubs k hk)) (below_step HB.out HB5.out)
        have hc : (((at_ + 1 : Nat)) : Int) = (at_ : Int) + 1 := by omega
        rw [hc] at IH1
        refine IH1.mono ?_
        rintro e w6 ⟨rfl, ⟨o3, a3, b3, bs3, he3, hn3, hsub3, hnd3⟩, hB6, hK6⟩
        obtain ⟨hA, hC⟩ := nod_right HX.out HO.out HD.out hK6 hn3 hsub3 hnd3
        have HK6 := Aside0.mk ((Kb.of_below HB5.out _).trans hK6 hsubs)
        have HB6 := Aside0.mk hB6
        have hx6 := hn3
        obtain ⟨va3, vb3, ba3, bb3, hx6, ha3, hb3, _⟩ := hx6
        have hgx : (Tr.node o a (Tr.node o2 a2 b2)).get (true :: pathFrom a1_0 m (at_ + 1)) = (Tr.node o2 a2 b2).get (pathFrom a1_0 m (at_ + 1)) := rfl
        cases hget : ((Tr.node o2 a2 b2).get (pathFrom a1_0 m (at_ + 1))).isSome
        · have hgn : (Tr.node o2 a2 b2).get (pathFrom a1_0 m (at_ + 1)) = none := by simpa using hget
          rw [Tr.dropC_no hgn] at he3
          injection he3 with e1 e2 e3
          subst e1 e2 e3
          go_wp2_with (fail)
          go_ret
          obtain ⟨bs', hA1, hA2⟩ := hA
          exact ⟨by rw [hgx, hget]; rfl, ⟨_, _, _, bs', Tr.dropC_no (hgx.trans hgn), hA1, hA2⟩, HB6.out, HK6.out⟩
        · have hdc := Tr.dropC_right (o := o) (a := a) hget
          rw [he3] at hdc
          have HDC := Aside0.mk hdc
          clear hdc
          have c0 : w6.cell? ⟨h2, 0, none⟩ = some (.bool o3.isSome) := hx6.cell.1
          have c6 : w6.cell? ⟨h2, 6, none⟩ = some va3 := hx6.cell.2.2.2.2.2.2.1
          have c7 : w6.cell? ⟨h2, 7, none⟩ = some vb3 := hx6.cell.2.2.2.2.2.2.2
          have hxh : Nx w6 h x o _ _ := HX.out.move (hK6.2 h HX.out.lt (fun hm => (List.nodup_cons.1 HD.out).1 (List.mem_append_right _ hm)))
          have d6 := hxh.cell.2.2.2.2.2.2.2
          have y6 := hxh.frozen 7
          have HA := Aside0.mk hA
          have HC := Aside0.mk hC
          have hin : h ∈ h :: (ba ++ (h2 :: (ba2 ++ bb2))) := List.mem_cons_self
          have hgh : w0.heap.size ≤ h := HG.out h hin
          have HNA := Aside0.mk ha3.nil_iff
          have HNB := Aside0.mk hb3.nil_iff
          clear hA hC hx6 ha3 hb3 hxh hK6 hn3 hB6
          cases o3 with
          | some r3 =>
            go_wp2_with (fail)
            go_ret
            obtain ⟨bs', hA1, hA2⟩ := HA.out
            exact ⟨by rw [hgx, hget]; rfl, ⟨_, _, _, bs', HDC.out, hA1, hA2⟩, HB6.out, HK6.out⟩
          | none =>
            rcases HNA.out with ⟨rfl, rfl⟩ | ⟨⟨k3, rfl⟩, o4, a4, b4, rfl⟩
            · rcases HNB.out with ⟨rfl, rfl⟩ | ⟨⟨k5, rfl⟩, o5, a5, b5, rfl⟩
              · have e42 := eq42 w6 none none
                go_wp2_with (fail)
                go_ret
                obtain ⟨bs', hA1, hA2⟩ := HC.out
                exact ⟨by rw [hgx, hget]; rfl, ⟨_, _, _, bs', HDC.out, hA1, hA2⟩, below_set HB6.out hgh, Kb.set HK6.out hin _ _⟩
              · have e42 := eq42 w6 none (some ⟨k5, 0, none⟩)
                go_wp2_with (fail)
                go_ret
                obtain ⟨bs', hA1, hA2⟩ := HA.out
                exact ⟨by rw [hgx, hget]; rfl, ⟨_, _, _, bs', HDC.out, hA1, hA2⟩, HB6.out, HK6.out⟩
            · have e42 : ∀ z, _ := eq42 w6 (some ⟨k3, 0, none⟩)
              rcases HNB.out with ⟨rfl, rfl⟩ | ⟨⟨k5, rfl⟩, o5, a5, b5, rfl⟩
              · have e43 := e42 none
                go_wp2_with (fail)
                go_ret
                obtain ⟨bs', hA1, hA2⟩ := HA.out
                exact ⟨by rw [hgx, hget]; rfl, ⟨_, _, _, bs', HDC.out, hA1, hA2⟩, HB6.out, HK6.out⟩
              · have e43 := e42 (some ⟨k5, 0, none⟩)
                go_wp2_with (fail)
                go_ret
                obtain ⟨bs', hA1, hA2⟩ := HA.out
                exact ⟨by rw [hgx, hget]; rfl, ⟨_, _, _, bs', HDC.out, hA1, hA2⟩, HB6.out, HK6.out⟩

end Go.Proofs.Ytbmiifhmgfhidaa.QTriePlays
