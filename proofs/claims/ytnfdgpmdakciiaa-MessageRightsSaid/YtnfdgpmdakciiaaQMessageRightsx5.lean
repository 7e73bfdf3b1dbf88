-- Lines by a program of this session, for this claim.
import Derived.Test.YtnfdgpmdakciiaaQMessageRightsx0
import Derived.Test.YtnfdgpmdakciiaaQMessageRightsx1
import Derived.Test.YtnfdgpmdakciiaaQMessageRightsx4
namespace Go.Proofs.Ytnfdgpmdakciiaa.QMessageRights
open Go.RowKit Go.Proofs.YtnfdgpmdakciiaaW.PrintWords Go.Proofs.YtnfdgpmdakciiaaW.PrintLast Go.Proofs.YtnfdgpmdakciiaaW.PrintMore
attribute [local go_sem] max2_int min2_int max_two min_two max_three min_three max_four min_four   -- for this text's walks alone
set_option linter.unusedVariables false
set_option linter.unusedSimpArgs false

attribute [local go_sem high] eqA28
/-! ### milestonelaw13_right: function 10 -/
def milestonelaw13_right.j0 : Nat → Bool → Int → Int → Int → Int → Int → Int → Int → Option (Bool)
 | 0, _, _, _, _, _, _, _, _ => none
 | k + 1, x3, x161000, x161001, x161002, x161003, x161004, x161005, x161006 => if x161000 = 1 then (some (x161000 == 1 && (x161001 == (Int.tmod x161001 4294967296) && (x161002 == 0 && ((x161003 == 0 && (x161004 == 0)) && (x161005 == 0 && (x161006 == 0))))))) else (if x161000 = 2 then (if x3 = true then (some (x161000 == 2 && (x161001 == 0 && ((x161003 == 0 && (x161004 == 0)) && (x161005 == 0))))) else (some false)) else (if x161000 = 3 then (if x3 = true then ((milestoneref01_Right.f k x161003 x161004).bind fun t161 => (if t161 = true then (some (x161001 == 0)) else (some false))) else (some false)) else (if x161000 = 4 then ((milestoneref01_Right.f k x161003 x161004).bind fun t162 => (if t162 = true then (if x161001 ≤ 64 then (if x161002 = 0 then (some (x161006 == 0)) else (some false)) else (some false)) else (some false))) else (some false))))
def milestonelaw13_right.f (k : Nat) (a0_0 : Int) (a0_1 : Int) (a0_2 : Int) (a0_3 : Int) (a0_4 : Int) (a0_5 : Int) (a0_6 : Int) : Option (Bool) := if a0_2 ≥ 0 then (milestonelaw13_right.j0 k (decide (a0_2 < 16)) a0_0 a0_1 a0_2 a0_3 a0_4 a0_5 a0_6) else (milestonelaw13_right.j0 k false a0_0 a0_1 a0_2 a0_3 a0_4 a0_5 a0_6)
theorem milestonelaw13_right.mono_l : ∀ k, (∀ y0 y1 y2 y3 y4 y5 y6 y7, LeO (milestonelaw13_right.j0 k y0 y1 y2 y3 y4 y5 y6 y7) (milestonelaw13_right.j0 (k + 1) y0 y1 y2 y3 y4 y5 y6 y7))
 | 0 => fun _ _ _ _ _ _ _ _ r h => by simp [milestonelaw13_right.j0] at h
 | k + 1 => by
  have ih0 := milestonelaw13_right.mono_l k
  · intro y0 y1 y2 y3 y4 y5 y6 y7
    unfold milestonelaw13_right.j0
    repeat' first
    | (with_reducible exact ih0 _ _ _ _ _ _ _ _)
    | (with_reducible exact milestoneref01_Right.mono _ _ _)
    | (with_reducible exact LeO.refl _)
    | (with_reducible exact LeO.none _)
    | (with_reducible refine LeO.ite ?_ ?_)
    | (with_reducible refine LeO.bind ?_ (fun _ => ?_))
    | exact ih0 _ _ _ _ _ _ _ _
    | exact milestoneref01_Right.mono _ _ _
    | exact LeO.none _
    | refine LeO.ite ?_ ?_
    | refine LeO.bind ?_ (fun _ => ?_)
theorem milestonelaw13_right.mono : ∀ a0 a1 a2 a3 a4 a5 a6 k, LeO (milestonelaw13_right.f k a0 a1 a2 a3 a4 a5 a6) (milestonelaw13_right.f (k + 1) a0 a1 a2 a3 a4 a5 a6) := by
 intro a0 a1 a2 a3 a4 a5 a6 k
 have ih0 := milestonelaw13_right.mono_l k
 unfold milestonelaw13_right.f
 repeat' first
  | (with_reducible exact ih0 _ _ _ _ _ _ _ _)
  | (with_reducible exact milestoneref01_Right.mono _ _ _)
  | (with_reducible exact LeO.refl _)
  | (with_reducible exact LeO.none _)
  | (with_reducible refine LeO.ite ?_ ?_)
  | (with_reducible refine LeO.bind ?_ (fun _ => ?_))
  | exact ih0 _ _ _ _ _ _ _ _
  | exact milestoneref01_Right.mono _ _ _
  | exact LeO.none _
  | refine LeO.ite ?_ ?_
  | refine LeO.bind ?_ (fun _ => ?_)
set_option maxHeartbeats 8000000 in
set_option maxRecDepth 100000 in
theorem milestonelaw13_right.calls (k : Nat) (a0_0 : Int) (a0_1 : Int) (a0_2 : Int) (a0_3 : Int) (a0_4 : Int) (a0_5 : Int) (a0_6 : Int) (r : Bool) (w : World) (h : milestonelaw13_right.f k a0_0 a0_1 a0_2 a0_3 a0_4 a0_5 a0_6 = some r) :
 Calls Try.prog 10 #[.agg #[.int .u8 a0_0, .int .u64 a0_1, .int .i64 a0_2, .int .u32 a0_3, .int .u8 a0_4, .int .u16 a0_5, .int .u16 a0_6]] w fun e w' => e = .returned (.bool r) ∧ Below w.heap.size w w' := by
 have hu28 := Try.underlying28
 have hu25 := Try.underlying25
 have HB := Aside0.mk (Below.refl w.heap.size w)
 have H : (if a0_2 ≥ 0 then (milestonelaw13_right.j0 k (decide (a0_2 < 16)) a0_0 a0_1 a0_2 a0_3 a0_4 a0_5 a0_6) else (milestonelaw13_right.j0 k false a0_0 a0_1 a0_2 a0_3 a0_4 a0_5 a0_6)) = some r := h
 clear h
 have HC2 := Aside0.mk H
 clear H
 go_enter Try.func10, Try.ntmps10
 go_upto_region 1 with (first | ((with_reducible refine gate_dst (N := 1) rfl ?_); refine box_event ?hg (N := 1) ?hd (cs := #[.int .u8 a0_0, .int .u64 a0_1, .int .i64 a0_2, .int .u32 a0_3, .int .u8 a0_4, .int .u16 a0_5, .int .u16 a0_6]) (t := 28) ?hr ?_; (case hd => rfl); (case hg => rfl); (case hr => first | (go_simp; done)); intro gb160 hg w3 hbox hb; have n0_ := Aside0.mk (below_step (by repeat (first | (with_reducible first | exact HB.out | apply below_drew1))) hb); have n1_ := Aside0.mk (hbox); have n2_ := Aside0.mk ((by rw [hg]; exact (below_size (by repeat (first | (with_reducible first | exact HB.out | apply below_drew1)))) : w.heap.size ≤ gb160)); have n3_ := Aside0.mk ((by rw [hg]; exact (below_size (by repeat (first | (with_reducible first | exact HB.out | apply below_drew1)))) : w.heap.size ≤ gb160)); clear HB; have HB := n0_; have BK160 := n1_; have GW160 := n2_; have GE160 := n3_; clear n0_ n1_ n2_ n3_; clear hb hbox hg))
 (try simp only [Act.put, List.setIfInBounds_toArray, List.set_cons_zero, List.set_cons_succ])
 go_cut [3] (fun v3 wc => ∃ (kq : Nat) (x3_1 : Bool), v3 = .bool x3_1 ∧ Aside0 (milestonelaw13_right.j0 kq x3_1 a0_0 a0_1 a0_2 a0_3 a0_4 a0_5 a0_6 = some r) ∧ Aside0 (kq ≤ k) ∧ Aside0 (wc.heap[gb160]? = some (.cells #[.int .u8 a0_0, .int .u64 a0_1, .int .i64 a0_2, .int .u32 a0_3, .int .u8 a0_4, .int .u16 a0_5, .int .u16 a0_6] 28 (0, 0))) ∧ Aside0 (Below w.heap.size w wc))
 case first =>
  have H := HC2.out
  clear HC2
  by_cases c4 : a0_2 ≥ 0
  · rw [if_pos c4] at H
    have c4b0 : decide (0 ≤ a0_2) = true := decide_eq_true c4
    clear c4
    (first | skip)
    have H' := Aside0.mk H
    clear H
    have hcz5_0 : w3.cell? ⟨gb160, 0, none⟩ = some (.int .u8 a0_0) := (blk_cell BK160.out 0).trans rfl
    have hcz5_1 : w3.cell? ⟨gb160, 1, none⟩ = some (.int .u64 a0_1) := (blk_cell BK160.out 1).trans rfl
    have hcz5_2 : w3.cell? ⟨gb160, 2, none⟩ = some (.int .i64 a0_2) := (blk_cell BK160.out 2).trans rfl
    have hcz5_3 : w3.cell? ⟨gb160, 3, none⟩ = some (.int .u32 a0_3) := (blk_cell BK160.out 3).trans rfl
    have hcz5_4 : w3.cell? ⟨gb160, 4, none⟩ = some (.int .u8 a0_4) := (blk_cell BK160.out 4).trans rfl
    have hcz5_5 : w3.cell? ⟨gb160, 5, none⟩ = some (.int .u16 a0_5) := (blk_cell BK160.out 5).trans rfl
    have hcz5_6 : w3.cell? ⟨gb160, 6, none⟩ = some (.int .u16 a0_6) := (blk_cell BK160.out 6).trans rfl
    have hfz5_0 := blk_frozen BK160.out 0
    have hfz5_1 := blk_frozen BK160.out 1
    have hfz5_2 := blk_frozen BK160.out 2
    have hfz5_3 := blk_frozen BK160.out 3
    have hfz5_4 := blk_frozen BK160.out 4
    have hfz5_5 := blk_frozen BK160.out 5
    have hfz5_6 := blk_frozen BK160.out 6
    go_wp2
    go_meet
    case rel => exact ⟨_, (decide (a0_2 < 16)), (by first | rfl | (refine qa_int ?_; simp <;> omega)), H', ⟨by first | omega⟩, ⟨by exact BK160.out⟩, ⟨by repeat (first | (with_reducible first | exact HB.out | refine below_set ?_ GE160.out))⟩⟩
  · rw [if_neg c4] at H
    have c4b0 : decide (0 ≤ a0_2) = false := decide_eq_false c4
    clear c4
    (first | skip)
    have H' := Aside0.mk H
    clear H
    have hcz6_0 : w3.cell? ⟨gb160, 0, none⟩ = some (.int .u8 a0_0) := (blk_cell BK160.out 0).trans rfl
    have hcz6_1 : w3.cell? ⟨gb160, 1, none⟩ = some (.int .u64 a0_1) := (blk_cell BK160.out 1).trans rfl
    have hcz6_2 : w3.cell? ⟨gb160, 2, none⟩ = some (.int .i64 a0_2) := (blk_cell BK160.out 2).trans rfl
    have hcz6_3 : w3.cell? ⟨gb160, 3, none⟩ = some (.int .u32 a0_3) := (blk_cell BK160.out 3).trans rfl
    have hcz6_4 : w3.cell? ⟨gb160, 4, none⟩ = some (.int .u8 a0_4) := (blk_cell BK160.out 4).trans rfl
    have hcz6_5 : w3.cell? ⟨gb160, 5, none⟩ = some (.int .u16 a0_5) := (blk_cell BK160.out 5).trans rfl
    have hcz6_6 : w3.cell? ⟨gb160, 6, none⟩ = some (.int .u16 a0_6) := (blk_cell BK160.out 6).trans rfl
    have hfz6_0 := blk_frozen BK160.out 0
    have hfz6_1 := blk_frozen BK160.out 1
    have hfz6_2 := blk_frozen BK160.out 2
    have hfz6_3 := blk_frozen BK160.out 3
    have hfz6_4 := blk_frozen BK160.out 4
    have hfz6_5 := blk_frozen BK160.out 5
    have hfz6_6 := blk_frozen BK160.out 6
    go_wp2
    go_meet
    case rel => exact ⟨_, (false), (by first | rfl | (refine qa_int ?_; simp <;> omega)), H', ⟨by first | omega⟩, ⟨by exact BK160.out⟩, ⟨by repeat (first | (with_reducible first | exact HB.out | refine below_set ?_ GE160.out))⟩⟩
 case rest =>
  clear HC2
  try clear c1
  try clear p2
  try clear c4
  try clear c4b0
  try clear hcz5_0
  try clear hcz5_1
  try clear hcz5_2
  try clear hcz5_3
  try clear hcz5_4
  try clear hcz5_5
  try clear hcz5_6
  try clear hcz6_0
  try clear hcz6_1
  try clear hcz6_2
  try clear hcz6_3
  try clear hcz6_4
  try clear hcz6_5
  try clear hcz6_6
  try clear hfz5_0
  try clear hfz5_1
  try clear hfz5_2
  try clear hfz5_3
  try clear hfz5_4
  try clear hfz5_5
  try clear hfz5_6
  try clear hfz6_0
  try clear hfz6_1
  try clear hfz6_2
  try clear hfz6_3
  try clear hfz6_4
  try clear hfz6_5
  try clear hfz6_6
  obtain ⟨kq, x3_1, rfl, HA, HJ1, BK160, HB⟩ := hcut
  cases kq with
  | zero => exact absurd HA.out (by simp [milestonelaw13_right.j0])
  | succ kj1 =>
   have H := HA.out
   clear HA
   simp only [milestonelaw13_right.j0] at H
   by_cases c7 : a0_0 = 1
   · rw [if_pos c7] at H
     have c7b0 : (a0_0 == 1) = true := beq_iff_eq.mpr c7
     have c7b1 : (a0_0 != 1) = false := bne_eq_false_iff_eq.mpr c7
     clear c7
     obtain rfl := Option.some.inj H
     simp only [Option.some.injEq, Prod.mk.injEq] at H
     obtain ⟨rfl⟩ := H
     have hcz8_0 : wc.cell? ⟨gb160, 0, none⟩ = some (.int .u8 a0_0) := (blk_cell BK160.out 0).trans rfl
     have hcz8_1 : wc.cell? ⟨gb160, 1, none⟩ = some (.int .u64 a0_1) := (blk_cell BK160.out 1).trans rfl
     have hcz8_2 : wc.cell? ⟨gb160, 2, none⟩ = some (.int .i64 a0_2) := (blk_cell BK160.out 2).trans rfl
     have hcz8_3 : wc.cell? ⟨gb160, 3, none⟩ = some (.int .u32 a0_3) := (blk_cell BK160.out 3).trans rfl
     have hcz8_4 : wc.cell? ⟨gb160, 4, none⟩ = some (.int .u8 a0_4) := (blk_cell BK160.out 4).trans rfl
     have hcz8_5 : wc.cell? ⟨gb160, 5, none⟩ = some (.int .u16 a0_5) := (blk_cell BK160.out 5).trans rfl
     have hcz8_6 : wc.cell? ⟨gb160, 6, none⟩ = some (.int .u16 a0_6) := (blk_cell BK160.out 6).trans rfl
     have hfz8_0 := blk_frozen BK160.out 0
     have hfz8_1 := blk_frozen BK160.out 1
     have hfz8_2 := blk_frozen BK160.out 2
     have hfz8_3 := blk_frozen BK160.out 3
     have hfz8_4 := blk_frozen BK160.out 4
     have hfz8_5 := blk_frozen BK160.out 5
     have hfz8_6 := blk_frozen BK160.out 6
     go_wp2
     go_ret
     exact ⟨by first | (simp [*, errW_none, errW_some] <;> rfl), by repeat (first | (with_reducible first | exact HB.out | refine below_set ?_ GE160.out))⟩
   · rw [if_neg c7] at H
     have c7b0 : (a0_0 == 1) = false := beq_eq_false_iff_ne.mpr c7
     have c7b1 : (a0_0 != 1) = true := bne_iff_ne.mpr c7
     by_cases c9 : a0_0 = 2
     · rw [if_pos c9] at H
       have c9b0 : (a0_0 == 2) = true := beq_iff_eq.mpr c9
       have c9b1 : (a0_0 != 2) = false := bne_eq_false_iff_eq.mpr c9
       clear c9
       by_cases c10 : x3_1 = true
       · subst c10
         have H1 : (some (a0_0 == 2 && (a0_1 == 0 && ((a0_3 == 0 && (a0_4 == 0)) && (a0_5 == 0))))) = some r := by rw [if_pos rfl] at H; exact H
         clear H
         have H := H1
         clear H1
         obtain rfl := Option.some.inj H
         simp only [Option.some.injEq, Prod.mk.injEq] at H
         obtain ⟨rfl⟩ := H
         have hcz11_0 : wc.cell? ⟨gb160, 0, none⟩ = some (.int .u8 a0_0) := (blk_cell BK160.out 0).trans rfl
         have hcz11_1 : wc.cell? ⟨gb160, 1, none⟩ = some (.int .u64 a0_1) := (blk_cell BK160.out 1).trans rfl
         have hcz11_2 : wc.cell? ⟨gb160, 2, none⟩ = some (.int .i64 a0_2) := (blk_cell BK160.out 2).trans rfl
         have hcz11_3 : wc.cell? ⟨gb160, 3, none⟩ = some (.int .u32 a0_3) := (blk_cell BK160.out 3).trans rfl
         have hcz11_4 : wc.cell? ⟨gb160, 4, none⟩ = some (.int .u8 a0_4) := (blk_cell BK160.out 4).trans rfl
         have hcz11_5 : wc.cell? ⟨gb160, 5, none⟩ = some (.int .u16 a0_5) := (blk_cell BK160.out 5).trans rfl
         have hcz11_6 : wc.cell? ⟨gb160, 6, none⟩ = some (.int .u16 a0_6) := (blk_cell BK160.out 6).trans rfl
         have hfz11_0 := blk_frozen BK160.out 0
         have hfz11_1 := blk_frozen BK160.out 1
         have hfz11_2 := blk_frozen BK160.out 2
         have hfz11_3 := blk_frozen BK160.out 3
         have hfz11_4 := blk_frozen BK160.out 4
         have hfz11_5 := blk_frozen BK160.out 5
         have hfz11_6 := blk_frozen BK160.out 6
         go_wp2
         go_ret
         exact ⟨by first | (simp [*, errW_none, errW_some] <;> rfl), by repeat (first | (with_reducible first | exact HB.out | refine below_set ?_ GE160.out))⟩
       · replace c10 := Bool.eq_false_iff.mpr c10
         subst c10
         have H1 : (some false) = some r := by rw [if_neg (show ¬ (false = true) by decide)] at H; exact H
         clear H
         have H := H1
         clear H1
         obtain rfl := Option.some.inj H
         simp only [Option.some.injEq, Prod.mk.injEq] at H
         obtain ⟨rfl⟩ := H
         have hcz12_0 : wc.cell? ⟨gb160, 0, none⟩ = some (.int .u8 a0_0) := (blk_cell BK160.out 0).trans rfl
         have hcz12_1 : wc.cell? ⟨gb160, 1, none⟩ = some (.int .u64 a0_1) := (blk_cell BK160.out 1).trans rfl
         have hcz12_2 : wc.cell? ⟨gb160, 2, none⟩ = some (.int .i64 a0_2) := (blk_cell BK160.out 2).trans rfl
         have hcz12_3 : wc.cell? ⟨gb160, 3, none⟩ = some (.int .u32 a0_3) := (blk_cell BK160.out 3).trans rfl
         have hcz12_4 : wc.cell? ⟨gb160, 4, none⟩ = some (.int .u8 a0_4) := (blk_cell BK160.out 4).trans rfl
         have hcz12_5 : wc.cell? ⟨gb160, 5, none⟩ = some (.int .u16 a0_5) := (blk_cell BK160.out 5).trans rfl
         have hcz12_6 : wc.cell? ⟨gb160, 6, none⟩ = some (.int .u16 a0_6) := (blk_cell BK160.out 6).trans rfl
         have hfz12_0 := blk_frozen BK160.out 0
         have hfz12_1 := blk_frozen BK160.out 1
         have hfz12_2 := blk_frozen BK160.out 2
         have hfz12_3 := blk_frozen BK160.out 3
         have hfz12_4 := blk_frozen BK160.out 4
         have hfz12_5 := blk_frozen BK160.out 5
         have hfz12_6 := blk_frozen BK160.out 6
         go_wp2
         go_ret
         exact ⟨by first | rfl | (simp [*, errW_none, errW_some] <;> rfl), by repeat (first | (with_reducible first | exact HB.out | refine below_set ?_ GE160.out))⟩
     · rw [if_neg c9] at H
       have c9b0 : (a0_0 == 2) = false := beq_eq_false_iff_ne.mpr c9
       have c9b1 : (a0_0 != 2) = true := bne_iff_ne.mpr c9
       by_cases c13 : a0_0 = 3
       · rw [if_pos c13] at H
         have c13b0 : (a0_0 == 3) = true := beq_iff_eq.mpr c13
         have c13b1 : (a0_0 != 3) = false := bne_eq_false_iff_eq.mpr c13
         clear c13
         by_cases c14 : x3_1 = true
         · subst c14
           have H1 : ((milestoneref01_Right.f kj1 a0_3 a0_4).bind fun t161 => (if t161 = true then (some (a0_1 == 0)) else (some false))) = some r := by rw [if_pos rfl] at H; exact H
           clear H
           have H := H1
           clear H1
           replace H := Option.bind_eq_some_iff.mp H
           obtain ⟨t161, A150, H⟩ := H
           replace H : (if t161 = true then (some (a0_1 == 0)) else (some false)) = some r := H
           have A15 := Aside0.mk A150
           clear A150
           by_cases c16 : t161 = true
           · subst c16
             have H1 : (some (a0_1 == 0)) = some r := by rw [if_pos rfl] at H; exact H
             clear H
             have H := H1
             clear H1
             obtain rfl := Option.some.inj H
             simp only [Option.some.injEq, Prod.mk.injEq] at H
             obtain ⟨rfl⟩ := H
             have hcz17_0 : wc.cell? ⟨gb160, 0, none⟩ = some (.int .u8 a0_0) := (blk_cell BK160.out 0).trans rfl
             have hcz17_1 : wc.cell? ⟨gb160, 1, none⟩ = some (.int .u64 a0_1) := (blk_cell BK160.out 1).trans rfl
             have hcz17_2 : wc.cell? ⟨gb160, 2, none⟩ = some (.int .i64 a0_2) := (blk_cell BK160.out 2).trans rfl
             have hcz17_3 : wc.cell? ⟨gb160, 3, none⟩ = some (.int .u32 a0_3) := (blk_cell BK160.out 3).trans rfl
             have hcz17_4 : wc.cell? ⟨gb160, 4, none⟩ = some (.int .u8 a0_4) := (blk_cell BK160.out 4).trans rfl
             have hcz17_5 : wc.cell? ⟨gb160, 5, none⟩ = some (.int .u16 a0_5) := (blk_cell BK160.out 5).trans rfl
             have hcz17_6 : wc.cell? ⟨gb160, 6, none⟩ = some (.int .u16 a0_6) := (blk_cell BK160.out 6).trans rfl
             have hfz17_0 := blk_frozen BK160.out 0
             have hfz17_1 := blk_frozen BK160.out 1
             have hfz17_2 := blk_frozen BK160.out 2
             have hfz17_3 := blk_frozen BK160.out 3
             have hfz17_4 := blk_frozen BK160.out 4
             have hfz17_5 := blk_frozen BK160.out 5
             have hfz17_6 := blk_frozen BK160.out 6
             go_wp2_with (first | (go_at_call 23; (with_reducible refine (milestoneref01_Right.calls kj1 a0_3 a0_4 true _ A15.out).mono ?_); rintro e w18 ⟨rfl, hb⟩; have n0_ := Aside0.mk (blk_below (g := gb160) (o := .cells #[.int .u8 a0_0, .int .u64 a0_1, .int .i64 a0_2, .int .u32 a0_3, .int .u8 a0_4, .int .u16 a0_5, .int .u16 a0_6] 28 (0, 0)) (by exact BK160.out) hb); have n1_ := Aside0.mk (below_step (by repeat (first | (with_reducible first | exact HB.out | refine below_set ?_ GE160.out))) hb); clear BK160; clear HB; have BK160 := n0_; have HB := n1_; clear n0_ n1_; (try clear hb); (try clear hb2); (try clear hk); (try clear hi); have hcz19_0 : w18.cell? ⟨gb160, 0, none⟩ = some (.int .u8 a0_0) := (blk_cell BK160.out 0).trans rfl; have hcz19_1 : w18.cell? ⟨gb160, 1, none⟩ = some (.int .u64 a0_1) := (blk_cell BK160.out 1).trans rfl; have hcz19_2 : w18.cell? ⟨gb160, 2, none⟩ = some (.int .i64 a0_2) := (blk_cell BK160.out 2).trans rfl; have hcz19_3 : w18.cell? ⟨gb160, 3, none⟩ = some (.int .u32 a0_3) := (blk_cell BK160.out 3).trans rfl; have hcz19_4 : w18.cell? ⟨gb160, 4, none⟩ = some (.int .u8 a0_4) := (blk_cell BK160.out 4).trans rfl; have hcz19_5 : w18.cell? ⟨gb160, 5, none⟩ = some (.int .u16 a0_5) := (blk_cell BK160.out 5).trans rfl; have hcz19_6 : w18.cell? ⟨gb160, 6, none⟩ = some (.int .u16 a0_6) := (blk_cell BK160.out 6).trans rfl; have hfz19_0 := blk_frozen BK160.out 0; have hfz19_1 := blk_frozen BK160.out 1; have hfz19_2 := blk_frozen BK160.out 2; have hfz19_3 := blk_frozen BK160.out 3; have hfz19_4 := blk_frozen BK160.out 4; have hfz19_5 := blk_frozen BK160.out 5; have hfz19_6 := blk_frozen BK160.out 6))
             go_ret
             exact ⟨by first | rfl | (simp [*, errW_none, errW_some] <;> rfl), by repeat (first | (with_reducible first | exact HB.out | refine below_set ?_ GE160.out))⟩
           · replace c16 := Bool.eq_false_iff.mpr c16
             subst c16
             have H1 : (some false) = some r := by rw [if_neg (show ¬ (false = true) by decide)] at H; exact H
             clear H
             have H := H1
             clear H1
             obtain rfl := Option.some.inj H
             simp only [Option.some.injEq, Prod.mk.injEq] at H
             obtain ⟨rfl⟩ := H
             have hcz20_0 : wc.cell? ⟨gb160, 0, none⟩ = some (.int .u8 a0_0) := (blk_cell BK160.out 0).trans rfl
             have hcz20_1 : wc.cell? ⟨gb160, 1, none⟩ = some (.int .u64 a0_1) := (blk_cell BK160.out 1).trans rfl
             have hcz20_2 : wc.cell? ⟨gb160, 2, none⟩ = some (.int .i64 a0_2) := (blk_cell BK160.out 2).trans rfl
             have hcz20_3 : wc.cell? ⟨gb160, 3, none⟩ = some (.int .u32 a0_3) := (blk_cell BK160.out 3).trans rfl
             have hcz20_4 : wc.cell? ⟨gb160, 4, none⟩ = some (.int .u8 a0_4) := (blk_cell BK160.out 4).trans rfl
             have hcz20_5 : wc.cell? ⟨gb160, 5, none⟩ = some (.int .u16 a0_5) := (blk_cell BK160.out 5).trans rfl
             have hcz20_6 : wc.cell? ⟨gb160, 6, none⟩ = some (.int .u16 a0_6) := (blk_cell BK160.out 6).trans rfl
             have hfz20_0 := blk_frozen BK160.out 0
             have hfz20_1 := blk_frozen BK160.out 1
             have hfz20_2 := blk_frozen BK160.out 2
             have hfz20_3 := blk_frozen BK160.out 3
             have hfz20_4 := blk_frozen BK160.out 4
             have hfz20_5 := blk_frozen BK160.out 5
             have hfz20_6 := blk_frozen BK160.out 6
             go_wp2_with (first | (go_at_call 23; (with_reducible refine (milestoneref01_Right.calls kj1 a0_3 a0_4 false _ A15.out).mono ?_); rintro e w21 ⟨rfl, hb⟩; have n0_ := Aside0.mk (blk_below (g := gb160) (o := .cells #[.int .u8 a0_0, .int .u64 a0_1, .int .i64 a0_2, .int .u32 a0_3, .int .u8 a0_4, .int .u16 a0_5, .int .u16 a0_6] 28 (0, 0)) (by exact BK160.out) hb); have n1_ := Aside0.mk (below_step (by repeat (first | (with_reducible first | exact HB.out | refine below_set ?_ GE160.out))) hb); clear BK160; clear HB; have BK160 := n0_; have HB := n1_; clear n0_ n1_; (try clear hb); (try clear hb2); (try clear hk); (try clear hi)))
             go_ret
             exact ⟨by first | rfl | (simp [*, errW_none, errW_some] <;> rfl), by repeat (first | (with_reducible first | exact HB.out | refine below_set ?_ GE160.out))⟩
         · replace c14 := Bool.eq_false_iff.mpr c14
           subst c14
           have H1 : (some false) = some r := by rw [if_neg (show ¬ (false = true) by decide)] at H; exact H
           clear H
           have H := H1
           clear H1
           obtain rfl := Option.some.inj H
           simp only [Option.some.injEq, Prod.mk.injEq] at H
           obtain ⟨rfl⟩ := H
           have hcz22_0 : wc.cell? ⟨gb160, 0, none⟩ = some (.int .u8 a0_0) := (blk_cell BK160.out 0).trans rfl
           have hcz22_1 : wc.cell? ⟨gb160, 1, none⟩ = some (.int .u64 a0_1) := (blk_cell BK160.out 1).trans rfl
           have hcz22_2 : wc.cell? ⟨gb160, 2, none⟩ = some (.int .i64 a0_2) := (blk_cell BK160.out 2).trans rfl
           have hcz22_3 : wc.cell? ⟨gb160, 3, none⟩ = some (.int .u32 a0_3) := (blk_cell BK160.out 3).trans rfl
           have hcz22_4 : wc.cell? ⟨gb160, 4, none⟩ = some (.int .u8 a0_4) := (blk_cell BK160.out 4).trans rfl
           have hcz22_5 : wc.cell? ⟨gb160, 5, none⟩ = some (.int .u16 a0_5) := (blk_cell BK160.out 5).trans rfl
           have hcz22_6 : wc.cell? ⟨gb160, 6, none⟩ = some (.int .u16 a0_6) := (blk_cell BK160.out 6).trans rfl
           have hfz22_0 := blk_frozen BK160.out 0
           have hfz22_1 := blk_frozen BK160.out 1
           have hfz22_2 := blk_frozen BK160.out 2
           have hfz22_3 := blk_frozen BK160.out 3
           have hfz22_4 := blk_frozen BK160.out 4
           have hfz22_5 := blk_frozen BK160.out 5
           have hfz22_6 := blk_frozen BK160.out 6
           go_wp2
           go_ret
           exact ⟨by first | rfl | (simp [*, errW_none, errW_some] <;> rfl), by repeat (first | (with_reducible first | exact HB.out | refine below_set ?_ GE160.out))⟩
       · rw [if_neg c13] at H
         have c13b0 : (a0_0 == 3) = false := beq_eq_false_iff_ne.mpr c13
         have c13b1 : (a0_0 != 3) = true := bne_iff_ne.mpr c13
         by_cases c23 : a0_0 = 4
         · rw [if_pos c23] at H
           have c23b0 : (a0_0 == 4) = true := beq_iff_eq.mpr c23
           have c23b1 : (a0_0 != 4) = false := bne_eq_false_iff_eq.mpr c23
           clear c23
           replace H := Option.bind_eq_some_iff.mp H
           obtain ⟨t162, A240, H⟩ := H
           replace H : (if t162 = true then (if a0_1 ≤ 64 then (if a0_2 = 0 then (some (a0_6 == 0)) else (some false)) else (some false)) else (some false)) = some r := H
           have A24 := Aside0.mk A240
           clear A240
           by_cases c25 : t162 = true
           · subst c25
             have H1 : (if a0_1 ≤ 64 then (if a0_2 = 0 then (some (a0_6 == 0)) else (some false)) else (some false)) = some r := by rw [if_pos rfl] at H; exact H
             clear H
             have H := H1
             clear H1
             by_cases c26 : a0_1 ≤ 64
             · rw [if_pos c26] at H
               have c26b0 : decide (a0_1 ≤ 64) = true := decide_eq_true c26
               clear c26
               by_cases c27 : a0_2 = 0
               · rw [if_pos c27] at H
                 have c27b0 : (a0_2 == 0) = true := beq_iff_eq.mpr c27
                 have c27b1 : (a0_2 != 0) = false := bne_eq_false_iff_eq.mpr c27
                 clear c27
                 obtain rfl := Option.some.inj H
                 simp only [Option.some.injEq, Prod.mk.injEq] at H
                 obtain ⟨rfl⟩ := H
                 have hcz28_0 : wc.cell? ⟨gb160, 0, none⟩ = some (.int .u8 a0_0) := (blk_cell BK160.out 0).trans rfl
                 have hcz28_1 : wc.cell? ⟨gb160, 1, none⟩ = some (.int .u64 a0_1) := (blk_cell BK160.out 1).trans rfl
                 have hcz28_2 : wc.cell? ⟨gb160, 2, none⟩ = some (.int .i64 a0_2) := (blk_cell BK160.out 2).trans rfl
                 have hcz28_3 : wc.cell? ⟨gb160, 3, none⟩ = some (.int .u32 a0_3) := (blk_cell BK160.out 3).trans rfl
                 have hcz28_4 : wc.cell? ⟨gb160, 4, none⟩ = some (.int .u8 a0_4) := (blk_cell BK160.out 4).trans rfl
                 have hcz28_5 : wc.cell? ⟨gb160, 5, none⟩ = some (.int .u16 a0_5) := (blk_cell BK160.out 5).trans rfl
                 have hcz28_6 : wc.cell? ⟨gb160, 6, none⟩ = some (.int .u16 a0_6) := (blk_cell BK160.out 6).trans rfl
                 have hfz28_0 := blk_frozen BK160.out 0
                 have hfz28_1 := blk_frozen BK160.out 1
                 have hfz28_2 := blk_frozen BK160.out 2
                 have hfz28_3 := blk_frozen BK160.out 3
                 have hfz28_4 := blk_frozen BK160.out 4
                 have hfz28_5 := blk_frozen BK160.out 5
                 have hfz28_6 := blk_frozen BK160.out 6
                 go_wp2_with (first | ((with_reducible refine gate_callee (f := 23) rfl ?_); refine goesL_ (some 51) rfl rfl Try.func23 (by kernel_rfl) rfl #[.agg #[.int .u32 a0_3, .int .u8 a0_4]] rfl (by (try simp only [List.map_toArray, List.map_cons, List.map_nil]); first | rfl | (refine qa_arr ?_; (repeat' (first | rfl | refine qa_cons ?_ ?_ | refine qa_int ?_ | refine qa_agg ?_ | refine qa_arr ?_ | omega)); done)) ?_; (with_reducible refine (milestoneref01_Right.calls kj1 a0_3 a0_4 true _ A24.out).mono ?_); rintro e w29 ⟨rfl, hb⟩; refine ⟨_, rfl, ?_⟩; have n0_ := Aside0.mk (blk_below (g := gb160) (o := .cells #[.int .u8 a0_0, .int .u64 a0_1, .int .i64 a0_2, .int .u32 a0_3, .int .u8 a0_4, .int .u16 a0_5, .int .u16 a0_6] 28 (0, 0)) (by exact BK160.out) hb); have n1_ := Aside0.mk (below_step (by repeat (first | (with_reducible first | exact HB.out | refine below_set ?_ GE160.out))) hb); clear BK160; clear HB; have BK160 := n0_; have HB := n1_; clear n0_ n1_; (try clear hb); (try clear hb2); (try clear hk); (try clear hi); have hcz30_0 : w29.cell? ⟨gb160, 0, none⟩ = some (.int .u8 a0_0) := (blk_cell BK160.out 0).trans rfl; have hcz30_1 : w29.cell? ⟨gb160, 1, none⟩ = some (.int .u64 a0_1) := (blk_cell BK160.out 1).trans rfl; have hcz30_2 : w29.cell? ⟨gb160, 2, none⟩ = some (.int .i64 a0_2) := (blk_cell BK160.out 2).trans rfl; have hcz30_3 : w29.cell? ⟨gb160, 3, none⟩ = some (.int .u32 a0_3) := (blk_cell BK160.out 3).trans rfl; have hcz30_4 : w29.cell? ⟨gb160, 4, none⟩ = some (.int .u8 a0_4) := (blk_cell BK160.out 4).trans rfl; have hcz30_5 : w29.cell? ⟨gb160, 5, none⟩ = some (.int .u16 a0_5) := (blk_cell BK160.out 5).trans rfl; have hcz30_6 : w29.cell? ⟨gb160, 6, none⟩ = some (.int .u16 a0_6) := (blk_cell BK160.out 6).trans rfl; have hfz30_0 := blk_frozen BK160.out 0; have hfz30_1 := blk_frozen BK160.out 1; have hfz30_2 := blk_frozen BK160.out 2; have hfz30_3 := blk_frozen BK160.out 3; have hfz30_4 := blk_frozen BK160.out 4; have hfz30_5 := blk_frozen BK160.out 5; have hfz30_6 := blk_frozen BK160.out 6))
                 go_ret
                 exact ⟨by first | rfl | (simp [*, errW_none, errW_some] <;> rfl), by repeat (first | (with_reducible first | exact HB.out | refine below_set ?_ GE160.out))⟩
               · rw [if_neg c27] at H
                 have c27b0 : (a0_2 == 0) = false := beq_eq_false_iff_ne.mpr c27
                 have c27b1 : (a0_2 != 0) = true := bne_iff_ne.mpr c27
                 obtain rfl := Option.some.inj H
                 simp only [Option.some.injEq, Prod.mk.injEq] at H
                 obtain ⟨rfl⟩ := H
                 have hcz31_0 : wc.cell? ⟨gb160, 0, none⟩ = some (.int .u8 a0_0) := (blk_cell BK160.out 0).trans rfl
                 have hcz31_1 : wc.cell? ⟨gb160, 1, none⟩ = some (.int .u64 a0_1) := (blk_cell BK160.out 1).trans rfl
                 have hcz31_2 : wc.cell? ⟨gb160, 2, none⟩ = some (.int .i64 a0_2) := (blk_cell BK160.out 2).trans rfl
                 have hcz31_3 : wc.cell? ⟨gb160, 3, none⟩ = some (.int .u32 a0_3) := (blk_cell BK160.out 3).trans rfl
                 have hcz31_4 : wc.cell? ⟨gb160, 4, none⟩ = some (.int .u8 a0_4) := (blk_cell BK160.out 4).trans rfl
                 have hcz31_5 : wc.cell? ⟨gb160, 5, none⟩ = some (.int .u16 a0_5) := (blk_cell BK160.out 5).trans rfl
                 have hcz31_6 : wc.cell? ⟨gb160, 6, none⟩ = some (.int .u16 a0_6) := (blk_cell BK160.out 6).trans rfl
                 have hfz31_0 := blk_frozen BK160.out 0
                 have hfz31_1 := blk_frozen BK160.out 1
                 have hfz31_2 := blk_frozen BK160.out 2
                 have hfz31_3 := blk_frozen BK160.out 3
                 have hfz31_4 := blk_frozen BK160.out 4
                 have hfz31_5 := blk_frozen BK160.out 5
                 have hfz31_6 := blk_frozen BK160.out 6
                 go_wp2_with (first | ((with_reducible refine gate_callee (f := 23) rfl ?_); refine goesL_ (some 51) rfl rfl Try.func23 (by kernel_rfl) rfl #[.agg #[.int .u32 a0_3, .int .u8 a0_4]] rfl (by (try simp only [List.map_toArray, List.map_cons, List.map_nil]); first | rfl | (refine qa_arr ?_; (repeat' (first | rfl | refine qa_cons ?_ ?_ | refine qa_int ?_ | refine qa_agg ?_ | refine qa_arr ?_ | omega)); done)) ?_; (with_reducible refine (milestoneref01_Right.calls kj1 a0_3 a0_4 true _ A24.out).mono ?_); rintro e w32 ⟨rfl, hb⟩; refine ⟨_, rfl, ?_⟩; have n0_ := Aside0.mk (blk_below (g := gb160) (o := .cells #[.int .u8 a0_0, .int .u64 a0_1, .int .i64 a0_2, .int .u32 a0_3, .int .u8 a0_4, .int .u16 a0_5, .int .u16 a0_6] 28 (0, 0)) (by exact BK160.out) hb); have n1_ := Aside0.mk (below_step (by repeat (first | (with_reducible first | exact HB.out | refine below_set ?_ GE160.out))) hb); clear BK160; clear HB; have BK160 := n0_; have HB := n1_; clear n0_ n1_; (try clear hb); (try clear hb2); (try clear hk); (try clear hi); have hcz33_0 : w32.cell? ⟨gb160, 0, none⟩ = some (.int .u8 a0_0) := (blk_cell BK160.out 0).trans rfl; have hcz33_1 : w32.cell? ⟨gb160, 1, none⟩ = some (.int .u64 a0_1) := (blk_cell BK160.out 1).trans rfl; have hcz33_2 : w32.cell? ⟨gb160, 2, none⟩ = some (.int .i64 a0_2) := (blk_cell BK160.out 2).trans rfl; have hcz33_3 : w32.cell? ⟨gb160, 3, none⟩ = some (.int .u32 a0_3) := (blk_cell BK160.out 3).trans rfl; have hcz33_4 : w32.cell? ⟨gb160, 4, none⟩ = some (.int .u8 a0_4) := (blk_cell BK160.out 4).trans rfl; have hcz33_5 : w32.cell? ⟨gb160, 5, none⟩ = some (.int .u16 a0_5) := (blk_cell BK160.out 5).trans rfl; have hcz33_6 : w32.cell? ⟨gb160, 6, none⟩ = some (.int .u16 a0_6) := (blk_cell BK160.out 6).trans rfl; have hfz33_0 := blk_frozen BK160.out 0; have hfz33_1 := blk_frozen BK160.out 1; have hfz33_2 := blk_frozen BK160.out 2; have hfz33_3 := blk_frozen BK160.out 3; have hfz33_4 := blk_frozen BK160.out 4; have hfz33_5 := blk_frozen BK160.out 5; have hfz33_6 := blk_frozen BK160.out 6))
                 go_ret
                 exact ⟨by first | rfl | (simp [*, errW_none, errW_some] <;> rfl), by repeat (first | (with_reducible first | exact HB.out | refine below_set ?_ GE160.out))⟩
             · rw [if_neg c26] at H
               have c26b0 : decide (a0_1 ≤ 64) = false := decide_eq_false c26
               clear c26
               obtain rfl := Option.some.inj H
               simp only [Option.some.injEq, Prod.mk.injEq] at H
               obtain ⟨rfl⟩ := H
               have hcz34_0 : wc.cell? ⟨gb160, 0, none⟩ = some (.int .u8 a0_0) := (blk_cell BK160.out 0).trans rfl
               have hcz34_1 : wc.cell? ⟨gb160, 1, none⟩ = some (.int .u64 a0_1) := (blk_cell BK160.out 1).trans rfl
               have hcz34_2 : wc.cell? ⟨gb160, 2, none⟩ = some (.int .i64 a0_2) := (blk_cell BK160.out 2).trans rfl
               have hcz34_3 : wc.cell? ⟨gb160, 3, none⟩ = some (.int .u32 a0_3) := (blk_cell BK160.out 3).trans rfl
               have hcz34_4 : wc.cell? ⟨gb160, 4, none⟩ = some (.int .u8 a0_4) := (blk_cell BK160.out 4).trans rfl
               have hcz34_5 : wc.cell? ⟨gb160, 5, none⟩ = some (.int .u16 a0_5) := (blk_cell BK160.out 5).trans rfl
               have hcz34_6 : wc.cell? ⟨gb160, 6, none⟩ = some (.int .u16 a0_6) := (blk_cell BK160.out 6).trans rfl
               have hfz34_0 := blk_frozen BK160.out 0
               have hfz34_1 := blk_frozen BK160.out 1
               have hfz34_2 := blk_frozen BK160.out 2
               have hfz34_3 := blk_frozen BK160.out 3
               have hfz34_4 := blk_frozen BK160.out 4
               have hfz34_5 := blk_frozen BK160.out 5
               have hfz34_6 := blk_frozen BK160.out 6
               go_wp2_with (first | ((with_reducible refine gate_callee (f := 23) rfl ?_); refine goesL_ (some 51) rfl rfl Try.func23 (by kernel_rfl) rfl #[.agg #[.int .u32 a0_3, .int .u8 a0_4]] rfl (by (try simp only [List.map_toArray, List.map_cons, List.map_nil]); first | rfl | (refine qa_arr ?_; (repeat' (first | rfl | refine qa_cons ?_ ?_ | refine qa_int ?_ | refine qa_agg ?_ | refine qa_arr ?_ | omega)); done)) ?_; (with_reducible refine (milestoneref01_Right.calls kj1 a0_3 a0_4 true _ A24.out).mono ?_); rintro e w35 ⟨rfl, hb⟩; refine ⟨_, rfl, ?_⟩; have n0_ := Aside0.mk (blk_below (g := gb160) (o := .cells #[.int .u8 a0_0, .int .u64 a0_1, .int .i64 a0_2, .int .u32 a0_3, .int .u8 a0_4, .int .u16 a0_5, .int .u16 a0_6] 28 (0, 0)) (by exact BK160.out) hb); have n1_ := Aside0.mk (below_step (by repeat (first | (with_reducible first | exact HB.out | refine below_set ?_ GE160.out))) hb); clear BK160; clear HB; have BK160 := n0_; have HB := n1_; clear n0_ n1_; (try clear hb); (try clear hb2); (try clear hk); (try clear hi); have hcz36_0 : w35.cell? ⟨gb160, 0, none⟩ = some (.int .u8 a0_0) := (blk_cell BK160.out 0).trans rfl; have hcz36_1 : w35.cell? ⟨gb160, 1, none⟩ = some (.int .u64 a0_1) := (blk_cell BK160.out 1).trans rfl; have hcz36_2 : w35.cell? ⟨gb160, 2, none⟩ = some (.int .i64 a0_2) := (blk_cell BK160.out 2).trans rfl; have hcz36_3 : w35.cell? ⟨gb160, 3, none⟩ = some (.int .u32 a0_3) := (blk_cell BK160.out 3).trans rfl; have hcz36_4 : w35.cell? ⟨gb160, 4, none⟩ = some (.int .u8 a0_4) := (blk_cell BK160.out 4).trans rfl; have hcz36_5 : w35.cell? ⟨gb160, 5, none⟩ = some (.int .u16 a0_5) := (blk_cell BK160.out 5).trans rfl; have hcz36_6 : w35.cell? ⟨gb160, 6, none⟩ = some (.int .u16 a0_6) := (blk_cell BK160.out 6).trans rfl; have hfz36_0 := blk_frozen BK160.out 0; have hfz36_1 := blk_frozen BK160.out 1; have hfz36_2 := blk_frozen BK160.out 2; have hfz36_3 := blk_frozen BK160.out 3; have hfz36_4 := blk_frozen BK160.out 4; have hfz36_5 := blk_frozen BK160.out 5; have hfz36_6 := blk_frozen BK160.out 6))
               go_ret
               exact ⟨by first | rfl | (simp [*, errW_none, errW_some] <;> rfl), by repeat (first | (with_reducible first | exact HB.out | refine below_set ?_ GE160.out))⟩
           · replace c25 := Bool.eq_false_iff.mpr c25
             subst c25
             have H1 : (some false) = some r := by rw [if_neg (show ¬ (false = true) by decide)] at H; exact H
             clear H
             have H := H1
             clear H1
             obtain rfl := Option.some.inj H
             simp only [Option.some.injEq, Prod.mk.injEq] at H
             obtain ⟨rfl⟩ := H
             have hcz37_0 : wc.cell? ⟨gb160, 0, none⟩ = some (.int .u8 a0_0) := (blk_cell BK160.out 0).trans rfl
             have hcz37_1 : wc.cell? ⟨gb160, 1, none⟩ = some (.int .u64 a0_1) := (blk_cell BK160.out 1).trans rfl
             have hcz37_2 : wc.cell? ⟨gb160, 2, none⟩ = some (.int .i64 a0_2) := (blk_cell BK160.out 2).trans rfl
             have hcz37_3 : wc.cell? ⟨gb160, 3, none⟩ = some (.int .u32 a0_3) := (blk_cell BK160.out 3).trans rfl
             have hcz37_4 : wc.cell? ⟨gb160, 4, none⟩ = some (.int .u8 a0_4) := (blk_cell BK160.out 4).trans rfl
             have hcz37_5 : wc.cell? ⟨gb160, 5, none⟩ = some (.int .u16 a0_5) := (blk_cell BK160.out 5).trans rfl
             have hcz37_6 : wc.cell? ⟨gb160, 6, none⟩ = some (.int .u16 a0_6) := (blk_cell BK160.out 6).trans rfl
             have hfz37_0 := blk_frozen BK160.out 0
             have hfz37_1 := blk_frozen BK160.out 1
             have hfz37_2 := blk_frozen BK160.out 2
             have hfz37_3 := blk_frozen BK160.out 3
             have hfz37_4 := blk_frozen BK160.out 4
             have hfz37_5 := blk_frozen BK160.out 5
             have hfz37_6 := blk_frozen BK160.out 6
             go_wp2_with (first | ((with_reducible refine gate_callee (f := 23) rfl ?_); refine goesL_ (some 51) rfl rfl Try.func23 (by kernel_rfl) rfl #[.agg #[.int .u32 a0_3, .int .u8 a0_4]] rfl (by (try simp only [List.map_toArray, List.map_cons, List.map_nil]); first | rfl | (refine qa_arr ?_; (repeat' (first | rfl | refine qa_cons ?_ ?_ | refine qa_int ?_ | refine qa_agg ?_ | refine qa_arr ?_ | omega)); done)) ?_; (with_reducible refine (milestoneref01_Right.calls kj1 a0_3 a0_4 false _ A24.out).mono ?_); rintro e w38 ⟨rfl, hb⟩; refine ⟨_, rfl, ?_⟩; have n0_ := Aside0.mk (blk_below (g := gb160) (o := .cells #[.int .u8 a0_0, .int .u64 a0_1, .int .i64 a0_2, .int .u32 a0_3, .int .u8 a0_4, .int .u16 a0_5, .int .u16 a0_6] 28 (0, 0)) (by exact BK160.out) hb); have n1_ := Aside0.mk (below_step (by repeat (first | (with_reducible first | exact HB.out | refine below_set ?_ GE160.out))) hb); clear BK160; clear HB; have BK160 := n0_; have HB := n1_; clear n0_ n1_; (try clear hb); (try clear hb2); (try clear hk); (try clear hi)))
             go_ret
             exact ⟨by first | rfl | (simp [*, errW_none, errW_some] <;> rfl), by repeat (first | (with_reducible first | exact HB.out | refine below_set ?_ GE160.out))⟩
         · rw [if_neg c23] at H
           have c23b0 : (a0_0 == 4) = false := beq_eq_false_iff_ne.mpr c23
           have c23b1 : (a0_0 != 4) = true := bne_iff_ne.mpr c23
           obtain rfl := Option.some.inj H
           simp only [Option.some.injEq, Prod.mk.injEq] at H
           obtain ⟨rfl⟩ := H
           have hcz39_0 : wc.cell? ⟨gb160, 0, none⟩ = some (.int .u8 a0_0) := (blk_cell BK160.out 0).trans rfl
           have hcz39_1 : wc.cell? ⟨gb160, 1, none⟩ = some (.int .u64 a0_1) := (blk_cell BK160.out 1).trans rfl
           have hcz39_2 : wc.cell? ⟨gb160, 2, none⟩ = some (.int .i64 a0_2) := (blk_cell BK160.out 2).trans rfl
           have hcz39_3 : wc.cell? ⟨gb160, 3, none⟩ = some (.int .u32 a0_3) := (blk_cell BK160.out 3).trans rfl
           have hcz39_4 : wc.cell? ⟨gb160, 4, none⟩ = some (.int .u8 a0_4) := (blk_cell BK160.out 4).trans rfl
           have hcz39_5 : wc.cell? ⟨gb160, 5, none⟩ = some (.int .u16 a0_5) := (blk_cell BK160.out 5).trans rfl
           have hcz39_6 : wc.cell? ⟨gb160, 6, none⟩ = some (.int .u16 a0_6) := (blk_cell BK160.out 6).trans rfl
           have hfz39_0 := blk_frozen BK160.out 0
           have hfz39_1 := blk_frozen BK160.out 1
           have hfz39_2 := blk_frozen BK160.out 2
           have hfz39_3 := blk_frozen BK160.out 3
           have hfz39_4 := blk_frozen BK160.out 4
           have hfz39_5 := blk_frozen BK160.out 5
           have hfz39_6 := blk_frozen BK160.out 6
           go_wp2
           go_ret
           exact ⟨by first | rfl | (simp [*, errW_none, errW_some] <;> rfl), by repeat (first | (with_reducible first | exact HB.out | refine below_set ?_ GE160.out))⟩

/-! ### milestoneref01_bits: function 27 -/
def milestoneref01_bits.l0 : Nat → Int → Int → Option (Int)
 | 0, _, _ => none
 | k + 1, x0, x3 => if x0 > 0 then (milestoneref01_bits.l0 k (IntKind.u64.wrap (Int.tdiv x0 2)) (wrap64 (x3 + 1))) else (some x3)
def milestoneref01_bits.f (k : Nat) (a0 : Int) : Option (Int) := milestoneref01_bits.l0 k a0 0
theorem milestoneref01_bits.mono_l : ∀ k, (∀ y0 y1, LeO (milestoneref01_bits.l0 k y0 y1) (milestoneref01_bits.l0 (k + 1) y0 y1))
 | 0 => fun _ _ r h => by simp [milestoneref01_bits.l0] at h
 | k + 1 => by
  have ih0 := milestoneref01_bits.mono_l k
  · intro y0 y1
    unfold milestoneref01_bits.l0
    repeat' first
    | (with_reducible exact ih0 _ _)
    | (with_reducible exact LeO.refl _)
    | (with_reducible exact LeO.none _)
    | (with_reducible refine LeO.ite ?_ ?_)
    | (with_reducible refine LeO.bind ?_ (fun _ => ?_))
    | exact ih0 _ _
    | exact LeO.none _
    | refine LeO.ite ?_ ?_
    | refine LeO.bind ?_ (fun _ => ?_)
theorem milestoneref01_bits.mono : ∀ a0 k, LeO (milestoneref01_bits.f k a0) (milestoneref01_bits.f (k + 1) a0) := by
 intro a0 k
 have ih0 := milestoneref01_bits.mono_l k
 unfold milestoneref01_bits.f
 repeat' first
  | (with_reducible exact ih0 _ _)
  | (with_reducible exact LeO.refl _)
  | (with_reducible exact LeO.none _)
  | (with_reducible refine LeO.ite ?_ ?_)
  | (with_reducible refine LeO.bind ?_ (fun _ => ?_))
  | exact ih0 _ _
  | exact LeO.none _
  | refine LeO.ite ?_ ?_
  | refine LeO.bind ?_ (fun _ => ?_)
set_option maxHeartbeats 8000000 in
set_option maxRecDepth 100000 in
theorem milestoneref01_bits.calls (k : Nat) (a0 : Int) (r : Int) (w : World) (h : milestoneref01_bits.f k a0 = some r) :
 Calls Try.prog 27 #[.int .u64 a0] w fun e w' => e = .returned (.int .i64 r) ∧ Drawn0 w w' := by
 have H : (milestoneref01_bits.l0 k a0 0) = some r := h
 clear h
 have H' := Aside0.mk H
 clear H
 go_enter Try.func27, Try.ntmps27
 go_wp2
 go_loopg [0, 3] k (fun kq v0 v3 w' => ∃ (x0_1 : Int) (x3_1 : Int), v0 = .int .u64 x0_1 ∧ v3 = .int .i64 x3_1 ∧ Aside0 (milestoneref01_bits.l0 kq x0_1 x3_1 = some r) ∧ Aside0 (kq ≤ k) ∧ Drawn0 w w')
 case atStart => exact ⟨(a0), (0), (by first | rfl | (refine qa_int ?_; simp <;> omega)), (by first | rfl | (refine qa_int ?_; simp <;> omega)), H', ⟨Nat.le_refl _⟩, by repeat (first | exact Drawn0.refl _)⟩
 case round =>
  clear H'
  obtain ⟨x0_1, x3_1, rfl, rfl, HA, HK1, ⟨m1, rfl⟩⟩ := hrel
  cases gk with
  | zero => exact absurd HA.out (by simp [milestoneref01_bits.l0])
  | succ k1 =>
   have H := HA.out
   clear HA
   simp only [milestoneref01_bits.l0] at H
   by_cases c2 : x0_1 > 0
   · rw [if_pos c2] at H
     have c2b0 : decide (0 < x0_1) = true := decide_eq_true c2
     clear c2
     have H' := Aside0.mk H
     clear H
     go_wp2
     go_roundg k1
     case measure => have := HK1.out; omega
     case rel => exact ⟨(IntKind.u64.wrap (Int.tdiv x0_1 2)), (wrap64 (x3_1 + 1)), (by first | rfl | (refine qa_int ?_; simp <;> omega)), (by first | rfl | (refine qa_int ?_; simp <;> omega)), H', ⟨by have := HK1.out; omega⟩, by repeat (first | exact Drawn0.refl _ | apply Drawn0.step)⟩
   · rw [if_neg c2] at H
     have c2b0 : decide (0 < x0_1) = false := decide_eq_false c2
     clear c2
     obtain rfl := Option.some.inj H
     simp only [Option.some.injEq, Prod.mk.injEq] at H
     obtain ⟨rfl⟩ := H
     go_wp2
     go_ret
     exact ⟨by first | rfl | (refine qa_int ?_; simp <;> omega), by repeat (first | exact Drawn0.refl _ | apply Drawn0.step)⟩

end Go.Proofs.Ytnfdgpmdakciiaa.QMessageRights
