-- Lines by a program of this session, for this claim.
import Derived.Test.YtnfdgpmdakciiaaQMessageRightsx0
import Derived.Test.YtnfdgpmdakciiaaQMessageRightsx2
import Derived.Test.YtnfdgpmdakciiaaQMessageRightsx4
import Derived.Test.YtnfdgpmdakciiaaQMessageRightsx5
import Derived.Test.YtnfdgpmdakciiaaQMessageRightsx7
import Derived.Test.YtnfdgpmdakciiaaQMessageRightsx11
namespace Go.Proofs.Ytnfdgpmdakciiaa.QMessageRights
open Go.RowKit Go.Proofs.YtnfdgpmdakciiaaW.PrintWords Go.Proofs.YtnfdgpmdakciiaaW.PrintLast Go.Proofs.YtnfdgpmdakciiaaW.PrintMore
attribute [local go_sem] max2_int min2_int max_two min_two max_three min_three max_four min_four   -- for this text's walks alone
set_option linter.unusedVariables false
set_option linter.unusedSimpArgs false

/-! ### milestonelaw13_MessageRights: function 3 -/
mutual
def milestonelaw13_MessageRights.j0 : Nat → Int → Int → Int → Int → Int → Int → Int → Option (Bool)
 | 0, _, _, _, _, _, _, _ => none
 | k + 1, x351000, x351001, x351002, x351003, x351004, x351005, x351006 => (message_Encode.f k 0 (([(⟨x351000, x351001, x351002, (⟨x351003, x351004⟩ : S25), x351005, x351006⟩ : S28)] : List (S28)))).bind fun t362 => ((some (([1, 0] : List Int) : List Int)).bind fun y365 => ((milestonelaw13_right.f k x351000 x351001 x351002 x351003 x351004 x351005 x351006).bind fun t368 => (if t368 = true then ((milestonelaw13_bytes.f k x351000 x351001 x351002 x351003 x351004 x351005 x351006).bind fun t369 => (if y365.length + t369.length < 140737488355328 then (milestonelaw13_MessageRights.j1 k t362 (y365 ++ t369) x351000 x351001 x351002 x351003 x351004 x351005 x351006) else (none))) else (milestonelaw13_MessageRights.j1 k t362 y365 x351000 x351001 x351002 x351003 x351004 x351005 x351006))))
def milestonelaw13_MessageRights.j1 : Nat → List Int → List Int → Int → Int → Int → Int → Int → Int → Int → Option (Bool)
 | 0, _, _, _, _, _, _, _, _, _ => none
 | k + 1, x6, x7, x351000, x351001, x351002, x351003, x351004, x351005, x351006 => (milestonelaw13_awake.f k).bind fun t375 => (if t375 = true then ((message_Right.f x351000 x351001 x351002 x351003 x351004 x351005 x351006).bind fun t376 => ((milestonelaw13_right.f k x351000 x351001 x351002 x351003 x351004 x351005 x351006).bind fun t377 => (if (t376 == t377) = true then ((milestonelaw13_packet.f k x7).bind fun t378 => (some ((strOfNums x6).toList == (strOfNums t378).toList))) else (some false)))) else (some false))
end
def milestonelaw13_MessageRights.f (k : Nat) (a0_0 : Int) (a0_1 : Int) (a0_2 : Int) (a0_3 : Int) (a0_4 : Int) (a0_5 : Int) (a0_6 : Int) (a1 : Int) : Option (Bool) := if a1 ≥ 128 then ((milestonelaw13_near.f k a0_0 a0_1 a0_2 a0_3 a0_4 a0_5 a0_6).bind fun bt351 => (milestonelaw13_MessageRights.j0 k (Int.tmod a0_0 6) bt351.2.1 bt351.2.2.1 bt351.2.2.2.1 bt351.2.2.2.2.1 bt351.2.2.2.2.2.1 bt351.2.2.2.2.2.2)) else (milestonelaw13_MessageRights.j0 k a0_0 a0_1 a0_2 a0_3 a0_4 a0_5 a0_6)
theorem milestonelaw13_MessageRights.mono_l : ∀ k, (∀ y0 y1 y2 y3 y4 y5 y6, LeO (milestonelaw13_MessageRights.j0 k y0 y1 y2 y3 y4 y5 y6) (milestonelaw13_MessageRights.j0 (k + 1) y0 y1 y2 y3 y4 y5 y6)) ∧ (∀ y0 y1 y2 y3 y4 y5 y6 y7 y8, LeO (milestonelaw13_MessageRights.j1 k y0 y1 y2 y3 y4 y5 y6 y7 y8) (milestonelaw13_MessageRights.j1 (k + 1) y0 y1 y2 y3 y4 y5 y6 y7 y8))
 | 0 => ⟨fun _ _ _ _ _ _ _ r h => by simp [milestonelaw13_MessageRights.j0] at h, fun _ _ _ _ _ _ _ _ _ r h => by simp [milestonelaw13_MessageRights.j1] at h⟩
 | k + 1 => by
  obtain ⟨ih0, ih1⟩ := milestonelaw13_MessageRights.mono_l k
  refine ⟨?_, ?_⟩
  · intro y0 y1 y2 y3 y4 y5 y6
    unfold milestonelaw13_MessageRights.j0
    repeat' first
    | (with_reducible exact ih0 _ _ _ _ _ _ _)
    | (with_reducible exact ih1 _ _ _ _ _ _ _ _ _)
    | (with_reducible exact message_Encode.mono _ _ _)
    | (with_reducible exact milestonelaw13_awake.mono _)
    | (with_reducible exact milestonelaw13_bytes.mono _ _ _ _ _ _ _ _)
    | (with_reducible exact milestonelaw13_near.mono _ _ _ _ _ _ _ _)
    | (with_reducible exact milestonelaw13_packet.mono _ _)
    | (with_reducible exact milestonelaw13_right.mono _ _ _ _ _ _ _ _)
    | (with_reducible exact LeO.refl _)
    | (with_reducible exact LeO.none _)
    | (with_reducible refine LeO.ite ?_ ?_)
    | (with_reducible refine LeO.bind ?_ (fun _ => ?_))
    | exact ih0 _ _ _ _ _ _ _
    | exact ih1 _ _ _ _ _ _ _ _ _
    | exact message_Encode.mono _ _ _
    | exact milestonelaw13_awake.mono _
    | exact milestonelaw13_bytes.mono _ _ _ _ _ _ _ _
    | exact milestonelaw13_near.mono _ _ _ _ _ _ _ _
    | exact milestonelaw13_packet.mono _ _
    | exact milestonelaw13_right.mono _ _ _ _ _ _ _ _
    | exact LeO.none _
    | refine LeO.ite ?_ ?_
    | refine LeO.bind ?_ (fun _ => ?_)
  · intro y0 y1 y2 y3 y4 y5 y6 y7 y8
    unfold milestonelaw13_MessageRights.j1
    repeat' first
    | (with_reducible exact ih0 _ _ _ _ _ _ _)
    | (with_reducible exact ih1 _ _ _ _ _ _ _ _ _)
    | (with_reducible exact message_Encode.mono _ _ _)
    | (with_reducible exact milestonelaw13_awake.mono _)
    | (with_reducible exact milestonelaw13_bytes.mono _ _ _ _ _ _ _ _)
    | (with_reducible exact milestonelaw13_near.mono _ _ _ _ _ _ _ _)
    | (with_reducible exact milestonelaw13_packet.mono _ _)
    | (with_reducible exact milestonelaw13_right.mono _ _ _ _ _ _ _ _)
    | (with_reducible exact LeO.refl _)
    | (with_reducible exact LeO.none _)
    | (with_reducible refine LeO.ite ?_ ?_)
    | (with_reducible refine LeO.bind ?_ (fun _ => ?_))
    | exact ih0 _ _ _ _ _ _ _
    | exact ih1 _ _ _ _ _ _ _ _ _
    | exact message_Encode.mono _ _ _
    | exact milestonelaw13_awake.mono _
    | exact milestonelaw13_bytes.mono _ _ _ _ _ _ _ _
    | exact milestonelaw13_near.mono _ _ _ _ _ _ _ _
    | exact milestonelaw13_packet.mono _ _
    | exact milestonelaw13_right.mono _ _ _ _ _ _ _ _
    | exact LeO.none _
    | refine LeO.ite ?_ ?_
    | refine LeO.bind ?_ (fun _ => ?_)
theorem milestonelaw13_MessageRights.mono : ∀ a0 a1 a2 a3 a4 a5 a6 a7 k, LeO (milestonelaw13_MessageRights.f k a0 a1 a2 a3 a4 a5 a6 a7) (milestonelaw13_MessageRights.f (k + 1) a0 a1 a2 a3 a4 a5 a6 a7) := by
 intro a0 a1 a2 a3 a4 a5 a6 a7 k
 obtain ⟨ih0, ih1⟩ := milestonelaw13_MessageRights.mono_l k
 unfold milestonelaw13_MessageRights.f
 repeat' first
  | (with_reducible exact ih0 _ _ _ _ _ _ _)
  | (with_reducible exact ih1 _ _ _ _ _ _ _ _ _)
  | (with_reducible exact message_Encode.mono _ _ _)
  | (with_reducible exact milestonelaw13_awake.mono _)
  | (with_reducible exact milestonelaw13_bytes.mono _ _ _ _ _ _ _ _)
  | (with_reducible exact milestonelaw13_near.mono _ _ _ _ _ _ _ _)
  | (with_reducible exact milestonelaw13_packet.mono _ _)
  | (with_reducible exact milestonelaw13_right.mono _ _ _ _ _ _ _ _)
  | (with_reducible exact LeO.refl _)
  | (with_reducible exact LeO.none _)
  | (with_reducible refine LeO.ite ?_ ?_)
  | (with_reducible refine LeO.bind ?_ (fun _ => ?_))
  | exact ih0 _ _ _ _ _ _ _
  | exact ih1 _ _ _ _ _ _ _ _ _
  | exact message_Encode.mono _ _ _
  | exact milestonelaw13_awake.mono _
  | exact milestonelaw13_bytes.mono _ _ _ _ _ _ _ _
  | exact milestonelaw13_near.mono _ _ _ _ _ _ _ _
  | exact milestonelaw13_packet.mono _ _
  | exact milestonelaw13_right.mono _ _ _ _ _ _ _ _
  | exact LeO.none _
  | refine LeO.ite ?_ ?_
  | refine LeO.bind ?_ (fun _ => ?_)
def milestonelaw13_MessageRights.T9 : Bool × List (List Nat × List Nat) := (true, [([], []), ([0, 0], [0]), ([1], [1]), ([2, 1, 1], [1, 2]), ([1], [1]), ([4, 3, 1], [1, 4]), ([3, 5, 1], [1, 3, 5]), ([1, 6], [1, 6]), ([7, 5], [7]), ([8], [8]), ([9, 8], [8, 9]), ([8], [8]), ([11, 8, 8], [8, 11]), ([12, 8], [8, 12]), ([10, 13, 8], [8, 10, 13]), ([8, 14], [8, 14]), ([15, 12, 0, 1, 2, 3, 4, 5, 6, 7, 8, 9, 10, 11, 12, 13, 14, 15], [15])])
def milestonelaw13_MessageRights.B9 : List Nat := [0, 1, 3, 7, 3, 31, 63, 127, 255, 511, 1023, 511, 2559, 6655, 16383, 32767, 65535]
theorem milestonelaw13_MessageRights.tab9 : rtab .any (opsOf Try.f3 9) = milestonelaw13_MessageRights.T9 := by kernel_rfl
theorem milestonelaw13_MessageRights.bits9 : waitsOk milestonelaw13_MessageRights.T9.2 milestonelaw13_MessageRights.B9 = true := by kernel_rfl
set_option maxHeartbeats 8000000 in
set_option maxRecDepth 100000 in
theorem milestonelaw13_MessageRights.calls (k : Nat) (a0_0 : Int) (a0_1 : Int) (a0_2 : Int) (a0_3 : Int) (a0_4 : Int) (a0_5 : Int) (a0_6 : Int) (a1 : Int) (r : Bool) (w : World) (h : milestonelaw13_MessageRights.f k a0_0 a0_1 a0_2 a0_3 a0_4 a0_5 a0_6 a1 = some r) (hT : r = true) :
 Calls Try.prog 3 #[.agg #[.int .u8 a0_0, .int .u64 a0_1, .int .i64 a0_2, .int .u32 a0_3, .int .u8 a0_4, .int .u16 a0_5, .int .u16 a0_6], .int .u8 a1] w fun e w' => e = .returned (.bool r) ∧ Below w.heap.size w w' := by
 have HT := Aside0.mk hT
 clear hT
 have hu28 := Try.underlying28
 have hu34 := Try.underlying34
 have HB := Aside0.mk (Below.refl w.heap.size w)
 have H : (if a1 ≥ 128 then ((milestonelaw13_near.f k a0_0 a0_1 a0_2 a0_3 a0_4 a0_5 a0_6).bind fun bt351 => (milestonelaw13_MessageRights.j0 k (Int.tmod a0_0 6) bt351.2.1 bt351.2.2.1 bt351.2.2.2.1 bt351.2.2.2.2.1 bt351.2.2.2.2.2.1 bt351.2.2.2.2.2.2)) else (milestonelaw13_MessageRights.j0 k a0_0 a0_1 a0_2 a0_3 a0_4 a0_5 a0_6)) = some r := h
 clear h
 have HC3 := Aside0.mk H
 clear H
 go_enter Try.func3, Try.ntmps3
 go_upto_if 9 with (first | ((with_reducible refine gate_dst (N := 2) rfl ?_); refine box_event ?hg (N := 2) ?hd (cs := #[.int .u8 a0_0, .int .u64 a0_1, .int .i64 a0_2, .int .u32 a0_3, .int .u8 a0_4, .int .u16 a0_5, .int .u16 a0_6]) (t := 28) ?hr ?_; (case hd => rfl); (case hg => rfl); (case hr => first | (go_simp; done)); intro gb350 hg w4 hbox hb; have n0_ := Aside0.mk (below_step (by repeat (first | (with_reducible first | exact HB.out | apply below_drew1))) hb); have n1_ := Aside0.mk (hbox); have n2_ := Aside0.mk ((by rw [hg]; exact (below_size (by repeat (first | (with_reducible first | exact HB.out | apply below_drew1)))) : w.heap.size ≤ gb350)); have n3_ := Aside0.mk ((by rw [hg]; exact (below_size (by repeat (first | (with_reducible first | exact HB.out | apply below_drew1)))) : w.heap.size ≤ gb350)); clear HB; have HB := n0_; have BK350 := n1_; have GW350 := n2_; have GE350 := n3_; clear n0_ n1_ n2_ n3_; clear hb hbox hg))
 (try simp only [Act.put, List.setIfInBounds_toArray, List.set_cons_zero, List.set_cons_succ])
 go_cut [] (fun wc => ∃ (kq : Nat) (x351000_2 : Int) (x351001_2 : Int) (x351002_2 : Int) (x351003_2 : Int) (x351004_2 : Int) (x351005_2 : Int) (x351006_2 : Int), Aside0 (milestonelaw13_MessageRights.j0 kq x351000_2 x351001_2 x351002_2 x351003_2 x351004_2 x351005_2 x351006_2 = some r) ∧ Aside0 (kq ≤ k) ∧ Aside0 (wc.heap[gb350]? = some (.cells #[.int .u8 x351000_2, .int .u64 x351001_2, .int .i64 x351002_2, .int .u32 x351003_2, .int .u8 x351004_2, .int .u16 x351005_2, .int .u16 x351006_2] 28 (0, 0))) ∧ Aside0 (Below w.heap.size w wc))
 case first =>
  have H := HC3.out
  clear HC3
  by_cases c5 : a1 ≥ 128
  · rw [if_pos c5] at H
    have c5b0 : decide (128 ≤ a1) = true := decide_eq_true c5
    clear c5
    (first | rw [c5b0] | skip)
    replace H := Option.bind_eq_some_iff.mp H
    obtain ⟨⟨t351, t352, t353, t354, t355, t356, t357⟩, A60, H⟩ := H
    replace H : (milestonelaw13_MessageRights.j0 k (Int.tmod a0_0 6) t352 t353 t354 t355 t356 t357) = some r := H
    have A6 := Aside0.mk A60
    clear A60
    have H' := Aside0.mk H
    clear H
    have hcz7_0 : w4.cell? ⟨gb350, 0, none⟩ = some (.int .u8 a0_0) := (blk_cell BK350.out 0).trans rfl
    have hcz7_1 : w4.cell? ⟨gb350, 1, none⟩ = some (.int .u64 a0_1) := (blk_cell BK350.out 1).trans rfl
    have hcz7_2 : w4.cell? ⟨gb350, 2, none⟩ = some (.int .i64 a0_2) := (blk_cell BK350.out 2).trans rfl
    have hcz7_3 : w4.cell? ⟨gb350, 3, none⟩ = some (.int .u32 a0_3) := (blk_cell BK350.out 3).trans rfl
    have hcz7_4 : w4.cell? ⟨gb350, 4, none⟩ = some (.int .u8 a0_4) := (blk_cell BK350.out 4).trans rfl
    have hcz7_5 : w4.cell? ⟨gb350, 5, none⟩ = some (.int .u16 a0_5) := (blk_cell BK350.out 5).trans rfl
    have hcz7_6 : w4.cell? ⟨gb350, 6, none⟩ = some (.int .u16 a0_6) := (blk_cell BK350.out 6).trans rfl
    have hfz7_0 := blk_frozen BK350.out 0
    have hfz7_1 := blk_frozen BK350.out 1
    have hfz7_2 := blk_frozen BK350.out 2
    have hfz7_3 := blk_frozen BK350.out 3
    have hfz7_4 := blk_frozen BK350.out 4
    have hfz7_5 := blk_frozen BK350.out 5
    have hfz7_6 := blk_frozen BK350.out 6
    go_wp2_with (first | ((with_reducible refine gate_callee (f := 8) rfl ?_); refine goesL_ (some 11) rfl rfl Try.func8 (by kernel_rfl) rfl #[.agg #[.int .u8 a0_0, .int .u64 a0_1, .int .i64 a0_2, .int .u32 a0_3, .int .u8 a0_4, .int .u16 a0_5, .int .u16 a0_6]] rfl (by (try simp only [List.map_toArray, List.map_cons, List.map_nil]); first | rfl | (refine qa_arr ?_; (repeat' (first | rfl | refine qa_cons ?_ ?_ | refine qa_int ?_ | refine qa_agg ?_ | refine qa_arr ?_ | omega)); done)) ?_; (with_reducible refine (milestonelaw13_near.calls k a0_0 a0_1 a0_2 a0_3 a0_4 a0_5 a0_6 t351 t352 t353 t354 t355 t356 t357 _ A6.out).mono ?_); rintro e w8 ⟨rfl, hb⟩; refine ⟨_, rfl, ?_⟩; have n0_ := Aside0.mk (blk_below (g := gb350) (o := .cells #[.int .u8 a0_0, .int .u64 a0_1, .int .i64 a0_2, .int .u32 a0_3, .int .u8 a0_4, .int .u16 a0_5, .int .u16 a0_6] 28 (0, 0)) (by exact BK350.out) hb); have n1_ := Aside0.mk (below_step (by repeat (first | (with_reducible first | exact HB.out | refine below_set ?_ GE350.out))) hb); clear BK350; clear HB; have BK350 := n0_; have HB := n1_; clear n0_ n1_; (try clear hb); (try clear hb2); (try clear hk); (try clear hi)) | ((with_reducible refine gate_dst (N := 5) rfl ?_); refine box_event ?hg (N := 5) ?hd (cs := #[.int .u8 0, .int .u64 0, .int .i64 0, .int .u32 0, .int .u8 0, .int .u16 0, .int .u16 0]) (t := 28) ?hr ?_; (case hd => rfl); (case hg => rfl); (case hr => first | (go_simp; done)); intro gb358 hg w9 hbox hb; have n0_ := Aside0.mk (blk_below (g := gb350) (o := .cells #[.int .u8 a0_0, .int .u64 a0_1, .int .i64 a0_2, .int .u32 a0_3, .int .u8 a0_4, .int .u16 a0_5, .int .u16 a0_6] 28 (0, 0)) (by exact BK350.out) hb); have n1_ := Aside0.mk (below_step (by repeat (first | (with_reducible first | exact HB.out | refine below_set ?_ GE350.out))) hb); have n2_ := Aside0.mk (hbox); have n3_ := Aside0.mk ((by rw [hg]; exact (below_size (by repeat (first | (with_reducible first | exact HB.out | refine below_set ?_ GE350.out)))) : w.heap.size ≤ gb358)); have n4_ := Aside0.mk ((by rw [hg]; exact (below_size (by repeat (first | (with_reducible first | exact HB.out | refine below_set ?_ GE350.out)))) : w.heap.size ≤ gb358)); have n5_ := Aside0.mk ((by rw [hg]; exact Nat.ne_of_lt (blk_lt (g := gb350) (o := .cells #[.int .u8 a0_0, .int .u64 a0_1, .int .i64 a0_2, .int .u32 a0_3, .int .u8 a0_4, .int .u16 a0_5, .int .u16 a0_6] 28 (0, 0)) (by exact BK350.out)) : gb350 ≠ gb358)); have n6_ := Aside0.mk ((by rw [hg]; exact Nat.ne_of_gt (blk_lt (g := gb350) (o := .cells #[.int .u8 a0_0, .int .u64 a0_1, .int .i64 a0_2, .int .u32 a0_3, .int .u8 a0_4, .int .u16 a0_5, .int .u16 a0_6] 28 (0, 0)) (by exact BK350.out)) : gb358 ≠ gb350)); clear BK350; clear HB; have BK350 := n0_; have HB := n1_; have BK358 := n2_; have GW358 := n3_; have GE358 := n4_; have NB350_358 := n5_; have NB358_350 := n6_; clear n0_ n1_ n2_ n3_ n4_ n5_ n6_; clear hb hbox hg; have hnb10 := NB358_350.out; have hnc10 := NB350_358.out; have hcz11_0 : w9.cell? ⟨gb358, 0, none⟩ = some (.int .u8 0) := (blk_cell BK358.out 0).trans rfl; have hcz11_1 : w9.cell? ⟨gb358, 1, none⟩ = some (.int .u64 0) := (blk_cell BK358.out 1).trans rfl; have hcz11_2 : w9.cell? ⟨gb358, 2, none⟩ = some (.int .i64 0) := (blk_cell BK358.out 2).trans rfl; have hcz11_3 : w9.cell? ⟨gb358, 3, none⟩ = some (.int .u32 0) := (blk_cell BK358.out 3).trans rfl; have hcz11_4 : w9.cell? ⟨gb358, 4, none⟩ = some (.int .u8 0) := (blk_cell BK358.out 4).trans rfl; have hcz11_5 : w9.cell? ⟨gb358, 5, none⟩ = some (.int .u16 0) := (blk_cell BK358.out 5).trans rfl; have hcz11_6 : w9.cell? ⟨gb358, 6, none⟩ = some (.int .u16 0) := (blk_cell BK358.out 6).trans rfl; have hfz11_0 := blk_frozen BK358.out 0; have hfz11_1 := blk_frozen BK358.out 1; have hfz11_2 := blk_frozen BK358.out 2; have hfz11_3 := blk_frozen BK358.out 3; have hfz11_4 := blk_frozen BK358.out 4; have hfz11_5 := blk_frozen BK358.out 5; have hfz11_6 := blk_frozen BK358.out 6; have hcz12_0 : w9.cell? ⟨gb350, 0, none⟩ = some (.int .u8 a0_0) := (blk_cell BK350.out 0).trans rfl; have hcz12_1 : w9.cell? ⟨gb350, 1, none⟩ = some (.int .u64 a0_1) := (blk_cell BK350.out 1).trans rfl; have hcz12_2 : w9.cell? ⟨gb350, 2, none⟩ = some (.int .i64 a0_2) := (blk_cell BK350.out 2).trans rfl; have hcz12_3 : w9.cell? ⟨gb350, 3, none⟩ = some (.int .u32 a0_3) := (blk_cell BK350.out 3).trans rfl; have hcz12_4 : w9.cell? ⟨gb350, 4, none⟩ = some (.int .u8 a0_4) := (blk_cell BK350.out 4).trans rfl; have hcz12_5 : w9.cell? ⟨gb350, 5, none⟩ = some (.int .u16 a0_5) := (blk_cell BK350.out 5).trans rfl; have hcz12_6 : w9.cell? ⟨gb350, 6, none⟩ = some (.int .u16 a0_6) := (blk_cell BK350.out 6).trans rfl; have hfz12_0 := blk_frozen BK350.out 0; have hfz12_1 := blk_frozen BK350.out 1; have hfz12_2 := blk_frozen BK350.out 2; have hfz12_3 := blk_frozen BK350.out 3; have hfz12_4 := blk_frozen BK350.out 4; have hfz12_5 := blk_frozen BK350.out 5; have hfz12_6 := blk_frozen BK350.out 6))
    go_meet
    case rel => exact ⟨_, (Int.tmod a0_0 6), (t352), (t353), (t354), (t355), (t356), (t357), H', ⟨by first | omega⟩, ⟨by refine blk_put (cs := #[.int .u8 (Int.tmod a0_0 6), .int .u64 t352, .int .i64 t353, .int .u32 t354, .int .u8 t355, .int .u16 t356, .int .u16 a0_6]) ?_ 6 _ rfl; refine blk_put (cs := #[.int .u8 (Int.tmod a0_0 6), .int .u64 t352, .int .i64 t353, .int .u32 t354, .int .u8 t355, .int .u16 a0_5, .int .u16 a0_6]) ?_ 5 _ rfl; refine blk_put (cs := #[.int .u8 (Int.tmod a0_0 6), .int .u64 t352, .int .i64 t353, .int .u32 t354, .int .u8 a0_4, .int .u16 a0_5, .int .u16 a0_6]) ?_ 4 _ rfl; refine blk_put (cs := #[.int .u8 (Int.tmod a0_0 6), .int .u64 t352, .int .i64 t353, .int .u32 a0_3, .int .u8 a0_4, .int .u16 a0_5, .int .u16 a0_6]) ?_ 3 _ rfl; refine blk_put (cs := #[.int .u8 (Int.tmod a0_0 6), .int .u64 t352, .int .i64 a0_2, .int .u32 a0_3, .int .u8 a0_4, .int .u16 a0_5, .int .u16 a0_6]) ?_ 2 _ rfl; refine blk_put (cs := #[.int .u8 (Int.tmod a0_0 6), .int .u64 a0_1, .int .i64 a0_2, .int .u32 a0_3, .int .u8 a0_4, .int .u16 a0_5, .int .u16 a0_6]) ?_ 1 _ rfl; refine blk_put (cs := #[.int .u8 a0_0, .int .u64 a0_1, .int .i64 a0_2, .int .u32 a0_3, .int .u8 a0_4, .int .u16 a0_5, .int .u16 a0_6]) ?_ 0 _ rfl; refine blk_far ?_ NB350_358.out _; refine blk_far ?_ NB350_358.out _; refine blk_far ?_ NB350_358.out _; refine blk_far ?_ NB350_358.out _; refine blk_far ?_ NB350_358.out _; refine blk_far ?_ NB350_358.out _; refine blk_far ?_ NB350_358.out _; refine blk_far ?_ NB350_358.out _; exact BK350.out⟩, ⟨by repeat (first | (with_reducible first | exact HB.out | refine below_set ?_ GE350.out | refine below_set ?_ GE358.out))⟩⟩
  · rw [if_neg c5] at H
    have c5b0 : decide (128 ≤ a1) = false := decide_eq_false c5
    clear c5
    (first | rw [c5b0] | skip)
    have H' := Aside0.mk H
    clear H
    go_wp2
    go_meet
    case rel => exact ⟨_, (a0_0), (a0_1), (a0_2), (a0_3), (a0_4), (a0_5), (a0_6), H', ⟨by first | omega⟩, ⟨by exact BK350.out⟩, ⟨by repeat (first | (with_reducible first | exact HB.out | refine below_set ?_ GE350.out))⟩⟩
 case rest =>
  clear HC3
  try clear c1
  try clear p2
  try clear c3
  try clear c5
  try clear c5b0
  try clear c8
  try clear c10
  try clear hcz11_0
  try clear hcz11_1
  try clear hcz11_2
  try clear hcz11_3
  try clear hcz11_4
  try clear hcz11_5
  try clear hcz11_6
  try clear hcz12_0
  try clear hcz12_1
  try clear hcz12_2
  try clear hcz12_3
  try clear hcz12_4
  try clear hcz12_5
  try clear hcz12_6
  try clear hcz7_0
  try clear hcz7_1
  try clear hcz7_2
  try clear hcz7_3
  try clear hcz7_4
  try clear hcz7_5
  try clear hcz7_6
  try clear hfz11_0
  try clear hfz11_1
  try clear hfz11_2
  try clear hfz11_3
  try clear hfz11_4
  try clear hfz11_5
  try clear hfz11_6
  try clear hfz12_0
  try clear hfz12_1
  try clear hfz12_2
  try clear hfz12_3
  try clear hfz12_4
  try clear hfz12_5
  try clear hfz12_6
  try clear hfz7_0
  try clear hfz7_1
  try clear hfz7_2
  try clear hfz7_3
  try clear hfz7_4
  try clear hfz7_5
  try clear hfz7_6
  obtain ⟨kq, x351000_2, x351001_2, x351002_2, x351003_2, x351004_2, x351005_2, x351006_2, HA, HJ2, BK350, HB⟩ := hcut
  cases kq with
  | zero => exact absurd HA.out (by simp [milestonelaw13_MessageRights.j0])
  | succ kj2 =>
   have H := HA.out
   clear HA
   simp only [milestonelaw13_MessageRights.j0] at H
   obtain ⟨y359, hy359⟩ : ∃ y_ : List (S28), y_ = (([(⟨x351000_2, x351001_2, x351002_2, (⟨x351003_2, x351004_2⟩ : S25), x351005_2, x351006_2⟩ : S28)] : List (S28))) := ⟨_, rfl⟩
   replace H : ((message_Encode.f kj2 0 y359).bind fun t362 => ((some (([1, 0] : List Int) : List Int)).bind fun y365 => ((milestonelaw13_right.f kj2 x351000_2 x351001_2 x351002_2 x351003_2 x351004_2 x351005_2 x351006_2).bind fun t368 => (if t368 = true then ((milestonelaw13_bytes.f kj2 x351000_2 x351001_2 x351002_2 x351003_2 x351004_2 x351005_2 x351006_2).bind fun t369 => (if y365.length + t369.length < 140737488355328 then (milestonelaw13_MessageRights.j1 kj2 t362 (y365 ++ t369) x351000_2 x351001_2 x351002_2 x351003_2 x351004_2 x351005_2 x351006_2) else (none))) else (milestonelaw13_MessageRights.j1 kj2 t362 y365 x351000_2 x351001_2 x351002_2 x351003_2 x351004_2 x351005_2 x351006_2))))) = some r := by first | (rw [hy359]; with_reducible exact H) | exact H
   have Ny359 := Aside0.mk hy359
   clear hy359
   replace H := Option.bind_eq_some_iff.mp H
   obtain ⟨t362, A130, H⟩ := H
   replace H : ((some (([1, 0] : List Int) : List Int)).bind fun y365 => ((milestonelaw13_right.f kj2 x351000_2 x351001_2 x351002_2 x351003_2 x351004_2 x351005_2 x351006_2).bind fun t368 => (if t368 = true then ((milestonelaw13_bytes.f kj2 x351000_2 x351001_2 x351002_2 x351003_2 x351004_2 x351005_2 x351006_2).bind fun t369 => (if y365.length + t369.length < 140737488355328 then (milestonelaw13_MessageRights.j1 kj2 t362 (y365 ++ t369) x351000_2 x351001_2 x351002_2 x351003_2 x351004_2 x351005_2 x351006_2) else (none))) else (milestonelaw13_MessageRights.j1 kj2 t362 y365 x351000_2 x351001_2 x351002_2 x351003_2 x351004_2 x351005_2 x351006_2)))) = some r := H
   have A13 := Aside0.mk A130
   clear A130
   obtain ⟨y365, hy365⟩ : ∃ y_ : List Int, y_ = (([1, 0] : List Int)) := ⟨_, rfl⟩
   replace H : ((milestonelaw13_right.f kj2 x351000_2 x351001_2 x351002_2 x351003_2 x351004_2 x351005_2 x351006_2).bind fun t368 => (if t368 = true then ((milestonelaw13_bytes.f kj2 x351000_2 x351001_2 x351002_2 x351003_2 x351004_2 x351005_2 x351006_2).bind fun t369 => (if y365.length + t369.length < 140737488355328 then (milestonelaw13_MessageRights.j1 kj2 t362 (y365 ++ t369) x351000_2 x351001_2 x351002_2 x351003_2 x351004_2 x351005_2 x351006_2) else (none))) else (milestonelaw13_MessageRights.j1 kj2 t362 y365 x351000_2 x351001_2 x351002_2 x351003_2 x351004_2 x351005_2 x351006_2))) = some r := by first | (have H2_ := (Option.bind_some _ _).symm.trans H; rw [hy365]; with_reducible exact H2_) | exact H
   have Ny365 := Aside0.mk hy365
   clear hy365
   replace H := Option.bind_eq_some_iff.mp H
   obtain ⟨t368, A140, H⟩ := H
   replace H : (if t368 = true then ((milestonelaw13_bytes.f kj2 x351000_2 x351001_2 x351002_2 x351003_2 x351004_2 x351005_2 x351006_2).bind fun t369 => (if y365.length + t369.length < 140737488355328 then (milestonelaw13_MessageRights.j1 kj2 t362 (y365 ++ t369) x351000_2 x351001_2 x351002_2 x351003_2 x351004_2 x351005_2 x351006_2) else (none))) else (milestonelaw13_MessageRights.j1 kj2 t362 y365 x351000_2 x351001_2 x351002_2 x351003_2 x351004_2 x351005_2 x351006_2)) = some r := H
   have A14 := Aside0.mk A140
   clear A140
   have HC15 := Aside0.mk H
   clear H
   have hcz16_0 : wc.cell? ⟨gb350, 0, none⟩ = some (.int .u8 x351000_2) := (blk_cell BK350.out 0).trans rfl
   have hcz16_1 : wc.cell? ⟨gb350, 1, none⟩ = some (.int .u64 x351001_2) := (blk_cell BK350.out 1).trans rfl
   have hcz16_2 : wc.cell? ⟨gb350, 2, none⟩ = some (.int .i64 x351002_2) := (blk_cell BK350.out 2).trans rfl
   have hcz16_3 : wc.cell? ⟨gb350, 3, none⟩ = some (.int .u32 x351003_2) := (blk_cell BK350.out 3).trans rfl
   have hcz16_4 : wc.cell? ⟨gb350, 4, none⟩ = some (.int .u8 x351004_2) := (blk_cell BK350.out 4).trans rfl
   have hcz16_5 : wc.cell? ⟨gb350, 5, none⟩ = some (.int .u16 x351005_2) := (blk_cell BK350.out 5).trans rfl
   have hcz16_6 : wc.cell? ⟨gb350, 6, none⟩ = some (.int .u16 x351006_2) := (blk_cell BK350.out 6).trans rfl
   have hfz16_0 := blk_frozen BK350.out 0
   have hfz16_1 := blk_frozen BK350.out 1
   have hfz16_2 := blk_frozen BK350.out 2
   have hfz16_3 := blk_frozen BK350.out 3
   have hfz16_4 := blk_frozen BK350.out 4
   have hfz16_5 := blk_frozen BK350.out 5
   have hfz16_6 := blk_frozen BK350.out 6
   go_upto_if 23 with (first | ((with_reducible refine gate_dst (N := 18) rfl ?_); refine Kd.R_lit k28 _ 28 ?hg (N := 18) ?hd (xs := ([(⟨x351000_2, x351001_2, x351002_2, (⟨x351003_2, x351004_2⟩ : S25), x351005_2, x351006_2⟩ : S28)] : List (S28))) (inner := [.int .u8 x351000_2, .int .u64 x351001_2, .int .i64 x351002_2, .int .u32 x351003_2, .int .u8 x351004_2, .int .u16 x351005_2, .int .u16 x351006_2]) (ok := fun _ => True) (okp := fun _ => True) ?hr ?hp (fun _ hk => hk) trivial (Below.refl _ _) (Nat.le_refl _) (by simp) ?_; (case hd => rfl); (case hg => rfl); (case hr => first | (go_simp; done)); (case hp => exact (Reps.c7 (show Kd.M k28 _ _ _ (⟨x351000_2, x351001_2, x351002_2, (⟨x351003_2, x351004_2⟩ : S25), x351005_2, x351006_2⟩ : S28) [.int .u8 x351000_2, .int .u64 x351001_2, .int .i64 x351002_2, .int .u32 x351003_2, .int .u8 x351004_2, .int .u16 x351005_2, .int .u16 x351006_2] from (k28_mkM _ _ _ (⟨x351000_2, x351001_2, x351002_2, (⟨x351003_2, x351004_2⟩ : S25), x351005_2, x351006_2⟩ : S28) )) (Reps.none _ _))); intro v360 w17 ho18 hb hg_ hnew_; clear hg_ hnew_; (first | rw [← Ny359.out] at ho18); have n0_ := Aside0.mk (Kd.R_lower (Kd.R_newB ho18 (g := gb350) (o := .cells #[.int .u8 x351000_2, .int .u64 x351001_2, .int .i64 x351002_2, .int .u32 x351003_2, .int .u8 x351004_2, .int .u16 x351005_2, .int .u16 x351006_2] 28 (0, 0)) (by exact BK350.out)) (below_size (by repeat (first | (with_reducible first | exact HB.out | refine below_set ?_ GE350.out))))); have n1_ := Aside0.mk (blk_below (g := gb350) (o := .cells #[.int .u8 x351000_2, .int .u64 x351001_2, .int .i64 x351002_2, .int .u32 x351003_2, .int .u8 x351004_2, .int .u16 x351005_2, .int .u16 x351006_2] 28 (0, 0)) (by exact BK350.out) hb); have n2_ := Aside0.mk (below_step (by repeat (first | (with_reducible first | exact HB.out | refine below_set ?_ GE350.out))) hb); clear BK350; clear HB; have HO361 := n0_; have BK350 := n1_; have HB := n2_; clear n0_ n1_ n2_; clear hb ho18; obtain ⟨Ao19, co19, eo19⟩ := Kd.R_slice HO361.out; subst eo19) | ((with_reducible refine gate_callee (f := 9) rfl ?_); refine goesL_ (some 20) rfl rfl Try.func9 (by kernel_rfl) rfl #[.agg #[.int .i64 0, .slice Ao19 y359.length co19]] rfl (by (try simp only [List.map_toArray, List.map_cons, List.map_nil]); first | rfl | (refine qa_arr ?_; (repeat' (first | rfl | refine qa_cons ?_ ?_ | refine qa_int ?_ | refine qa_agg ?_ | refine qa_arr ?_ | omega)); done)) ?_; (with_reducible refine (message_Encode.calls kj2 0 _ _ y359 t362 _ ?side1 ?side2 A13.out).mono ?_); (case side1 => repeat (first | exact (Kd.R_reads' HO361.out).2.2 | (with_reducible refine Kd.C_drew ?_))); (case side2 => exact (Kd.R_reads' HO361.out).2.1); rintro e w20 ⟨v363, rfl, ho0, hb⟩; refine ⟨_, rfl, ?_⟩; have n0_ := Aside0.mk (Kd.R_below (by exact HO361.out) hb); have n1_ := Aside0.mk (Kd.R_lower ho0 (below_size (by repeat (first | (with_reducible first | exact HB.out | refine below_set ?_ GE350.out))))); have n2_ := Aside0.mk (blk_below (g := gb350) (o := .cells #[.int .u8 x351000_2, .int .u64 x351001_2, .int .i64 x351002_2, .int .u32 x351003_2, .int .u8 x351004_2, .int .u16 x351005_2, .int .u16 x351006_2] 28 (0, 0)) (by exact BK350.out) hb); have n3_ := Aside0.mk (below_step (by repeat (first | (with_reducible first | exact HB.out | refine below_set ?_ GE350.out))) hb); clear HO361; clear BK350; clear HB; have HO361 := n0_; have HO364 := n1_; have BK350 := n2_; have HB := n3_; clear n0_ n1_ n2_ n3_; (try clear hb); (try clear hb2); (try clear hk); (try clear hi); (try clear ho0)) | ((with_reducible refine gate_dst (N := 21) rfl ?_); refine Kd.R_lit (Kd.int .u8) _ 5 ?hg (N := 21) ?hd (xs := ([1, 0] : List Int)) (inner := [.int .u8 1, .int .u8 0]) (ok := fun _ => True) (okp := fun _ => True) ?hr ?hp (fun _ hk => hk) trivial (Below.refl _ _) (Nat.le_refl _) (by simp) ?_; (case hd => rfl); (case hg => rfl); (case hr => first | (go_simp; done)); (case hp => exact (Reps.one (show Kd.M (Kd.int .u8) _ _ _ 1 [.int .u8 1] from rfl) (Reps.one (show Kd.M (Kd.int .u8) _ _ _ 0 [.int .u8 0] from rfl) (Reps.none _ _)))); intro v366 w21 ho22 hb hg_ hnew_; clear hg_ hnew_; (first | rw [← Ny365.out] at ho22); have n0_ := Aside0.mk (Kd.R_below (by exact HO361.out) hb); have n1_ := Aside0.mk (Kd.R_elder' (by exact HO364.out) (Kd.R_base ho22) hb); have n2_ := Aside0.mk (Kd.R_lower (Kd.R_new' ho22 (Kd.R_lt (by exact HO364.out))) (below_size (by repeat (first | (with_reducible first | exact HB.out | refine below_set ?_ GE350.out))))); have n3_ := Aside0.mk (blk_below (g := gb350) (o := .cells #[.int .u8 x351000_2, .int .u64 x351001_2, .int .i64 x351002_2, .int .u32 x351003_2, .int .u8 x351004_2, .int .u16 x351005_2, .int .u16 x351006_2] 28 (0, 0)) (by exact BK350.out) hb); have n4_ := Aside0.mk (below_step (by repeat (first | (with_reducible first | exact HB.out | refine below_set ?_ GE350.out))) hb); clear HO361; clear HO364; clear BK350; clear HB; have HO361 := n0_; have HO364 := n1_; have HO367 := n2_; have BK350 := n3_; have HB := n4_; clear n0_ n1_ n2_ n3_ n4_; clear hb ho22; have hcz23_0 : w21.cell? ⟨gb350, 0, none⟩ = some (.int .u8 x351000_2) := (blk_cell BK350.out 0).trans rfl; have hcz23_1 : w21.cell? ⟨gb350, 1, none⟩ = some (.int .u64 x351001_2) := (blk_cell BK350.out 1).trans rfl; have hcz23_2 : w21.cell? ⟨gb350, 2, none⟩ = some (.int .i64 x351002_2) := (blk_cell BK350.out 2).trans rfl; have hcz23_3 : w21.cell? ⟨gb350, 3, none⟩ = some (.int .u32 x351003_2) := (blk_cell BK350.out 3).trans rfl; have hcz23_4 : w21.cell? ⟨gb350, 4, none⟩ = some (.int .u8 x351004_2) := (blk_cell BK350.out 4).trans rfl; have hcz23_5 : w21.cell? ⟨gb350, 5, none⟩ = some (.int .u16 x351005_2) := (blk_cell BK350.out 5).trans rfl; have hcz23_6 : w21.cell? ⟨gb350, 6, none⟩ = some (.int .u16 x351006_2) := (blk_cell BK350.out 6).trans rfl; have hfz23_0 := blk_frozen BK350.out 0; have hfz23_1 := blk_frozen BK350.out 1; have hfz23_2 := blk_frozen BK350.out 2; have hfz23_3 := blk_frozen BK350.out 3; have hfz23_4 := blk_frozen BK350.out 4; have hfz23_5 := blk_frozen BK350.out 5; have hfz23_6 := blk_frozen BK350.out 6) | ((with_reducible refine gate_callee (f := 10) rfl ?_); refine goesL_ (some 23) rfl rfl Try.func10 (by kernel_rfl) rfl #[.agg #[.int .u8 x351000_2, .int .u64 x351001_2, .int .i64 x351002_2, .int .u32 x351003_2, .int .u8 x351004_2, .int .u16 x351005_2, .int .u16 x351006_2]] rfl (by (try simp only [List.map_toArray, List.map_cons, List.map_nil]); first | rfl | (refine qa_arr ?_; (repeat' (first | rfl | refine qa_cons ?_ ?_ | refine qa_int ?_ | refine qa_agg ?_ | refine qa_arr ?_ | omega)); done)) ?_; (with_reducible refine (milestonelaw13_right.calls kj2 x351000_2 x351001_2 x351002_2 x351003_2 x351004_2 x351005_2 x351006_2 t368 _ A14.out).mono ?_); rintro e w24 ⟨rfl, hb⟩; refine ⟨_, rfl, ?_⟩; have n0_ := Aside0.mk (Kd.R_below (by exact HO361.out) hb); have n1_ := Aside0.mk (Kd.R_below (by exact HO364.out) hb); have n2_ := Aside0.mk (Kd.R_below (by exact HO367.out) hb); have n3_ := Aside0.mk (blk_below (g := gb350) (o := .cells #[.int .u8 x351000_2, .int .u64 x351001_2, .int .i64 x351002_2, .int .u32 x351003_2, .int .u8 x351004_2, .int .u16 x351005_2, .int .u16 x351006_2] 28 (0, 0)) (by exact BK350.out) hb); have n4_ := Aside0.mk (below_step (by repeat (first | (with_reducible first | exact HB.out | refine below_set ?_ GE350.out))) hb); clear HO361; clear HO364; clear HO367; clear BK350; clear HB; have HO361 := n0_; have HO364 := n1_; have HO367 := n2_; have BK350 := n3_; have HB := n4_; clear n0_ n1_ n2_ n3_ n4_; (try clear hb); (try clear hb2); (try clear hk); (try clear hi)))
   (try simp only [Act.put, List.setIfInBounds_toArray, List.set_cons_zero, List.set_cons_succ])
   go_cut [7] (fun v7 wc => ∃ (kq : Nat) (x7_14 : List Int), Aside0 (milestonelaw13_MessageRights.j1 kq t362 x7_14 x351000_2 x351001_2 x351002_2 x351003_2 x351004_2 x351005_2 x351006_2 = some r) ∧ Aside0 (kq ≤ kj2) ∧ Aside0 (Kd.R (Kd.int .u8) 5 wc w.heap.size (fun k_ => some k_ ≠ (v7 : Value).ownBlock) v363 t362) ∧ Aside0 (Kd.R (Kd.int .u8) 5 wc w.heap.size (fun k_ => some k_ ≠ (v363 : Value).ownBlock) v7 x7_14) ∧ Aside0 (wc.heap[gb350]? = some (.cells #[.int .u8 x351000_2, .int .u64 x351001_2, .int .i64 x351002_2, .int .u32 x351003_2, .int .u8 x351004_2, .int .u16 x351005_2, .int .u16 x351006_2] 28 (0, 0))) ∧ Aside0 (Below w.heap.size w wc))
   case first =>
    have H := HC15.out
    clear HC15
    by_cases c25 : t368 = true
    · subst c25
      have H1 : ((milestonelaw13_bytes.f kj2 x351000_2 x351001_2 x351002_2 x351003_2 x351004_2 x351005_2 x351006_2).bind fun t369 => (if y365.length + t369.length < 140737488355328 then (milestonelaw13_MessageRights.j1 kj2 t362 (y365 ++ t369) x351000_2 x351001_2 x351002_2 x351003_2 x351004_2 x351005_2 x351006_2) else (none))) = some r := by rw [if_pos rfl] at H; exact H
      clear H
      have H := H1
      clear H1
      replace H := Option.bind_eq_some_iff.mp H
      obtain ⟨t369, A260, H⟩ := H
      replace H : (if y365.length + t369.length < 140737488355328 then (milestonelaw13_MessageRights.j1 kj2 t362 (y365 ++ t369) x351000_2 x351001_2 x351002_2 x351003_2 x351004_2 x351005_2 x351006_2) else (none)) = some r := H
      have A26 := Aside0.mk A260
      clear A260
      by_cases c27 : y365.length + t369.length < 140737488355328
      · rw [if_pos c27] at H
        have LMc27 := Aside0.mk c27
        clear c27
        obtain ⟨y372, hy372⟩ : ∃ y_ : List Int, y_ = (y365 ++ t369) := ⟨_, rfl⟩
        replace H : (milestonelaw13_MessageRights.j1 kj2 t362 y372 x351000_2 x351001_2 x351002_2 x351003_2 x351004_2 x351005_2 x351006_2) = some r := by first | (rw [hy372]; with_reducible exact H) | exact H
        have Ny372 := Aside0.mk hy372
        clear hy372
        have H' := Aside0.mk H
        clear H
        have hcz28_0 : w24.cell? ⟨gb350, 0, none⟩ = some (.int .u8 x351000_2) := (blk_cell BK350.out 0).trans rfl
        have hcz28_1 : w24.cell? ⟨gb350, 1, none⟩ = some (.int .u64 x351001_2) := (blk_cell BK350.out 1).trans rfl
        have hcz28_2 : w24.cell? ⟨gb350, 2, none⟩ = some (.int .i64 x351002_2) := (blk_cell BK350.out 2).trans rfl
        have hcz28_3 : w24.cell? ⟨gb350, 3, none⟩ = some (.int .u32 x351003_2) := (blk_cell BK350.out 3).trans rfl
        have hcz28_4 : w24.cell? ⟨gb350, 4, none⟩ = some (.int .u8 x351004_2) := (blk_cell BK350.out 4).trans rfl
        have hcz28_5 : w24.cell? ⟨gb350, 5, none⟩ = some (.int .u16 x351005_2) := (blk_cell BK350.out 5).trans rfl
        have hcz28_6 : w24.cell? ⟨gb350, 6, none⟩ = some (.int .u16 x351006_2) := (blk_cell BK350.out 6).trans rfl
        have hfz28_0 := blk_frozen BK350.out 0
        have hfz28_1 := blk_frozen BK350.out 1
        have hfz28_2 := blk_frozen BK350.out 2
        have hfz28_3 := blk_frozen BK350.out 3
        have hfz28_4 := blk_frozen BK350.out 4
        have hfz28_5 := blk_frozen BK350.out 5
        have hfz28_6 := blk_frozen BK350.out 6
        go_wp2_with (first | ((with_reducible refine gate_callee (f := 11) rfl ?_); refine goesL_ (some 26) rfl rfl Try.func11 (by kernel_rfl) rfl #[.agg #[.int .u8 x351000_2, .int .u64 x351001_2, .int .i64 x351002_2, .int .u32 x351003_2, .int .u8 x351004_2, .int .u16 x351005_2, .int .u16 x351006_2]] rfl (by (try simp only [List.map_toArray, List.map_cons, List.map_nil]); first | rfl | (refine qa_arr ?_; (repeat' (first | rfl | refine qa_cons ?_ ?_ | refine qa_int ?_ | refine qa_agg ?_ | refine qa_arr ?_ | omega)); done)) ?_; (with_reducible refine (milestonelaw13_bytes.calls kj2 x351000_2 x351001_2 x351002_2 x351003_2 x351004_2 x351005_2 x351006_2 t369 _ A26.out).mono ?_); rintro e w29 ⟨v370, rfl, ho0, hb⟩; refine ⟨_, rfl, ?_⟩; have n0_ := Aside0.mk (Kd.R_below (by exact HO361.out) hb); have n1_ := Aside0.mk (Kd.R_elder' (by exact HO364.out) (Kd.R_base ho0) hb); have n2_ := Aside0.mk (Kd.R_elder' (by exact HO367.out) (Kd.R_base ho0) hb); have n3_ := Aside0.mk (Kd.R_lower (Kd.R_new' (Kd.R_new' ho0 (Kd.R_lt (by exact HO364.out))) (Kd.R_lt (by exact HO367.out))) (below_size (by repeat (first | (with_reducible first | exact HB.out | refine below_set ?_ GE350.out))))); have n4_ := Aside0.mk (blk_below (g := gb350) (o := .cells #[.int .u8 x351000_2, .int .u64 x351001_2, .int .i64 x351002_2, .int .u32 x351003_2, .int .u8 x351004_2, .int .u16 x351005_2, .int .u16 x351006_2] 28 (0, 0)) (by exact BK350.out) hb); have n5_ := Aside0.mk (below_step (by repeat (first | (with_reducible first | exact HB.out | refine below_set ?_ GE350.out))) hb); clear HO361; clear HO364; clear HO367; clear BK350; clear HB; have HO361 := n0_; have HO364 := n1_; have HO367 := n2_; have HO371 := n3_; have BK350 := n4_; have HB := n5_; clear n0_ n1_ n2_ n3_ n4_ n5_; (try clear hb); (try clear hb2); (try clear hk); (try clear hi); (try clear ho0); obtain ⟨Ao31, co31, eo31⟩ := Kd.R_slice HO371.out; subst eo31) | ((with_reducible refine gate_builtin (b := .append) (xs := #[.tmp 24, .tmp 26]) rfl ?_); at_builtin; refine Kd.R_append_rows (Kd.int .u8) (w0 := w) w.heap.size rfl (.tmp 24) (.tmp 26) 30 5 (.int .u8 0) 1 rfl Try.underlying30 info5 rfl (by decide) (by omega) v366 y365 t369 _ _ _ (fun k_ => some k_ ≠ (v363 : Value).ownBlock ∧ some k_ ≠ (.slice Ao31 t369.length co31 : Value).ownBlock) (fun _ => False) rfl rfl ?aO ?aR (fun _ _ h => h) (fun _ h => h.elim) ?aF ?aB ?aS ?aL ?_; (case aR => repeat (first | exact (Kd.R_reads' HO371.out).2.2 | (with_reducible refine Kd.C_drew ?_))); (case aB => exact (by repeat (first | (with_reducible first | exact HB.out | refine below_set ?_ GE350.out)))); (case aF => exact (fun k_ hk => ⟨Kd.fresh' (Kd.R_lt (by exact HO364.out)) k_ hk, Kd.fresh' (Kd.R_lt (by exact HO371.out)) k_ hk⟩)); (case aO => exact (by exact Kd.R_mono HO367.out (fun _ hk => ⟨hk.1.2, hk.2⟩))); (case aS => exact (below_size (by repeat (first | (with_reducible first | exact HB.out | refine below_set ?_ GE350.out))))); (case aL => have := LMc27.out; omega); intro v373 w30 ho hb hg hat; rw [← Ny372.out] at ho; have n0_ := Aside0.mk (blk_grown (g := gb350) (o := .cells #[.int .u8 x351000_2, .int .u64 x351001_2, .int .i64 x351002_2, .int .u32 x351003_2, .int .u8 x351004_2, .int .u16 x351005_2, .int .u16 x351006_2] 28 (0, 0)) (by exact BK350.out) hg (Kd.R_ne HO367.out BK350.out (by decide))); have n1_ := Aside0.mk (Kd.R_over' (by exact HO361.out) (Kd.R_typed (by exact HO367.out)) (by decide) hg); have n2_ := Aside0.mk (Kd.R_after (ok := (fun k_ => some k_ ≠ (.slice Ao31 t369.length co31 : Value).ownBlock)) (by exact Kd.R_mono HO364.out (fun _ hk => ⟨hk.2, hk.1.2⟩)) hg hat); have n3_ := Aside0.mk (Kd.R_after (ok := (fun k_ => some k_ ≠ (v363 : Value).ownBlock)) (by exact Kd.R_mono HO371.out (fun _ hk => ⟨hk.1.2, hk.2⟩)) hg hat); have n4_ := Aside0.mk (hb); have n5_ := Aside0.mk (ho); clear BK350; clear HO361; clear HO364; clear HO371; clear HB; clear HO367; have BK350 := n0_; have HO361 := n1_; have HO364 := n2_; have HO371 := n3_; have HB := n4_; have HO374 := n5_; clear n0_ n1_ n2_ n3_ n4_ n5_; clear ho hb hg hat))
        go_meet
        case rel => exact ⟨_, (y372), H', ⟨by have := HJ2.out; first | omega⟩, ⟨by exact Kd.R_mono HO364.out (fun _ hk => hk.2)⟩, ⟨by exact Kd.R_mono HO374.out (fun _ hk => hk.1)⟩, ⟨by exact BK350.out⟩, ⟨by repeat (first | (with_reducible first | exact HB.out | refine below_set ?_ GE350.out))⟩⟩
      · rw [if_neg c27] at H
        exact absurd H (by simp)
    · replace c25 := Bool.eq_false_iff.mpr c25
      subst c25
      have H1 : (milestonelaw13_MessageRights.j1 kj2 t362 y365 x351000_2 x351001_2 x351002_2 x351003_2 x351004_2 x351005_2 x351006_2) = some r := by rw [if_neg (show ¬ (false = true) by decide)] at H; exact H
      clear H
      have H := H1
      clear H1
      have H' := Aside0.mk H
      clear H
      go_wp2
      go_meet
      case rel => exact ⟨_, (y365), H', ⟨by have := HJ2.out; first | omega⟩, ⟨by exact Kd.R_mono HO364.out (fun _ hk => hk.2)⟩, ⟨by exact Kd.R_mono HO367.out (fun _ hk => hk.2)⟩, ⟨by exact BK350.out⟩, ⟨by repeat (first | (with_reducible first | exact HB.out | refine below_set ?_ GE350.out))⟩⟩
   case rest =>
    clear HC15
    try clear c1
    try clear c2
    try clear p2
    try clear c3
    try clear c5
    try clear c5b0
    try clear c7
    try clear c8
    try clear c9
    try clear c10
    try clear c11
    try clear c25
    try clear c27
    try clear hcz11_0
    try clear hcz11_1
    try clear hcz11_2
    try clear hcz11_3
    try clear hcz11_4
    try clear hcz11_5
    try clear hcz11_6
    try clear hcz12_0
    try clear hcz12_1
    try clear hcz12_2
    try clear hcz12_3
    try clear hcz12_4
    try clear hcz12_5
    try clear hcz12_6
    try clear hcz16_0
    try clear hcz16_1
    try clear hcz16_2
    try clear hcz16_3
    try clear hcz16_4
    try clear hcz16_5
    try clear hcz16_6
    try clear hcz23_0
    try clear hcz23_1
    try clear hcz23_2
    try clear hcz23_3
    try clear hcz23_4
    try clear hcz23_5
    try clear hcz23_6
    try clear hcz28_0
    try clear hcz28_1
    try clear hcz28_2
    try clear hcz28_3
    try clear hcz28_4
    try clear hcz28_5
    try clear hcz28_6
    try clear hcz7_0
    try clear hcz7_1
    try clear hcz7_2
    try clear hcz7_3
    try clear hcz7_4
    try clear hcz7_5
    try clear hcz7_6
    try clear hfz11_0
    try clear hfz11_1
    try clear hfz11_2
    try clear hfz11_3
    try clear hfz11_4
    try clear hfz11_5
    try clear hfz11_6
    try clear hfz12_0
    try clear hfz12_1
    try clear hfz12_2
    try clear hfz12_3
    try clear hfz12_4
    try clear hfz12_5
    try clear hfz12_6
    try clear hfz16_0
    try clear hfz16_1
    try clear hfz16_2
    try clear hfz16_3
    try clear hfz16_4
    try clear hfz16_5
    try clear hfz16_6
    try clear hfz23_0
    try clear hfz23_1
    try clear hfz23_2
    try clear hfz23_3
    try clear hfz23_4
    try clear hfz23_5
    try clear hfz23_6
    try clear hfz28_0
    try clear hfz28_1
    try clear hfz28_2
    try clear hfz28_3
    try clear hfz28_4
    try clear hfz28_5
    try clear hfz28_6
    try clear hfz7_0
    try clear hfz7_1
    try clear hfz7_2
    try clear hfz7_3
    try clear hfz7_4
    try clear hfz7_5
    try clear hfz7_6
    try clear p2
    obtain ⟨kq, x7_14, HA, HJ14, HO_6, HO_7, BK350, HB⟩ := hcut
    cases kq with
    | zero => exact absurd HA.out (by simp [milestonelaw13_MessageRights.j1])
    | succ kj14 =>
     have H := HA.out
     clear HA
     simp only [milestonelaw13_MessageRights.j1] at H
     replace H := Option.bind_eq_some_iff.mp H
     obtain ⟨t375, A320, H⟩ := H
     replace H : (if t375 = true then ((message_Right.f x351000_2 x351001_2 x351002_2 x351003_2 x351004_2 x351005_2 x351006_2).bind fun t376 => ((milestonelaw13_right.f kj14 x351000_2 x351001_2 x351002_2 x351003_2 x351004_2 x351005_2 x351006_2).bind fun t377 => (if (t376 == t377) = true then ((milestonelaw13_packet.f kj14 x7_14).bind fun t378 => (some ((strOfNums t362).toList == (strOfNums t378).toList))) else (some false)))) else (some false)) = some r := H
     have A32 := Aside0.mk A320
     clear A320
     by_cases c33 : t375 = true
     · subst c33
       have H1 : ((message_Right.f x351000_2 x351001_2 x351002_2 x351003_2 x351004_2 x351005_2 x351006_2).bind fun t376 => ((milestonelaw13_right.f kj14 x351000_2 x351001_2 x351002_2 x351003_2 x351004_2 x351005_2 x351006_2).bind fun t377 => (if (t376 == t377) = true then ((milestonelaw13_packet.f kj14 x7_14).bind fun t378 => (some ((strOfNums t362).toList == (strOfNums t378).toList))) else (some false)))) = some r := by rw [if_pos rfl] at H; exact H
       clear H
       have H := H1
       clear H1
       replace H := Option.bind_eq_some_iff.mp H
       obtain ⟨t376, A340, H⟩ := H
       replace H : ((milestonelaw13_right.f kj14 x351000_2 x351001_2 x351002_2 x351003_2 x351004_2 x351005_2 x351006_2).bind fun t377 => (if (t376 == t377) = true then ((milestonelaw13_packet.f kj14 x7_14).bind fun t378 => (some ((strOfNums t362).toList == (strOfNums t378).toList))) else (some false))) = some r := H
       have A34 := Aside0.mk A340
       clear A340
       replace H := Option.bind_eq_some_iff.mp H
       obtain ⟨t377, A350, H⟩ := H
       replace H : (if (t376 == t377) = true then ((milestonelaw13_packet.f kj14 x7_14).bind fun t378 => (some ((strOfNums t362).toList == (strOfNums t378).toList))) else (some false)) = some r := H
       have A35 := Aside0.mk A350
       clear A350
       by_cases c36 : (t376 == t377) = true
       · rw [if_pos c36] at H
         have c36b0 : (t376 == t377) = true := c36
         (try (have c36b1 : decide (t376 = t377) = true := by simpa using c36))
         (try (have c36b2 : (t376 == t377) = true := by simpa using c36))
         clear c36
         replace H := Option.bind_eq_some_iff.mp H
         obtain ⟨t378, A370, H⟩ := H
         replace H : (some ((strOfNums t362).toList == (strOfNums t378).toList)) = some r := H
         have A37 := Aside0.mk A370
         clear A370
         obtain rfl := Option.some.inj H
         simp only [Option.some.injEq, Prod.mk.injEq] at H
         obtain ⟨rfl⟩ := H
         try go_wp2
         have n0_ := Aside0.mk (Kd.R_drew HO_6.out)
         have n1_ := Aside0.mk (Kd.R_drew HO_7.out)
         have n2_ := Aside0.mk (blk_drew BK350.out)
         have n3_ := Aside0.mk (below_drew1 HB.out)
         clear HO_6
         clear HO_7
         clear BK350
         clear HB
         have HO_6 := n0_
         have HO_7 := n1_
         have BK350 := n2_
         have HB := n3_
         clear n0_ n1_ n2_ n3_
         refine start_ (n := 17) (S := fun w' => w'.cell? ⟨gb350, 0, none⟩ = some (.int .u8 x351000_2) ∧ w'.cell? ⟨gb350, 1, none⟩ = some (.int .u64 x351001_2) ∧ w'.cell? ⟨gb350, 2, none⟩ = some (.int .i64 x351002_2) ∧ w'.cell? ⟨gb350, 3, none⟩ = some (.int .u32 x351003_2) ∧ w'.cell? ⟨gb350, 4, none⟩ = some (.int .u8 x351004_2) ∧ w'.cell? ⟨gb350, 5, none⟩ = some (.int .u16 x351005_2) ∧ w'.cell? ⟨gb350, 6, none⟩ = some (.int .u16 x351006_2) ∧ (convert 30 9 (v363)).run Try.prog w' = .ok (.string (strOfNums t362)) w') (ds := []) #[false, false, false, false, false, false, false, false, false, false, false, false, false, false, false, false, false] (by kernel_rfl) rfl rfl ⟨(blk_cell BK350.out 0).trans rfl, (blk_cell BK350.out 1).trans rfl, (blk_cell BK350.out 2).trans rfl, (blk_cell BK350.out 3).trans rfl, (blk_cell BK350.out 4).trans rfl, (blk_cell BK350.out 5).trans rfl, (blk_cell BK350.out 6).trans rfl, (own_string (P := Try.prog) Try.underlying30 Try.underlying5 Try.underlying9 (Kd.own_of_R HO_6.out))⟩ (fun hHeld => ?_); refine with_tabW milestonelaw13_MessageRights.tab9 milestonelaw13_MessageRights.bits9 (fun HT_ HW_ => ?_)
         generalize wc.drew = w38 at HO_6 HO_7 BK350 HB hHeld ⊢
         refine one_ (i := 0) (N := some 28) #[true, false, false, false, false, false, false, false, false, false, false, false, false, false, false, false, false] rfl rfl (one_of HT_.out (by kernel_rfl)) (by decide) (fun K hK => ?_)
         refine goes_ Try.func12 (by kernel_rfl) rfl #[] (by rfl) rfl rfl (by (try simp only [List.map_toArray, List.map_cons, List.map_nil]); first | done | (simp only [List.length_drop, List.length_take]; rfl)) ?_
         with_reducible refine (milestonelaw13_awake.calls kj14  true _ A32.out).mono ?_
         rintro e w39 ⟨rfl, hb⟩
         refine ⟨_, rfl, ?_⟩
         have n0_ := Aside0.mk (Kd.R_below (by exact HO_6.out) hb)
         have n1_ := Aside0.mk (Kd.R_below (by exact HO_7.out) hb)
         have n2_ := Aside0.mk (blk_below (g := gb350) (o := .cells #[.int .u8 x351000_2, .int .u64 x351001_2, .int .i64 x351002_2, .int .u32 x351003_2, .int .u8 x351004_2, .int .u16 x351005_2, .int .u16 x351006_2] 28 (0, 0)) (by exact BK350.out) hb)
         have n3_ := Aside0.mk (below_step (by repeat (first | (with_reducible first | exact HB.out | refine below_set ?_ GE350.out))) hb)
         clear HO_6
         clear HO_7
         clear BK350
         clear HB
         have HO_6 := n0_
         have HO_7 := n1_
         have BK350 := n2_
         have HB := n3_
         clear n0_ n1_ n2_ n3_
         (try clear hb)
         (try clear hb2)
         (try clear hk)
         (try clear hi)
         refine hK.out _ _ ⟨(blk_cell BK350.out 0).trans rfl, (blk_cell BK350.out 1).trans rfl, (blk_cell BK350.out 2).trans rfl, (blk_cell BK350.out 3).trans rfl, (blk_cell BK350.out 4).trans rfl, (blk_cell BK350.out 5).trans rfl, (blk_cell BK350.out 6).trans rfl, (own_string (P := Try.prog) Try.underlying30 Try.underlying5 Try.underlying9 (Kd.own_of_R HO_6.out))⟩ (fun hHeld => ?_)
         clear hK K
         refine norm_ (a' := ?_) ?_ ?_
         rotate_left
         · show Act.put _ (some 28) _ = _
           simp only [Act.put, List.setIfInBounds_toArray, List.set_cons_zero, List.set_cons_succ, i64_w, i32_w]
           rfl
         refine pure_ (i := 1) (N := some 29) (v := ?_) (a' := ?_) #[true, true, false, false, false, false, false, false, false, false, false, false, false, false, false, false, false] rfl rfl (any_of HT_.out (by kernel_rfl)) (fun _ _ _ h => h) (Or.inl ⟨by rfl, ?_⟩) ?_ ?_
         rotate_left
         · intro w'
           go_simp
           with_reducible rfl
         rotate_left
         · simp only [Act.put, List.setIfInBounds_toArray, List.set_cons_zero, List.set_cons_succ, i64_w, i32_w]
           rfl
         refine take_ (i := 2) (N := some 30) (v := ?_) (a' := ?_) #[true, true, true, false, false, false, false, false, false, false, false, false, false, false, false, false, false] rfl rfl (take_ofW HT_.out HW_.out (by kernel_rfl)) (fun _ _ _ h => h) (Or.inl ⟨by rfl, ?_⟩) hHeld ?_ ?_
         rotate_left
         · rintro w' ⟨s0, s1, s2, s3, s4, s5, s6, s7⟩
           go_simp
           with_reducible rfl
         rotate_left
         · simp only [Act.put, List.setIfInBounds_toArray, List.set_cons_zero, List.set_cons_succ, i64_w, i32_w]
           rfl
         refine take_ (i := 4) (N := some 32) (v := ?_) (a' := ?_) #[true, true, true, false, true, false, false, false, false, false, false, false, false, false, false, false, false] rfl rfl (take_ofW HT_.out HW_.out (by kernel_rfl)) (fun _ _ _ h => h) (Or.inl ⟨by rfl, ?_⟩) hHeld ?_ ?_
         rotate_left
         · rintro w' ⟨s0, s1, s2, s3, s4, s5, s6, s7⟩
           go_simp
           with_reducible rfl
         rotate_left
         · simp only [Act.put, List.setIfInBounds_toArray, List.set_cons_zero, List.set_cons_succ, i64_w, i32_w]
           rfl
         refine one_ (i := 3) (N := some 31) #[true, true, true, true, true, false, false, false, false, false, false, false, false, false, false, false, false] rfl rfl (one_of HT_.out (by kernel_rfl)) (by decide) (fun K hK => ?_)
         refine goes_ Try.func13 (by kernel_rfl) rfl #[.agg #[.int .u8 x351000_2, .int .u64 x351001_2, .int .i64 x351002_2, .int .u32 x351003_2, .int .u8 x351004_2, .int .u16 x351005_2, .int .u16 x351006_2]] (by rfl) rfl rfl (by (try simp only [List.map_toArray, List.map_cons, List.map_nil]); first | rfl) ?_
         with_reducible refine (message_Right.calls x351000_2 x351001_2 x351002_2 x351003_2 x351004_2 x351005_2 x351006_2 t376 _ A34.out).mono ?_
         rintro e w40 ⟨rfl, hb⟩
         refine ⟨_, rfl, ?_⟩
         have n0_ := Aside0.mk (Kd.R_below (by exact HO_6.out) hb)
         have n1_ := Aside0.mk (Kd.R_below (by exact HO_7.out) hb)
         have n2_ := Aside0.mk (blk_below (g := gb350) (o := .cells #[.int .u8 x351000_2, .int .u64 x351001_2, .int .i64 x351002_2, .int .u32 x351003_2, .int .u8 x351004_2, .int .u16 x351005_2, .int .u16 x351006_2] 28 (0, 0)) (by exact BK350.out) hb)
         have n3_ := Aside0.mk (below_step (by repeat (first | (with_reducible first | exact HB.out | refine below_set ?_ GE350.out))) hb)
         clear HO_6
         clear HO_7
         clear BK350
         clear HB
         have HO_6 := n0_
         have HO_7 := n1_
         have BK350 := n2_
         have HB := n3_
         clear n0_ n1_ n2_ n3_
         (try clear hb)
         (try clear hb2)
         (try clear hk)
         (try clear hi)
         refine hK.out _ _ ⟨(blk_cell BK350.out 0).trans rfl, (blk_cell BK350.out 1).trans rfl, (blk_cell BK350.out 2).trans rfl, (blk_cell BK350.out 3).trans rfl, (blk_cell BK350.out 4).trans rfl, (blk_cell BK350.out 5).trans rfl, (blk_cell BK350.out 6).trans rfl, (own_string (P := Try.prog) Try.underlying30 Try.underlying5 Try.underlying9 (Kd.own_of_R HO_6.out))⟩ (fun hHeld => ?_)
         clear hK K
         refine norm_ (a' := ?_) ?_ ?_
         rotate_left
         · show Act.put _ (some 31) _ = _
           simp only [Act.put, List.setIfInBounds_toArray, List.set_cons_zero, List.set_cons_succ, i64_w, i32_w]
           rfl
         refine one_ (i := 5) (N := some 33) #[true, true, true, true, true, true, false, false, false, false, false, false, false, false, false, false, false] rfl rfl (one_of HT_.out (by kernel_rfl)) (by decide) (fun K hK => ?_)
         refine goes_ Try.func10 (by kernel_rfl) rfl #[.agg #[.int .u8 x351000_2, .int .u64 x351001_2, .int .i64 x351002_2, .int .u32 x351003_2, .int .u8 x351004_2, .int .u16 x351005_2, .int .u16 x351006_2]] (by rfl) rfl rfl (by (try simp only [List.map_toArray, List.map_cons, List.map_nil]); first | rfl) ?_
         with_reducible refine (milestonelaw13_right.calls kj14 x351000_2 x351001_2 x351002_2 x351003_2 x351004_2 x351005_2 x351006_2 t377 _ A35.out).mono ?_
         rintro e w41 ⟨rfl, hb⟩
         refine ⟨_, rfl, ?_⟩
         have n0_ := Aside0.mk (Kd.R_below (by exact HO_6.out) hb)
         have n1_ := Aside0.mk (Kd.R_below (by exact HO_7.out) hb)
         have n2_ := Aside0.mk (blk_below (g := gb350) (o := .cells #[.int .u8 x351000_2, .int .u64 x351001_2, .int .i64 x351002_2, .int .u32 x351003_2, .int .u8 x351004_2, .int .u16 x351005_2, .int .u16 x351006_2] 28 (0, 0)) (by exact BK350.out) hb)
         have n3_ := Aside0.mk (below_step (by repeat (first | (with_reducible first | exact HB.out | refine below_set ?_ GE350.out))) hb)
         clear HO_6
         clear HO_7
         clear BK350
         clear HB
         have HO_6 := n0_
         have HO_7 := n1_
         have BK350 := n2_
         have HB := n3_
         clear n0_ n1_ n2_ n3_
         (try clear hb)
         (try clear hb2)
         (try clear hk)
         (try clear hi)
         obtain ⟨Ao42, co42, eo42⟩ := Kd.R_slice HO_7.out
         (first | subst eo42)
         refine hK.out _ _ ⟨(blk_cell BK350.out 0).trans rfl, (blk_cell BK350.out 1).trans rfl, (blk_cell BK350.out 2).trans rfl, (blk_cell BK350.out 3).trans rfl, (blk_cell BK350.out 4).trans rfl, (blk_cell BK350.out 5).trans rfl, (blk_cell BK350.out 6).trans rfl, (own_string (P := Try.prog) Try.underlying30 Try.underlying5 Try.underlying9 (Kd.own_of_R HO_6.out))⟩ (fun hHeld => ?_)
         clear hK K
         refine norm_ (a' := ?_) ?_ ?_
         rotate_left
         · show Act.put _ (some 33) _ = _
           simp only [Act.put, List.setIfInBounds_toArray, List.set_cons_zero, List.set_cons_succ, i64_w, i32_w]
           rfl
         refine pure_ (i := 6) (N := some 34) (v := ?_) (a' := ?_) #[true, true, true, true, true, true, true, false, false, false, false, false, false, false, false, false, false] rfl rfl (any_of HT_.out (by kernel_rfl)) (fun _ _ _ h => h) (Or.inl ⟨by rfl, ?_⟩) ?_ ?_
         rotate_left
         · intro w'
           go_simp
           with_reducible rfl
         rotate_left
         · simp only [Act.put, List.setIfInBounds_toArray, List.set_cons_zero, List.set_cons_succ, i64_w, i32_w]
           rfl
         refine pure_ (i := 7) (N := some 35) (v := ?_) (a' := ?_) #[true, true, true, true, true, true, true, true, false, false, false, false, false, false, false, false, false] rfl rfl (any_of HT_.out (by kernel_rfl)) (fun _ _ _ h => h) (Or.inl ⟨by rfl, ?_⟩) ?_ ?_
         rotate_left
         · intro w'
           go_simp
           with_reducible rfl
         rotate_left
         · simp only [Act.put, List.setIfInBounds_toArray, List.set_cons_zero, List.set_cons_succ, i64_w, i32_w]
           rfl
         refine pure_ (i := 8) (N := some 36) (v := ?_) (a' := ?_) #[true, true, true, true, true, true, true, true, true, false, false, false, false, false, false, false, false] rfl rfl (any_of HT_.out (by kernel_rfl)) (fun _ _ _ h => h) (Or.inl ⟨by rfl, ?_⟩) ?_ ?_
         rotate_left
         · intro w'
           go_simp
           with_reducible rfl
         rotate_left
         · simp only [Act.put, List.setIfInBounds_toArray, List.set_cons_zero, List.set_cons_succ, i64_w, i32_w]
           rfl
         refine pure_ (i := 9) (N := some 37) (v := ?_) (a' := ?_) #[true, true, true, true, true, true, true, true, true, true, false, false, false, false, false, false, false] rfl rfl (any_of HT_.out (by kernel_rfl)) (fun _ _ _ h => h) (Or.inl ⟨by rfl, ?_⟩) ?_ ?_
         rotate_left
         · intro w'
           go_simp
           with_reducible rfl
         rotate_left
         · simp only [Act.put, List.setIfInBounds_toArray, List.set_cons_zero, List.set_cons_succ, i64_w, i32_w]
           rfl
         refine pure_ (i := 11) (N := some 39) (v := ?_) (a' := ?_) #[true, true, true, true, true, true, true, true, true, true, false, true, false, false, false, false, false] rfl rfl (any_of HT_.out (by kernel_rfl)) (fun _ _ _ h => h) (Or.inl ⟨by rfl, ?_⟩) ?_ ?_
         rotate_left
         · intro w'
           go_simp
           with_reducible rfl
         rotate_left
         · simp only [Act.put, List.setIfInBounds_toArray, List.set_cons_zero, List.set_cons_succ, i64_w, i32_w]
           rfl
         refine take_ (i := 10) (N := some 38) (v := ?_) (a' := ?_) #[true, true, true, true, true, true, true, true, true, true, true, true, false, false, false, false, false] rfl rfl (take_ofW HT_.out HW_.out (by kernel_rfl)) (fun _ _ _ h => h) (Or.inl ⟨by rfl, ?_⟩) hHeld ?_ ?_
         rotate_left
         · rintro w' ⟨s0, s1, s2, s3, s4, s5, s6, s7⟩
           go_simp
           with_reducible rfl
         rotate_left
         · simp only [Act.put, List.setIfInBounds_toArray, List.set_cons_zero, List.set_cons_succ, i64_w, i32_w]
           rfl
         refine one_ (i := 12) (N := some 40) #[true, true, true, true, true, true, true, true, true, true, true, true, true, false, false, false, false] rfl rfl (one_of HT_.out (by kernel_rfl)) (by decide) (fun K hK => ?_)
         refine goes_ Try.func14 (by kernel_rfl) rfl #[.slice Ao42 x7_14.length co42] (by rfl) rfl rfl (by (try simp only [List.map_toArray, List.map_cons, List.map_nil]); first | rfl) ?_
         with_reducible refine (milestonelaw13_packet.calls kj14 _ _ x7_14 t378 _ ?side1 ?side2 A37.out).mono ?_
         (case side1 => repeat (first | exact (Kd.R_reads' HO_7.out).2.2 | (with_reducible refine Kd.C_drew ?_)))
         (case side2 => exact (Kd.R_reads' HO_7.out).2.1)
         rintro e w43 ⟨v379, rfl, ho0, hb⟩
         refine ⟨_, rfl, ?_⟩
         have n0_ := Aside0.mk (Kd.R_elder' (by exact HO_6.out) (Kd.R_base ho0) hb)
         have n1_ := Aside0.mk (Kd.R_elder' (by exact HO_7.out) (Kd.R_base ho0) hb)
         have n2_ := Aside0.mk (Kd.R_lower (Kd.R_new' (Kd.R_new' ho0 (Kd.R_lt (by exact HO_6.out))) (Kd.R_lt (by exact HO_7.out))) (below_size (by repeat (first | (with_reducible first | exact HB.out | refine below_set ?_ GE350.out)))))
         have n3_ := Aside0.mk (blk_below (g := gb350) (o := .cells #[.int .u8 x351000_2, .int .u64 x351001_2, .int .i64 x351002_2, .int .u32 x351003_2, .int .u8 x351004_2, .int .u16 x351005_2, .int .u16 x351006_2] 28 (0, 0)) (by exact BK350.out) hb)
         have n4_ := Aside0.mk (below_step (by repeat (first | (with_reducible first | exact HB.out | refine below_set ?_ GE350.out))) hb)
         clear HO_6
         clear HO_7
         clear BK350
         clear HB
         have HO_6 := n0_
         have HO_7 := n1_
         have HO380 := n2_
         have BK350 := n3_
         have HB := n4_
         clear n0_ n1_ n2_ n3_ n4_
         (try clear hb)
         (try clear hb2)
         (try clear hk)
         (try clear hi)
         (try clear ho0)
         refine hK.out _ _ ⟨(blk_cell BK350.out 0).trans rfl, (blk_cell BK350.out 1).trans rfl, (blk_cell BK350.out 2).trans rfl, (blk_cell BK350.out 3).trans rfl, (blk_cell BK350.out 4).trans rfl, (blk_cell BK350.out 5).trans rfl, (blk_cell BK350.out 6).trans rfl, (own_string (P := Try.prog) Try.underlying30 Try.underlying5 Try.underlying9 (Kd.own_of_R HO_6.out))⟩ (fun hHeld => ?_)
         clear hK K
         refine norm_ (a' := ?_) ?_ ?_
         rotate_left
         · show Act.put _ (some 40) _ = _
           simp only [Act.put, List.setIfInBounds_toArray, List.set_cons_zero, List.set_cons_succ, i64_w, i32_w]
           rfl
         refine one_ (i := 13) (N := some 41) #[true, true, true, true, true, true, true, true, true, true, true, true, true, true, false, false, false] rfl rfl (one_of HT_.out (by kernel_rfl)) (by decide) (fun K hK => ?_)
         have hcv44 := own_string (P := Try.prog) Try.underlying30 Try.underlying5 Try.underlying9 (Kd.own_of_R HO380.out)
         refine value_ (w1 := ?_) (v := ?_) (by rfl) rfl ?_ ?_
         rotate_left 2
         · go_simp
           constructor
           · rfl
           · rfl
         clear hcv44
         refine hK.out _ _ ⟨(blk_cell BK350.out 0).trans rfl, (blk_cell BK350.out 1).trans rfl, (blk_cell BK350.out 2).trans rfl, (blk_cell BK350.out 3).trans rfl, (blk_cell BK350.out 4).trans rfl, (blk_cell BK350.out 5).trans rfl, (blk_cell BK350.out 6).trans rfl, (own_string (P := Try.prog) Try.underlying30 Try.underlying5 Try.underlying9 (Kd.own_of_R HO_6.out))⟩ (fun hHeld => ?_)
         clear hK K
         refine norm_ (a' := ?_) ?_ ?_
         rotate_left
         · show Act.put _ (some 41) _ = _
           simp only [Act.put, List.setIfInBounds_toArray, List.set_cons_zero, List.set_cons_succ, i64_w, i32_w]
           rfl
         refine pure_ (i := 14) (N := some 42) (v := ?_) (a' := ?_) #[true, true, true, true, true, true, true, true, true, true, true, true, true, true, true, false, false] rfl rfl (any_of HT_.out (by kernel_rfl)) (fun _ _ _ h => h) (Or.inl ⟨by rfl, ?_⟩) ?_ ?_
         rotate_left
         · intro w'
           go_simp
           with_reducible rfl
         rotate_left
         · simp only [Act.put, List.setIfInBounds_toArray, List.set_cons_zero, List.set_cons_succ, i64_w, i32_w]
           rfl
         refine pure_ (i := 15) (N := some 43) (v := ?_) (a' := ?_) #[true, true, true, true, true, true, true, true, true, true, true, true, true, true, true, true, false] rfl rfl (any_of HT_.out (by kernel_rfl)) (fun _ _ _ h => h) (Or.inl ⟨by rfl, ?_⟩) ?_ ?_
         rotate_left
         · intro w'
           go_simp
           with_reducible rfl
         rotate_left
         · simp only [Act.put, List.setIfInBounds_toArray, List.set_cons_zero, List.set_cons_succ, i64_w, i32_w]
           rfl
         refine pure_ (i := 16) (N := some 4) (v := ?_) (a' := ?_) #[true, true, true, true, true, true, true, true, true, true, true, true, true, true, true, true, true] rfl rfl (any_of HT_.out (by kernel_rfl)) (fun _ _ _ h => h) (Or.inl ⟨by rfl, ?_⟩) ?_ ?_
         rotate_left
         · intro w'
           go_simp
           with_reducible rfl
         rotate_left
         · simp only [Act.put, List.setIfInBounds_toArray, List.set_cons_zero, List.set_cons_succ, i64_w, i32_w]
           rfl
         refine done_ (done_of HT_.out (by kernel_rfl)) ?_
         try go_wp2
         go_ret
         exact ⟨by first | rfl | (simp [*, errW_none, errW_some] <;> rfl), by repeat (first | (with_reducible first | exact HB.out | refine below_set ?_ GE350.out))⟩
       · rw [if_neg c36] at H
         have c36b0 : (t376 == t377) = false := by simpa using c36
         (try (have c36b1 : decide (t376 = t377) = false := by simpa using c36))
         (try (have c36b2 : (t376 == t377) = false := by simpa using c36))
         (try (have c36b3 : ¬ (t376 = t377) := by simpa using c36))
         clear c36
         obtain rfl := Option.some.inj H
         exact absurd HT.out (by decide)
     · replace c33 := Bool.eq_false_iff.mpr c33
       subst c33
       have H1 : (some false) = some r := by rw [if_neg (show ¬ (false = true) by decide)] at H; exact H
       clear H
       have H := H1
       clear H1
       obtain rfl := Option.some.inj H
       exact absurd HT.out (by decide)

/-- THE ONE PURE STATEMENT of milestonelaw13_MessageRights: yours. -/
def milestonelaw13_MessageRights.Pure : Prop := ∀ (a0_0 : Int) (a0_1 : Int) (a0_2 : Int) (a0_3 : Int) (a0_4 : Int) (a0_5 : Int) (a0_6 : Int) (a1 : Int), (Lit.int .u8 a0_0).wf = true → (Lit.int .u64 a0_1).wf = true → (Lit.int .i64 a0_2).wf = true → (Lit.int .u32 a0_3).wf = true → (Lit.int .u8 a0_4).wf = true → (Lit.int .u16 a0_5).wf = true → (Lit.int .u16 a0_6).wf = true → (Lit.int .u8 a1).wf = true → ∃ k, milestonelaw13_MessageRights.f k a0_0 a0_1 a0_2 a0_3 a0_4 a0_5 a0_6 a1 = some true
theorem milestonelaw13_MessageRights.walk (P : milestonelaw13_MessageRights.Pure) (a0_0 : Int) (a0_1 : Int) (a0_2 : Int) (a0_3 : Int) (a0_4 : Int) (a0_5 : Int) (a0_6 : Int) (a1 : Int) (w : World) (w0_0 : (Lit.int .u8 a0_0).wf = true) (w0_1 : (Lit.int .u64 a0_1).wf = true) (w0_2 : (Lit.int .i64 a0_2).wf = true) (w0_3 : (Lit.int .u32 a0_3).wf = true) (w0_4 : (Lit.int .u8 a0_4).wf = true) (w0_5 : (Lit.int .u16 a0_5).wf = true) (w0_6 : (Lit.int .u16 a0_6).wf = true) (w1 : (Lit.int .u8 a1).wf = true) :
 Calls Try.prog 3 #[.agg #[.int .u8 a0_0, .int .u64 a0_1, .int .i64 a0_2, .int .u32 a0_3, .int .u8 a0_4, .int .u16 a0_5, .int .u16 a0_6], .int .u8 a1] w fun e w' => e = .returned (.bool true) ∧ Below w.heap.size w w' := by
 obtain ⟨k, h⟩ := P a0_0 a0_1 a0_2 a0_3 a0_4 a0_5 a0_6 a1 w0_0 w0_1 w0_2 w0_3 w0_4 w0_5 w0_6 w1
 refine (milestonelaw13_MessageRights.calls k a0_0 a0_1 a0_2 a0_3 a0_4 a0_5 a0_6 a1 true w h rfl).mono ?_
 rintro e w' ⟨rfl, hd⟩
 exact ⟨rfl, hd⟩

end Go.Proofs.Ytnfdgpmdakciiaa.QMessageRights
