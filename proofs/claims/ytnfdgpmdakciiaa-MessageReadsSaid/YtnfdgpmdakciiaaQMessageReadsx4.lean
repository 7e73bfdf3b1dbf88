-- Lines by a program of this session, for this claim.
import Derived.Test.YtnfdgpmdakciiaaQMessageReadsx0
import Derived.Test.YtnfdgpmdakciiaaQMessageReadsx2
import Derived.Test.YtnfdgpmdakciiaaQMessageReadsx3
namespace Go.Proofs.Ytnfdgpmdakciiaa.QMessageReads
open Go.RowKit Go.Proofs.YtnfdgpmdakciiaaW.PrintWords Go.Proofs.YtnfdgpmdakciiaaW.PrintLast Go.Proofs.YtnfdgpmdakciiaaW.PrintMore
attribute [local go_sem] max2_int min2_int max_two min_two max_three min_three max_four min_four   -- for this text's walks alone
set_option linter.unusedVariables false
set_option linter.unusedSimpArgs false

/-! ### message_Encode: function 9 -/
mutual
def message_Encode.l0 : Nat → List Int → Int → List (S28) → Int → Int → Option (List Int)
  | 0, _, _, _, _, _ => none
  | k + 1, x3, x4, x15, x16, x17 => if x17 < x16 then (if 0 ≤ x17 then (if x17 < (x15.length : Int) then ((message_Right.f ((rd_T28 x15 x17).f0) ((rd_T28 x15 x17).f1) ((rd_T28 x15 x17).f2) ((rd_T28 x15 x17).f3.f0) ((rd_T28 x15 x17).f3.f1) ((rd_T28 x15 x17).f4) ((rd_T28 x15 x17).f5)).bind fun t145 => (if t145 = true then (message_Encode.j1 k x3 x4 x15 x16 x17 (decide (x4 < 300)) ((rd_T28 x15 x17).f0) ((rd_T28 x15 x17).f1) ((rd_T28 x15 x17).f2) ((rd_T28 x15 x17).f3.f0) ((rd_T28 x15 x17).f3.f1) ((rd_T28 x15 x17).f4) ((rd_T28 x15 x17).f5)) else (message_Encode.j1 k x3 x4 x15 x16 x17 false ((rd_T28 x15 x17).f0) ((rd_T28 x15 x17).f1) ((rd_T28 x15 x17).f2) ((rd_T28 x15 x17).f3.f0) ((rd_T28 x15 x17).f3.f1) ((rd_T28 x15 x17).f4) ((rd_T28 x15 x17).f5)))) else (none)) else (none)) else ((tally_Sum.f k x3).bind fun t136 => ((some (([(t136) % 256, (t136 / 256) % 256, (t136 / 65536) % 256, (t136 / 16777216) % 256] : List Int) : List Int)).bind fun y137 => (if x3.length + y137.length < 140737488355328 then (some (x3 ++ y137)) else (none))))
def message_Encode.j1 : Nat → List Int → Int → List (S28) → Int → Int → Bool → Int → Int → Int → Int → Int → Int → Int → Option (List Int)
  | 0, _, _, _, _, _, _, _, _, _, _, _, _, _ => none
  | k + 1, x3, x4, x15, x16, x17, x26, x145000, x145001, x145002, x145003, x145004, x145005, x145006 => if x26 = true then ((message_body.f k x145000 x145001 x145002 x145003 x145004 x145005 x145006).bind fun t146 => (if x3.length < 140737488355328 then ((coin_Put.f k (x3 ++ [x145000]) (IntKind.u64.wrap ((t146.length : Int)))).bind fun t152 => (if t152.length + t146.length < 140737488355328 then (message_Encode.l0 k (t152 ++ t146) (wrap64 (x4 + 1)) x15 x16 (wrap64 (x17 + 1))) else (none))) else (none))) else (message_Encode.l0 k x3 x4 x15 x16 (wrap64 (x17 + 1)))
end
def message_Encode.f (k : Nat) (a0_0 : Int) (l0_1 : List (S28)) : Option (List Int) := (coin_Put.f k (([1] : List Int)) (IntKind.u64.wrap (a0_0))).bind fun t133 => (message_Encode.l0 k t133 0 l0_1 (l0_1.length : Int) 0)
theorem message_Encode.mono_l : ∀ k, (∀ y0 y1 y2 y3 y4, LeO (message_Encode.l0 k y0 y1 y2 y3 y4) (message_Encode.l0 (k + 1) y0 y1 y2 y3 y4)) ∧ (∀ y0 y1 y2 y3 y4 y5 y6 y7 y8 y9 y10 y11 y12, LeO (message_Encode.j1 k y0 y1 y2 y3 y4 y5 y6 y7 y8 y9 y10 y11 y12) (message_Encode.j1 (k + 1) y0 y1 y2 y3 y4 y5 y6 y7 y8 y9 y10 y11 y12))
  | 0 => ⟨fun _ _ _ _ _ r h => by simp [message_Encode.l0] at h, fun _ _ _ _ _ _ _ _ _ _ _ _ _ r h => by simp [message_Encode.j1] at h⟩
  | k + 1 => by
    obtain ⟨ih0, ih1⟩ := message_Encode.mono_l k
    refine ⟨?_, ?_⟩
    · intro y0 y1 y2 y3 y4
      unfold message_Encode.l0
      repeat' first
      | (with_reducible exact ih0 _ _ _ _ _)
      | (with_reducible exact ih1 _ _ _ _ _ _ _ _ _ _ _ _ _)
      | (with_reducible exact coin_Put.mono _ _ _)
      | (with_reducible exact message_body.mono _ _ _ _ _ _ _ _)
      | (with_reducible exact tally_Sum.mono _ _)
      | (with_reducible exact LeO.refl _)
      | (with_reducible exact LeO.none _)
      | (with_reducible refine LeO.ite ?_ ?_)
      | (with_reducible refine LeO.bind ?_ (fun _ => ?_))
      | exact ih0 _ _ _ _ _
      | exact ih1 _ _ _ _ _ _ _ _ _ _ _ _ _
      | exact coin_Put.mono _ _ _
      | exact message_body.mono _ _ _ _ _ _ _ _
      | exact tally_Sum.mono _ _
      | exact LeO.none _
      | refine LeO.ite ?_ ?_
      | refine LeO.bind ?_ (fun _ => ?_)
    · intro y0 y1 y2 y3 y4 y5 y6 y7 y8 y9 y10 y11 y12
      unfold message_Encode.j1
      repeat' first
      | (with_reducible exact ih0 _ _ _ _ _)
      | (with_reducible exact ih1 _ _ _ _ _ _ _ _ _ _ _ _ _)
      | (with_reducible exact coin_Put.mono _ _ _)
      | (with_reducible exact message_body.mono _ _ _ _ _ _ _ _)
      | (with_reducible exact tally_Sum.mono _ _)
      | (with_reducible exact LeO.refl _)
      | (with_reducible exact LeO.none _)
      | (with_reducible refine LeO.ite ?_ ?_)
      | (with_reducible refine LeO.bind ?_ (fun _ => ?_))
      | exact ih0 _ _ _ _ _
      | exact ih1 _ _ _ _ _ _ _ _ _ _ _ _ _
      | exact coin_Put.mono _ _ _
      | exact message_body.mono _ _ _ _ _ _ _ _
      | exact tally_Sum.mono _ _
      | exact LeO.none _
      | refine LeO.ite ?_ ?_
      | refine LeO.bind ?_ (fun _ => ?_)
theorem message_Encode.mono : ∀ a0 a1 k, LeO (message_Encode.f k a0 a1) (message_Encode.f (k + 1) a0 a1) := by
  intro a0 a1 k
  obtain ⟨ih0, ih1⟩ := message_Encode.mono_l k
  unfold message_Encode.f
  repeat' first
      | (with_reducible exact ih0 _ _ _ _ _)
      | (with_reducible exact ih1 _ _ _ _ _ _ _ _ _ _ _ _ _)
      | (with_reducible exact coin_Put.mono _ _ _)
      | (with_reducible exact message_body.mono _ _ _ _ _ _ _ _)
      | (with_reducible exact tally_Sum.mono _ _)
      | (with_reducible exact LeO.refl _)
      | (with_reducible exact LeO.none _)
      | (with_reducible refine LeO.ite ?_ ?_)
      | (with_reducible refine LeO.bind ?_ (fun _ => ?_))
      | exact ih0 _ _ _ _ _
      | exact ih1 _ _ _ _ _ _ _ _ _ _ _ _ _
      | exact coin_Put.mono _ _ _
      | exact message_body.mono _ _ _ _ _ _ _ _
      | exact tally_Sum.mono _ _
      | exact LeO.none _
      | refine LeO.ite ?_ ?_
      | refine LeO.bind ?_ (fun _ => ?_)
set_option maxHeartbeats 8000000 in
set_option maxRecDepth 100000 in
theorem message_Encode.calls (k : Nat) (a0_0 : Int) (A0_1 : Option Addr) (c0_1 : Nat) (l0_1 : List (S28)) (r : List Int) (w : World) (hr0_1 : Kd.C k28 w A0_1 l0_1.length l0_1) (hc0_1 : l0_1.length ≤ c0_1) (h : message_Encode.f k a0_0 l0_1 = some r) :
    Calls Try.prog 9 #[.agg #[.int .i64 a0_0, .slice A0_1 l0_1.length c0_1]] w fun e w' => ∃ v0_ : Value, e = .returned (v0_) ∧ Kd.R (Kd.int .u8) 5 w' w.heap.size (fun _ => True) v0_ r ∧ Below w.heap.size w w' := by
  have hu34 := Try.underlying34
  have hu28 := Try.underlying28
  have HR0_1 := Aside0.mk hr0_1
  have HC0_1 := Aside0.mk hc0_1
  clear hr0_1 hc0_1
  have HB := Aside0.mk (Below.refl w.heap.size w)
  have H : ((coin_Put.f k (([1] : List Int)) (IntKind.u64.wrap (a0_0))).bind fun t133 => (message_Encode.l0 k t133 0 l0_1 (l0_1.length : Int) 0)) = some r := h
  clear h
  obtain ⟨y130, hy130⟩ : ∃ y_ : List Int, y_ = (([1] : List Int)) := ⟨_, rfl⟩
  replace H : ((coin_Put.f k y130 (IntKind.u64.wrap (a0_0))).bind fun t133 => (message_Encode.l0 k t133 0 l0_1 (l0_1.length : Int) 0)) = some r := by first | (rw [hy130]; with_reducible exact H) | (have H2_ := (Option.bind_some _ _).symm.trans H; rw [hy130]; with_reducible exact H2_) | (have H2_ := (Option.bind_some _ _).symm.trans H; with_reducible exact H2_) | with_reducible exact H | (rw [hy130]; exact H) | exact H
  have Ny130 := Aside0.mk hy130
  clear hy130
  replace H := Option.bind_eq_some_iff.mp H
  obtain ⟨t133, A20, H⟩ := H
  replace H : (message_Encode.l0 k t133 0 l0_1 (l0_1.length : Int) 0) = some r := H
  have A2 := Aside0.mk A20
  clear A20
  have H' := Aside0.mk H
  clear H
  go_enter Try.func9, Try.ntmps9
  go_wp2_with (first | ((with_reducible refine gate_dst (N := 1) rfl ?_); refine box_event ?hg (N := 1) ?hd (cs := #[.int .i64 a0_0, .slice A0_1 l0_1.length c0_1]) (t := 34) ?hr ?_; (case hd => rfl); (case hg => rfl); (case hr => first | (go_simp; done) | (go_simp; rfl)); intro gb129 hg w3 hbox hb; have n0_ := Aside0.mk (below_step (by repeat (first | (with_reducible first | exact HB.out | apply below_alloc | apply pw_below_drewN | apply below_drew1) | exact HB.out)) hb); have n1_ := Aside0.mk (hbox); have n2_ := Aside0.mk ((by rw [hg]; exact (below_size (by repeat (first | (with_reducible first | exact HB.out | apply below_alloc | apply pw_below_drewN | apply below_drew1) | exact HB.out))) : w.heap.size ≤ gb129)); have n3_ := Aside0.mk ((by rw [hg]; exact (below_size (by repeat (first | (with_reducible first | exact HB.out | apply below_alloc | apply pw_below_drewN | apply below_drew1) | exact HB.out))) : w.heap.size ≤ gb129)); clear HB; have HB := n0_; have BK129 := n1_; have GW129 := n2_; have GE129 := n3_; clear n0_ n1_ n2_ n3_; clear hb hbox hg) | ((with_reducible refine gate_dst (N := 9) rfl ?_); refine Kd.R_lit (Kd.int .u8) _ 5 ?hg (N := 9) ?hd (xs := ([1] : List Int)) (inner := [.int .u8 1]) (ok := fun _ => True) (okp := fun _ => True) ?hr ?hp (fun _ hk => hk) trivial (Below.refl _ _) (Nat.le_refl _) (by simp) ?_; (case hd => rfl); (case hg => rfl); (case hr => first | (go_simp; done) | (go_simp; rfl)); (case hp => exact (Reps.one (show Kd.M (Kd.int .u8) _ _ _ 1 [.int .u8 1] from rfl) (Reps.none _ _))); intro v131 w4 ho5 hb hg_ hnew_; clear hg_ hnew_; (first | rw [← Ny130.out] at ho5 | (simp only [Int.reduceToNat] at ho5; rw [← Ny130.out] at ho5)); have n0_ := Aside0.mk (Kd.R_lower ho5 (below_size (by repeat (first | (with_reducible first | exact HB.out | apply below_alloc | apply pw_below_drewN | apply below_drew1 | refine below_set ?_ GE129.out) | exact HB.out)))); have n1_ := Aside0.mk (blk_below (g := gb129) (o := .cells #[.int .i64 a0_0, .slice A0_1 l0_1.length c0_1] 34 (0, 0)) (by (with_reducible repeat (first | refine blk_drewN ?_ _ | refine blk_drew ?_ | refine blk_alloc ?_ _)); exact BK129.out) hb); have n2_ := Aside0.mk (below_step (by repeat (first | (with_reducible first | exact HB.out | apply below_alloc | apply pw_below_drewN | apply below_drew1 | refine below_set ?_ GE129.out) | exact HB.out)) hb); clear BK129; clear HB; have HO132 := n0_; have BK129 := n1_; have HB := n2_; clear n0_ n1_ n2_; clear hb ho5; have hcz6_0 : w4.cell? ⟨gb129, 0, none⟩ = some (.int .i64 a0_0) := (blk_cell BK129.out 0).trans rfl; have hcz6_1 : w4.cell? ⟨gb129, 1, none⟩ = some (.slice A0_1 l0_1.length c0_1) := (blk_cell BK129.out 1).trans rfl; have hfz6_0 := blk_frozen BK129.out 0; have hfz6_1 := blk_frozen BK129.out 1; obtain ⟨Ao7, co7, eo7⟩ := Kd.R_slice HO132.out; subst eo7) | ((with_reducible refine gate_callee (f := 20) rfl ?_); refine goesL_ (some 13) rfl rfl Try.func20 (by kernel_rfl) rfl #[.slice Ao7 y130.length co7, .int .u64 (IntKind.u64.wrap (a0_0))] rfl (by (try simp only [List.map_toArray, List.map_cons, List.map_nil]); first | done | rfl | (simp only [List.length_drop, List.length_take]; rfl) | (simp; done) | (refine qa_arr ?_; (repeat' (first | rfl | refine qa_cons ?_ ?_ | refine qa_int ?_ | refine qa_agg ?_ | refine qa_arr ?_ | omega)); done)) ?_; (with_reducible refine (coin_Put.calls k (fun k_ => some k_ = (.slice Ao7 y130.length co7 : Value).ownBlock) (.slice Ao7 y130.length co7) y130 (IntKind.u64.wrap (a0_0)) t133 w _ ?side1 ?side2 A2.out).mono ?_); (case side1 => repeat (first | (with_reducible first | exact HB.out | apply below_alloc | apply pw_below_drewN | apply below_drew1 | refine below_set ?_ GE129.out) | exact HB.out)); (case side2 => exact Kd.R_tight rfl HO132.out); rintro e w8 ⟨v134, rfl, ho0, hb, hkp⟩; refine ⟨_, rfl, ?_⟩; have n0_ := Aside0.mk (blk_kept (o := .cells #[.int .i64 a0_0, .slice A0_1 l0_1.length c0_1] 34 (0, 0)) (by (with_reducible repeat (first | refine blk_drewN ?_ _ | refine blk_drew ?_ | refine blk_alloc ?_ _)); exact BK129.out) hkp (fun hs_ => (fun e_ => (Kd.R_ne HO132.out BK129.out (by decide)) e_) hs_)); have n1_ := Aside0.mk (Kd.R_mono (ok' := fun k_ => True) ho0 (fun k_ hk_ => trivial)); have n2_ := Aside0.mk (hb); clear BK129; clear HB; clear HO132; have BK129 := n0_; have HO135 := n1_; have HB := n2_; clear n0_ n1_ n2_; (try clear hb); (try clear hkp); (try clear ho0); have hcz9_0 : w8.cell? ⟨gb129, 0, none⟩ = some (.int .i64 a0_0) := (blk_cell BK129.out 0).trans rfl; have hcz9_1 : w8.cell? ⟨gb129, 1, none⟩ = some (.slice A0_1 l0_1.length c0_1) := (blk_cell BK129.out 1).trans rfl; have hfz9_0 := blk_frozen BK129.out 0; have hfz9_1 := blk_frozen BK129.out 1))
  go_loopg [3, 4, 17] k (fun kq v3 v4 v17 w' => ∃ (x3_1 : List Int) (x4_1 : Int) (x17_1 : Int), v4 = .int .i64 x4_1 ∧ v17 = .int .i64 x17_1 ∧ Aside0 (message_Encode.l0 kq x3_1 x4_1 l0_1 (l0_1.length : Int) x17_1 = some r) ∧ Aside0 (kq ≤ k) ∧ Aside0 (Kd.R (Kd.int .u8) 5 w' w.heap.size (fun _ => True) v3 x3_1) ∧ Aside0 (w'.heap[gb129]? = some (.cells #[.int .i64 a0_0, (.slice A0_1 l0_1.length c0_1)] 34 (0, 0))) ∧ Aside0 (Below w.heap.size w w'))
  case atStart => exact ⟨(t133), (0), (0), (by first | rfl | (simp; done) | (simp [*]; done) | (refine qa_int ?_; omega) | (refine qa_int ?_; simp <;> omega)), (by first | rfl | (simp; done) | (simp [*]; done) | (refine qa_int ?_; omega) | (refine qa_int ?_; simp <;> omega)), H', ⟨Nat.le_refl _⟩, ⟨by (with_reducible repeat (first | apply Kd.R_alloc | apply Kd.R_drewN | apply Kd.R_drew)); exact HO135.out⟩, ⟨by (with_reducible repeat (first | refine blk_drewN ?_ _ | refine blk_drew ?_ | refine blk_alloc ?_ _)); exact BK129.out⟩, ⟨by repeat (first | (with_reducible first | exact HB.out | apply below_alloc | apply pw_below_drewN | apply below_drew1 | refine below_set ?_ GE129.out) | exact HB.out)⟩⟩
  case round =>
    clear H'
    try clear c2
    try clear p2
    try clear c9
    try clear hcz6_0
    try clear hcz6_1
    try clear hcz9_0
    try clear hcz9_1
    try clear hfz6_0
    try clear hfz6_1
    try clear hfz9_0
    try clear hfz9_1
    obtain ⟨x3_1, x4_1, x17_1, rfl, rfl, HA, HK1, HO_3, BK129, HB⟩ := hrel
    cases gk with
    | zero => exact absurd HA.out (by simp [message_Encode.l0])
    | succ k1 =>
      have H := HA.out
      clear HA
      simp only [message_Encode.l0] at H
      by_cases c10 : x17_1 < (l0_1.length : Int)
      · rw [if_pos c10] at H
        have c10b0 : decide (x17_1 < (l0_1.length : Int)) = true := decide_eq_true c10
        clear c10
        by_cases c11 : 0 ≤ x17_1
        · rw [if_pos c11] at H
          have c11b0 : decide (0 ≤ x17_1) = true := decide_eq_true c11
          clear c11
          by_cases c12 : x17_1 < (l0_1.length : Int)
          · rw [if_pos c12] at H
            have c12b0 : decide (x17_1 < (l0_1.length : Int)) = true := decide_eq_true c12
            clear c12
            have HC13 := Aside0.mk H
            clear H
            have p143 : 0 ≤ (x17_1 : Int) := of_decide_eq_true (by first | (with_reducible assumption) | assumption)
            have q143 : x17_1 < (l0_1.length : Int) := of_decide_eq_true (by first | (with_reducible assumption) | assumption)
            obtain ⟨ad143, e143, hx143_0, hx143_1, hx143_2, hx143_3, hx143_4, hx143_5, hx143_6⟩ := at_T28 HR0_1.out x17_1 p143 q143
            cases e143
            replace hx143_0 := (HB.out.cell (World.block_lt_of_cell? w _ hx143_0)).trans hx143_0
            replace hx143_1 := (HB.out.cell (World.block_lt_of_cell? w _ hx143_1)).trans hx143_1
            replace hx143_2 := (HB.out.cell (World.block_lt_of_cell? w _ hx143_2)).trans hx143_2
            replace hx143_3 := (HB.out.cell (World.block_lt_of_cell? w _ hx143_3)).trans hx143_3
            replace hx143_4 := (HB.out.cell (World.block_lt_of_cell? w _ hx143_4)).trans hx143_4
            replace hx143_5 := (HB.out.cell (World.block_lt_of_cell? w _ hx143_5)).trans hx143_5
            replace hx143_6 := (HB.out.cell (World.block_lt_of_cell? w _ hx143_6)).trans hx143_6
            replace p143 := eq_true p143
            replace q143 := eq_true q143
            go_upto_region 6 with (first | ((with_reducible refine gate_dst (N := 6) rfl ?_); refine box_event ?hg (N := 6) ?hd (cs := #[.int .u8 0, .int .u64 0, .int .i64 0, .int .u32 0, .int .u8 0, .int .u16 0, .int .u16 0]) (t := 28) ?hr ?_; (case hd => rfl); (case hg => rfl); (case hr => first | (go_simp; done) | (go_simp; rfl)); intro gb144 hg w14 hbox hb; have n0_ := Aside0.mk (Kd.R_below (by (with_reducible repeat (first | apply Kd.R_alloc | apply Kd.R_drewN | apply Kd.R_drew)); exact HO_3.out) hb); have n1_ := Aside0.mk (blk_below (g := gb129) (o := .cells #[.int .i64 a0_0, .slice (some ad143) l0_1.length c0_1] 34 (0, 0)) (by (with_reducible repeat (first | refine blk_drewN ?_ _ | refine blk_drew ?_ | refine blk_alloc ?_ _)); exact BK129.out) hb); have n2_ := Aside0.mk (below_step (by repeat (first | (with_reducible first | exact HB.out | apply below_alloc | apply pw_below_drewN | apply below_drew1 | refine below_set ?_ GE129.out) | exact HB.out)) hb); have n3_ := Aside0.mk (hbox); have n4_ := Aside0.mk ((by rw [hg]; exact (below_size (by repeat (first | (with_reducible first | exact HB.out | apply below_alloc | apply pw_below_drewN | apply below_drew1 | refine below_set ?_ GE129.out) | exact HB.out))) : w.heap.size ≤ gb144)); have n5_ := Aside0.mk ((by rw [hg]; exact (below_size (by repeat (first | (with_reducible first | exact HB.out | apply below_alloc | apply pw_below_drewN | apply below_drew1 | refine below_set ?_ GE129.out) | exact HB.out))) : w.heap.size ≤ gb144)); have n6_ := Aside0.mk ((by rw [hg]; exact Nat.ne_of_lt (blk_lt (g := gb129) (o := .cells #[.int .i64 a0_0, .slice (some ad143) l0_1.length c0_1] 34 (0, 0)) (by (with_reducible repeat (first | refine blk_drewN ?_ _ | refine blk_drew ?_ | refine blk_alloc ?_ _)); exact BK129.out)) : gb129 ≠ gb144)); have n7_ := Aside0.mk ((by rw [hg]; exact Nat.ne_of_gt (blk_lt (g := gb129) (o := .cells #[.int .i64 a0_0, .slice (some ad143) l0_1.length c0_1] 34 (0, 0)) (by (with_reducible repeat (first | refine blk_drewN ?_ _ | refine blk_drew ?_ | refine blk_alloc ?_ _)); exact BK129.out)) : gb144 ≠ gb129)); clear HO_3; clear BK129; clear HB; have HO_3 := n0_; have BK129 := n1_; have HB := n2_; have BK144 := n3_; have GW144 := n4_; have GE144 := n5_; have NB129_144 := n6_; have NB144_129 := n7_; clear n0_ n1_ n2_ n3_ n4_ n5_ n6_ n7_; clear hb hbox hg; have hnb15 := NB144_129.out; have hnc15 := NB129_144.out; have hcz16_0 : w14.cell? ⟨gb144, 0, none⟩ = some (.int .u8 0) := (blk_cell BK144.out 0).trans rfl; have hcz16_1 : w14.cell? ⟨gb144, 1, none⟩ = some (.int .u64 0) := (blk_cell BK144.out 1).trans rfl; have hcz16_2 : w14.cell? ⟨gb144, 2, none⟩ = some (.int .i64 0) := (blk_cell BK144.out 2).trans rfl; have hcz16_3 : w14.cell? ⟨gb144, 3, none⟩ = some (.int .u32 0) := (blk_cell BK144.out 3).trans rfl; have hcz16_4 : w14.cell? ⟨gb144, 4, none⟩ = some (.int .u8 0) := (blk_cell BK144.out 4).trans rfl; have hcz16_5 : w14.cell? ⟨gb144, 5, none⟩ = some (.int .u16 0) := (blk_cell BK144.out 5).trans rfl; have hcz16_6 : w14.cell? ⟨gb144, 6, none⟩ = some (.int .u16 0) := (blk_cell BK144.out 6).trans rfl; have hfz16_0 := blk_frozen BK144.out 0; have hfz16_1 := blk_frozen BK144.out 1; have hfz16_2 := blk_frozen BK144.out 2; have hfz16_3 := blk_frozen BK144.out 3; have hfz16_4 := blk_frozen BK144.out 4; have hfz16_5 := blk_frozen BK144.out 5; have hfz16_6 := blk_frozen BK144.out 6))
            (try simp only [Act.put, List.setIfInBounds_toArray, List.set_cons_zero, List.set_cons_succ])
            go_cut [26] (fun v26 wc => ∃ (kq : Nat) (x26_12 : Bool), v26 = .bool x26_12 ∧ Aside0 (message_Encode.j1 kq x3_1 x4_1 l0_1 (l0_1.length : Int) x17_1 x26_12 ((rd_T28 l0_1 x17_1).f0) ((rd_T28 l0_1 x17_1).f1) ((rd_T28 l0_1 x17_1).f2) ((rd_T28 l0_1 x17_1).f3.f0) ((rd_T28 l0_1 x17_1).f3.f1) ((rd_T28 l0_1 x17_1).f4) ((rd_T28 l0_1 x17_1).f5) = some r) ∧ Aside0 (kq ≤ k1) ∧ Aside0 (Kd.R (Kd.int .u8) 5 wc w.heap.size (fun _ => True) u3 x3_1) ∧ Aside0 (wc.heap[gb129]? = some (.cells #[.int .i64 a0_0, (.slice (some ad143) l0_1.length c0_1)] 34 (0, 0))) ∧ Aside0 (wc.heap[gb144]? = some (.cells #[.int .u8 ((rd_T28 l0_1 x17_1).f0), .int .u64 ((rd_T28 l0_1 x17_1).f1), .int .i64 ((rd_T28 l0_1 x17_1).f2), .int .u32 ((rd_T28 l0_1 x17_1).f3.f0), .int .u8 ((rd_T28 l0_1 x17_1).f3.f1), .int .u16 ((rd_T28 l0_1 x17_1).f4), .int .u16 ((rd_T28 l0_1 x17_1).f5)] 28 (0, 0))) ∧ Aside0 (Below w.heap.size w wc))
            case first =>
              have H := HC13.out
              clear HC13
              replace H := Option.bind_eq_some_iff.mp H
              obtain ⟨t145, A170, H⟩ := H
              replace H : (if t145 = true then (message_Encode.j1 k1 x3_1 x4_1 l0_1 (l0_1.length : Int) x17_1 (decide (x4_1 < 300)) ((rd_T28 l0_1 x17_1).f0) ((rd_T28 l0_1 x17_1).f1) ((rd_T28 l0_1 x17_1).f2) ((rd_T28 l0_1 x17_1).f3.f0) ((rd_T28 l0_1 x17_1).f3.f1) ((rd_T28 l0_1 x17_1).f4) ((rd_T28 l0_1 x17_1).f5)) else (message_Encode.j1 k1 x3_1 x4_1 l0_1 (l0_1.length : Int) x17_1 false ((rd_T28 l0_1 x17_1).f0) ((rd_T28 l0_1 x17_1).f1) ((rd_T28 l0_1 x17_1).f2) ((rd_T28 l0_1 x17_1).f3.f0) ((rd_T28 l0_1 x17_1).f3.f1) ((rd_T28 l0_1 x17_1).f4) ((rd_T28 l0_1 x17_1).f5))) = some r := H
              have A17 := Aside0.mk A170
              clear A170
              by_cases c18 : t145 = true
              · subst c18
                have H1 : (message_Encode.j1 k1 x3_1 x4_1 l0_1 (l0_1.length : Int) x17_1 (decide (x4_1 < 300)) ((rd_T28 l0_1 x17_1).f0) ((rd_T28 l0_1 x17_1).f1) ((rd_T28 l0_1 x17_1).f2) ((rd_T28 l0_1 x17_1).f3.f0) ((rd_T28 l0_1 x17_1).f3.f1) ((rd_T28 l0_1 x17_1).f4) ((rd_T28 l0_1 x17_1).f5)) = some r := by rw [if_pos rfl] at H; exact H
                clear H
                have H := H1
                clear H1
                have H' := Aside0.mk H
                clear H
                have hnb19 := NB144_129.out
                have hnc19 := NB129_144.out
                have hcz20_0 : w14.cell? ⟨gb144, 0, none⟩ = some (.int .u8 0) := (blk_cell BK144.out 0).trans rfl
                have hcz20_1 : w14.cell? ⟨gb144, 1, none⟩ = some (.int .u64 0) := (blk_cell BK144.out 1).trans rfl
                have hcz20_2 : w14.cell? ⟨gb144, 2, none⟩ = some (.int .i64 0) := (blk_cell BK144.out 2).trans rfl
                have hcz20_3 : w14.cell? ⟨gb144, 3, none⟩ = some (.int .u32 0) := (blk_cell BK144.out 3).trans rfl
                have hcz20_4 : w14.cell? ⟨gb144, 4, none⟩ = some (.int .u8 0) := (blk_cell BK144.out 4).trans rfl
                have hcz20_5 : w14.cell? ⟨gb144, 5, none⟩ = some (.int .u16 0) := (blk_cell BK144.out 5).trans rfl
                have hcz20_6 : w14.cell? ⟨gb144, 6, none⟩ = some (.int .u16 0) := (blk_cell BK144.out 6).trans rfl
                have hfz20_0 := blk_frozen BK144.out 0
                have hfz20_1 := blk_frozen BK144.out 1
                have hfz20_2 := blk_frozen BK144.out 2
                have hfz20_3 := blk_frozen BK144.out 3
                have hfz20_4 := blk_frozen BK144.out 4
                have hfz20_5 := blk_frozen BK144.out 5
                have hfz20_6 := blk_frozen BK144.out 6
                go_wp2_with (first | ((with_reducible refine gate_callee (f := 13) rfl ?_); refine goesL_ (some 22) rfl rfl Try.func13 (by kernel_rfl) rfl #[.agg #[.int .u8 ((rd_T28 l0_1 x17_1).f0), .int .u64 ((rd_T28 l0_1 x17_1).f1), .int .i64 ((rd_T28 l0_1 x17_1).f2), .int .u32 ((rd_T28 l0_1 x17_1).f3.f0), .int .u8 ((rd_T28 l0_1 x17_1).f3.f1), .int .u16 ((rd_T28 l0_1 x17_1).f4), .int .u16 ((rd_T28 l0_1 x17_1).f5)]] rfl (by (try simp only [List.map_toArray, List.map_cons, List.map_nil]); first | done | rfl | (simp only [List.length_drop, List.length_take]; rfl) | (simp; done) | (refine qa_arr ?_; (repeat' (first | rfl | refine qa_cons ?_ ?_ | refine qa_int ?_ | refine qa_agg ?_ | refine qa_arr ?_ | omega)); done)) ?_; (with_reducible refine (message_Right.calls ((rd_T28 l0_1 x17_1).f0) ((rd_T28 l0_1 x17_1).f1) ((rd_T28 l0_1 x17_1).f2) ((rd_T28 l0_1 x17_1).f3.f0) ((rd_T28 l0_1 x17_1).f3.f1) ((rd_T28 l0_1 x17_1).f4) ((rd_T28 l0_1 x17_1).f5) true _ A17.out).mono ?_); rintro e w21 ⟨rfl, hb⟩; refine ⟨_, rfl, ?_⟩; have n0_ := Aside0.mk (Kd.R_below (by (with_reducible repeat (first | apply Kd.R_alloc | apply Kd.R_drewN | apply Kd.R_drew)); exact (Kd.R_mono (Kd.R_far (p := ⟨gb144, 6, none⟩) (Kd.R_far (p := ⟨gb144, 5, none⟩) (Kd.R_far (p := ⟨gb144, 4, none⟩) (Kd.R_far (p := ⟨gb144, 3, none⟩) (Kd.R_far (p := ⟨gb144, 2, none⟩) (Kd.R_far (p := ⟨gb144, 1, none⟩) (Kd.R_far (p := ⟨gb144, 0, none⟩) (Kd.R_types HO_3.out BK144.out (by decide)) (fun _ hk => hk.2) (.int .u8 ((rd_T28 l0_1 x17_1).f0))) (fun _ hk => hk.2) (.int .u64 ((rd_T28 l0_1 x17_1).f1))) (fun _ hk => hk.2) (.int .i64 ((rd_T28 l0_1 x17_1).f2))) (fun _ hk => hk.2) (.int .u32 ((rd_T28 l0_1 x17_1).f3.f0))) (fun _ hk => hk.2) (.int .u8 ((rd_T28 l0_1 x17_1).f3.f1))) (fun _ hk => hk.2) (.int .u16 ((rd_T28 l0_1 x17_1).f4))) (fun _ hk => hk.2) (.int .u16 ((rd_T28 l0_1 x17_1).f5))) (fun _ h_ => h_.1))) hb); have n1_ := Aside0.mk (blk_below (g := gb129) (o := .cells #[.int .i64 a0_0, .slice (some ad143) l0_1.length c0_1] 34 (0, 0)) (by (with_reducible repeat (first | refine blk_drewN ?_ _ | refine blk_drew ?_ | refine blk_alloc ?_ _)); refine blk_far ?_ NB129_144.out _; (with_reducible repeat (first | refine blk_drewN ?_ _ | refine blk_drew ?_ | refine blk_alloc ?_ _)); refine blk_far ?_ NB129_144.out _; (with_reducible repeat (first | refine blk_drewN ?_ _ | refine blk_drew ?_ | refine blk_alloc ?_ _)); refine blk_far ?_ NB129_144.out _; (with_reducible repeat (first | refine blk_drewN ?_ _ | refine blk_drew ?_ | refine blk_alloc ?_ _)); refine blk_far ?_ NB129_144.out _; (with_reducible repeat (first | refine blk_drewN ?_ _ | refine blk_drew ?_ | refine blk_alloc ?_ _)); refine blk_far ?_ NB129_144.out _; (with_reducible repeat (first | refine blk_drewN ?_ _ | refine blk_drew ?_ | refine blk_alloc ?_ _)); refine blk_far ?_ NB129_144.out _; (with_reducible repeat (first | refine blk_drewN ?_ _ | refine blk_drew ?_ | refine blk_alloc ?_ _)); refine blk_far ?_ NB129_144.out _; (with_reducible repeat (first | refine blk_drewN ?_ _ | refine blk_drew ?_ | refine blk_alloc ?_ _)); exact BK129.out) hb); have n2_ := Aside0.mk (blk_below (g := gb144) (o := .cells #[.int .u8 ((rd_T28 l0_1 x17_1).f0), .int .u64 ((rd_T28 l0_1 x17_1).f1), .int .i64 ((rd_T28 l0_1 x17_1).f2), .int .u32 ((rd_T28 l0_1 x17_1).f3.f0), .int .u8 ((rd_T28 l0_1 x17_1).f3.f1), .int .u16 ((rd_T28 l0_1 x17_1).f4), .int .u16 ((rd_T28 l0_1 x17_1).f5)] 28 (0, 0)) (by (with_reducible repeat (first | refine blk_drewN ?_ _ | refine blk_drew ?_ | refine blk_alloc ?_ _)); refine blk_put (cs := #[.int .u8 ((rd_T28 l0_1 x17_1).f0), .int .u64 ((rd_T28 l0_1 x17_1).f1), .int .i64 ((rd_T28 l0_1 x17_1).f2), .int .u32 ((rd_T28 l0_1 x17_1).f3.f0), .int .u8 ((rd_T28 l0_1 x17_1).f3.f1), .int .u16 ((rd_T28 l0_1 x17_1).f4), .int .u16 0]) ?_ 6 _ rfl; (with_reducible repeat (first | refine blk_drewN ?_ _ | refine blk_drew ?_ | refine blk_alloc ?_ _)); refine blk_put (cs := #[.int .u8 ((rd_T28 l0_1 x17_1).f0), .int .u64 ((rd_T28 l0_1 x17_1).f1), .int .i64 ((rd_T28 l0_1 x17_1).f2), .int .u32 ((rd_T28 l0_1 x17_1).f3.f0), .int .u8 ((rd_T28 l0_1 x17_1).f3.f1), .int .u16 0, .int .u16 0]) ?_ 5 _ rfl; (with_reducible repeat (first | refine blk_drewN ?_ _ | refine blk_drew ?_ | refine blk_alloc ?_ _)); refine blk_put (cs := #[.int .u8 ((rd_T28 l0_1 x17_1).f0), .int .u64 ((rd_T28 l0_1 x17_1).f1), .int .i64 ((rd_T28 l0_1 x17_1).f2), .int .u32 ((rd_T28 l0_1 x17_1).f3.f0), .int .u8 0, .int .u16 0, .int .u16 0]) ?_ 4 _ rfl; (with_reducible repeat (first | refine blk_drewN ?_ _ | refine blk_drew ?_ | refine blk_alloc ?_ _)); refine blk_put (cs := #[.int .u8 ((rd_T28 l0_1 x17_1).f0), .int .u64 ((rd_T28 l0_1 x17_1).f1), .int .i64 ((rd_T28 l0_1 x17_1).f2), .int .u32 0, .int .u8 0, .int .u16 0, .int .u16 0]) ?_ 3 _ rfl; (with_reducible repeat (first | refine blk_drewN ?_ _ | refine blk_drew ?_ | refine blk_alloc ?_ _)); refine blk_put (cs := #[.int .u8 ((rd_T28 l0_1 x17_1).f0), .int .u64 ((rd_T28 l0_1 x17_1).f1), .int .i64 0, .int .u32 0, .int .u8 0, .int .u16 0, .int .u16 0]) ?_ 2 _ rfl; (with_reducible repeat (first | refine blk_drewN ?_ _ | refine blk_drew ?_ | refine blk_alloc ?_ _)); refine blk_put (cs := #[.int .u8 ((rd_T28 l0_1 x17_1).f0), .int .u64 0, .int .i64 0, .int .u32 0, .int .u8 0, .int .u16 0, .int .u16 0]) ?_ 1 _ rfl; (with_reducible repeat (first | refine blk_drewN ?_ _ | refine blk_drew ?_ | refine blk_alloc ?_ _)); refine blk_put (cs := #[.int .u8 0, .int .u64 0, .int .i64 0, .int .u32 0, .int .u8 0, .int .u16 0, .int .u16 0]) ?_ 0 _ rfl; (with_reducible repeat (first | refine blk_drewN ?_ _ | refine blk_drew ?_ | refine blk_alloc ?_ _)); exact BK144.out) hb); have n3_ := Aside0.mk (below_step (by repeat (first | (with_reducible first | exact HB.out | apply below_alloc | apply pw_below_drewN | apply below_drew1 | refine below_set ?_ GE129.out | refine below_set ?_ GE144.out) | exact HB.out)) hb); clear HO_3; clear BK129; clear BK144; clear HB; have HO_3 := n0_; have BK129 := n1_; have BK144 := n2_; have HB := n3_; clear n0_ n1_ n2_ n3_; (try clear hb); (try clear hb2); (try clear hk); (try clear hi)))
                go_meet
                case rel => exact ⟨_, (decide (x4_1 < 300)), (by first | rfl | (simp; done) | (simp [*]; done) | (refine qa_int ?_; omega) | (refine qa_int ?_; simp <;> omega)), H', ⟨by have := HK1.out; first | omega | exact Nat.le_refl _⟩, ⟨by (with_reducible repeat (first | apply Kd.R_alloc | apply Kd.R_drewN | apply Kd.R_drew)); exact HO_3.out⟩, ⟨by (with_reducible repeat (first | refine blk_drewN ?_ _ | refine blk_drew ?_ | refine blk_alloc ?_ _)); exact BK129.out⟩, ⟨by (with_reducible repeat (first | refine blk_drewN ?_ _ | refine blk_drew ?_ | refine blk_alloc ?_ _)); exact BK144.out⟩, ⟨by repeat (first | (with_reducible first | exact HB.out | apply below_alloc | apply pw_below_drewN | apply below_drew1 | refine below_set ?_ GE129.out | refine below_set ?_ GE144.out) | exact HB.out)⟩⟩
              · replace c18 := Bool.eq_false_iff.mpr c18
                subst c18
                have H1 : (message_Encode.j1 k1 x3_1 x4_1 l0_1 (l0_1.length : Int) x17_1 false ((rd_T28 l0_1 x17_1).f0) ((rd_T28 l0_1 x17_1).f1) ((rd_T28 l0_1 x17_1).f2) ((rd_T28 l0_1 x17_1).f3.f0) ((rd_T28 l0_1 x17_1).f3.f1) ((rd_T28 l0_1 x17_1).f4) ((rd_T28 l0_1 x17_1).f5)) = some r := by rw [if_neg (show ¬ (false = true) by decide)] at H; exact H
                clear H
                have H := H1
                clear H1
                have H' := Aside0.mk H
                clear H
                have hnb22 := NB144_129.out
                have hnc22 := NB129_144.out
                have hcz23_0 : w14.cell? ⟨gb144, 0, none⟩ = some (.int .u8 0) := (blk_cell BK144.out 0).trans rfl
                have hcz23_1 : w14.cell? ⟨gb144, 1, none⟩ = some (.int .u64 0) := (blk_cell BK144.out 1).trans rfl
                have hcz23_2 : w14.cell? ⟨gb144, 2, none⟩ = some (.int .i64 0) := (blk_cell BK144.out 2).trans rfl
                have hcz23_3 : w14.cell? ⟨gb144, 3, none⟩ = some (.int .u32 0) := (blk_cell BK144.out 3).trans rfl
                have hcz23_4 : w14.cell? ⟨gb144, 4, none⟩ = some (.int .u8 0) := (blk_cell BK144.out 4).trans rfl
                have hcz23_5 : w14.cell? ⟨gb144, 5, none⟩ = some (.int .u16 0) := (blk_cell BK144.out 5).trans rfl
                have hcz23_6 : w14.cell? ⟨gb144, 6, none⟩ = some (.int .u16 0) := (blk_cell BK144.out 6).trans rfl
                have hfz23_0 := blk_frozen BK144.out 0
                have hfz23_1 := blk_frozen BK144.out 1
                have hfz23_2 := blk_frozen BK144.out 2
                have hfz23_3 := blk_frozen BK144.out 3
                have hfz23_4 := blk_frozen BK144.out 4
                have hfz23_5 := blk_frozen BK144.out 5
                have hfz23_6 := blk_frozen BK144.out 6
                go_wp2_with (first | ((with_reducible refine gate_callee (f := 13) rfl ?_); refine goesL_ (some 22) rfl rfl Try.func13 (by kernel_rfl) rfl #[.agg #[.int .u8 ((rd_T28 l0_1 x17_1).f0), .int .u64 ((rd_T28 l0_1 x17_1).f1), .int .i64 ((rd_T28 l0_1 x17_1).f2), .int .u32 ((rd_T28 l0_1 x17_1).f3.f0), .int .u8 ((rd_T28 l0_1 x17_1).f3.f1), .int .u16 ((rd_T28 l0_1 x17_1).f4), .int .u16 ((rd_T28 l0_1 x17_1).f5)]] rfl (by (try simp only [List.map_toArray, List.map_cons, List.map_nil]); first | done | rfl | (simp only [List.length_drop, List.length_take]; rfl) | (simp; done) | (refine qa_arr ?_; (repeat' (first | rfl | refine qa_cons ?_ ?_ | refine qa_int ?_ | refine qa_agg ?_ | refine qa_arr ?_ | omega)); done)) ?_; (with_reducible refine (message_Right.calls ((rd_T28 l0_1 x17_1).f0) ((rd_T28 l0_1 x17_1).f1) ((rd_T28 l0_1 x17_1).f2) ((rd_T28 l0_1 x17_1).f3.f0) ((rd_T28 l0_1 x17_1).f3.f1) ((rd_T28 l0_1 x17_1).f4) ((rd_T28 l0_1 x17_1).f5) false _ A17.out).mono ?_); rintro e w24 ⟨rfl, hb⟩; refine ⟨_, rfl, ?_⟩; have n0_ := Aside0.mk (Kd.R_below (by (with_reducible repeat (first | apply Kd.R_alloc | apply Kd.R_drewN | apply Kd.R_drew)); exact (Kd.R_mono (Kd.R_far (p := ⟨gb144, 6, none⟩) (Kd.R_far (p := ⟨gb144, 5, none⟩) (Kd.R_far (p := ⟨gb144, 4, none⟩) (Kd.R_far (p := ⟨gb144, 3, none⟩) (Kd.R_far (p := ⟨gb144, 2, none⟩) (Kd.R_far (p := ⟨gb144, 1, none⟩) (Kd.R_far (p := ⟨gb144, 0, none⟩) (Kd.R_types HO_3.out BK144.out (by decide)) (fun _ hk => hk.2) (.int .u8 ((rd_T28 l0_1 x17_1).f0))) (fun _ hk => hk.2) (.int .u64 ((rd_T28 l0_1 x17_1).f1))) (fun _ hk => hk.2) (.int .i64 ((rd_T28 l0_1 x17_1).f2))) (fun _ hk => hk.2) (.int .u32 ((rd_T28 l0_1 x17_1).f3.f0))) (fun _ hk => hk.2) (.int .u8 ((rd_T28 l0_1 x17_1).f3.f1))) (fun _ hk => hk.2) (.int .u16 ((rd_T28 l0_1 x17_1).f4))) (fun _ hk => hk.2) (.int .u16 ((rd_T28 l0_1 x17_1).f5))) (fun _ h_ => h_.1))) hb); have n1_ := Aside0.mk (blk_below (g := gb129) (o := .cells #[.int .i64 a0_0, .slice (some ad143) l0_1.length c0_1] 34 (0, 0)) (by (with_reducible repeat (first | refine blk_drewN ?_ _ | refine blk_drew ?_ | refine blk_alloc ?_ _)); refine blk_far ?_ NB129_144.out _; (with_reducible repeat (first | refine blk_drewN ?_ _ | refine blk_drew ?_ | refine blk_alloc ?_ _)); refine blk_far ?_ NB129_144.out _; (with_reducible repeat (first | refine blk_drewN ?_ _ | refine blk_drew ?_ | refine blk_alloc ?_ _)); refine blk_far ?_ NB129_144.out _; (with_reducible repeat (first | refine blk_drewN ?_ _ | refine blk_drew ?_ | refine blk_alloc ?_ _)); refine blk_far ?_ NB129_144.out _; (with_reducible repeat (first | refine blk_drewN ?_ _ | refine blk_drew ?_ | refine blk_alloc ?_ _)); refine blk_far ?_ NB129_144.out _; (with_reducible repeat (first | refine blk_drewN ?_ _ | refine blk_drew ?_ | refine blk_alloc ?_ _)); refine blk_far ?_ NB129_144.out _; (with_reducible repeat (first | refine blk_drewN ?_ _ | refine blk_drew ?_ | refine blk_alloc ?_ _)); refine blk_far ?_ NB129_144.out _; (with_reducible repeat (first | refine blk_drewN ?_ _ | refine blk_drew ?_ | refine blk_alloc ?_ _)); exact BK129.out) hb); have n2_ := Aside0.mk (blk_below (g := gb144) (o := .cells #[.int .u8 ((rd_T28 l0_1 x17_1).f0), .int .u64 ((rd_T28 l0_1 x17_1).f1), .int .i64 ((rd_T28 l0_1 x17_1).f2), .int .u32 ((rd_T28 l0_1 x17_1).f3.f0), .int .u8 ((rd_T28 l0_1 x17_1).f3.f1), .int .u16 ((rd_T28 l0_1 x17_1).f4), .int .u16 ((rd_T28 l0_1 x17_1).f5)] 28 (0, 0)) (by (with_reducible repeat (first | refine blk_drewN ?_ _ | refine blk_drew ?_ | refine blk_alloc ?_ _)); refine blk_put (cs := #[.int .u8 ((rd_T28 l0_1 x17_1).f0), .int .u64 ((rd_T28 l0_1 x17_1).f1), .int .i64 ((rd_T28 l0_1 x17_1).f2), .int .u32 ((rd_T28 l0_1 x17_1).f3.f0), .int .u8 ((rd_T28 l0_1 x17_1).f3.f1), .int .u16 ((rd_T28 l0_1 x17_1).f4), .int .u16 0]) ?_ 6 _ rfl; (with_reducible repeat (first | refine blk_drewN ?_ _ | refine blk_drew ?_ | refine blk_alloc ?_ _)); refine blk_put (cs := #[.int .u8 ((rd_T28 l0_1 x17_1).f0), .int .u64 ((rd_T28 l0_1 x17_1).f1), .int .i64 ((rd_T28 l0_1 x17_1).f2), .int .u32 ((rd_T28 l0_1 x17_1).f3.f0), .int .u8 ((rd_T28 l0_1 x17_1).f3.f1), .int .u16 0, .int .u16 0]) ?_ 5 _ rfl; (with_reducible repeat (first | refine blk_drewN ?_ _ | refine blk_drew ?_ | refine blk_alloc ?_ _)); refine blk_put (cs := #[.int .u8 ((rd_T28 l0_1 x17_1).f0), .int .u64 ((rd_T28 l0_1 x17_1).f1), .int .i64 ((rd_T28 l0_1 x17_1).f2), .int .u32 ((rd_T28 l0_1 x17_1).f3.f0), .int .u8 0, .int .u16 0, .int .u16 0]) ?_ 4 _ rfl; (with_reducible repeat (first | refine blk_drewN ?_ _ | refine blk_drew ?_ | refine blk_alloc ?_ _)); refine blk_put (cs := #[.int .u8 ((rd_T28 l0_1 x17_1).f0), .int .u64 ((rd_T28 l0_1 x17_1).f1), .int .i64 ((rd_T28 l0_1 x17_1).f2), .int .u32 0, .int .u8 0, .int .u16 0, .int .u16 0]) ?_ 3 _ rfl; (with_reducible repeat (first | refine blk_drewN ?_ _ | refine blk_drew ?_ | refine blk_alloc ?_ _)); refine blk_put (cs := #[.int .u8 ((rd_T28 l0_1 x17_1).f0), .int .u64 ((rd_T28 l0_1 x17_1).f1), .int .i64 0, .int .u32 0, .int .u8 0, .int .u16 0, .int .u16 0]) ?_ 2 _ rfl; (with_reducible repeat (first | refine blk_drewN ?_ _ | refine blk_drew ?_ | refine blk_alloc ?_ _)); refine blk_put (cs := #[.int .u8 ((rd_T28 l0_1 x17_1).f0), .int .u64 0, .int .i64 0, .int .u32 0, .int .u8 0, .int .u16 0, .int .u16 0]) ?_ 1 _ rfl; (with_reducible repeat (first | refine blk_drewN ?_ _ | refine blk_drew ?_ | refine blk_alloc ?_ _)); refine blk_put (cs := #[.int .u8 0, .int .u64 0, .int .i64 0, .int .u32 0, .int .u8 0, .int .u16 0, .int .u16 0]) ?_ 0 _ rfl; (with_reducible repeat (first | refine blk_drewN ?_ _ | refine blk_drew ?_ | refine blk_alloc ?_ _)); exact BK144.out) hb); have n3_ := Aside0.mk (below_step (by repeat (first | (with_reducible first | exact HB.out | apply below_alloc | apply pw_below_drewN | apply below_drew1 | refine below_set ?_ GE129.out | refine below_set ?_ GE144.out) | exact HB.out)) hb); clear HO_3; clear BK129; clear BK144; clear HB; have HO_3 := n0_; have BK129 := n1_; have BK144 := n2_; have HB := n3_; clear n0_ n1_ n2_ n3_; (try clear hb); (try clear hb2); (try clear hk); (try clear hi)))
                go_meet
                case rel => exact ⟨_, (false), (by first | rfl | (simp; done) | (simp [*]; done) | (refine qa_int ?_; omega) | (refine qa_int ?_; simp <;> omega)), H', ⟨by have := HK1.out; first | omega | exact Nat.le_refl _⟩, ⟨by (with_reducible repeat (first | apply Kd.R_alloc | apply Kd.R_drewN | apply Kd.R_drew)); exact HO_3.out⟩, ⟨by (with_reducible repeat (first | refine blk_drewN ?_ _ | refine blk_drew ?_ | refine blk_alloc ?_ _)); exact BK129.out⟩, ⟨by (with_reducible repeat (first | refine blk_drewN ?_ _ | refine blk_drew ?_ | refine blk_alloc ?_ _)); exact BK144.out⟩, ⟨by repeat (first | (with_reducible first | exact HB.out | apply below_alloc | apply pw_below_drewN | apply below_drew1 | refine below_set ?_ GE129.out | refine below_set ?_ GE144.out) | exact HB.out)⟩⟩
            case rest =>
              clear HC13
              try clear c1
              try clear p1
              try clear q1
              try clear hx1
              try clear c2
              try clear p2
              try clear c9
              try clear c10
              try clear c10b0
              try clear c11
              try clear c11b0
              try clear c12
              try clear c12b0
              try clear c13
              try clear p14
              try clear q14
              try clear hx14
              try clear c15
              try clear c18
              try clear c19
              try clear c20
              try clear c22
              try clear hcz16_0
              try clear hcz16_1
              try clear hcz16_2
              try clear hcz16_3
              try clear hcz16_4
              try clear hcz16_5
              try clear hcz16_6
              try clear hcz20_0
              try clear hcz20_1
              try clear hcz20_2
              try clear hcz20_3
              try clear hcz20_4
              try clear hcz20_5
              try clear hcz20_6
              try clear hcz23_0
              try clear hcz23_1
              try clear hcz23_2
              try clear hcz23_3
              try clear hcz23_4
              try clear hcz23_5
              try clear hcz23_6
              try clear hcz6_0
              try clear hcz6_1
              try clear hcz9_0
              try clear hcz9_1
              try clear hfz16_0
              try clear hfz16_1
              try clear hfz16_2
              try clear hfz16_3
              try clear hfz16_4
              try clear hfz16_5
              try clear hfz16_6
              try clear hfz20_0
              try clear hfz20_1
              try clear hfz20_2
              try clear hfz20_3
              try clear hfz20_4
              try clear hfz20_5
              try clear hfz20_6
              try clear hfz23_0
              try clear hfz23_1
              try clear hfz23_2
              try clear hfz23_3
              try clear hfz23_4
              try clear hfz23_5
              try clear hfz23_6
              try clear hfz6_0
              try clear hfz6_1
              try clear hfz9_0
              try clear hfz9_1
              try clear hx143_0
              try clear hx143_1
              try clear hx143_2
              try clear hx143_3
              try clear hx143_4
              try clear hx143_5
              try clear hx143_6
              try clear p143
              try clear p2
              try clear q143
              obtain ⟨kq, x26_12, rfl, HA, HJ12, HO_3, BK129, BK144, HB⟩ := hcut
              cases kq with
              | zero => exact absurd HA.out (by simp [message_Encode.j1])
              | succ kj12 =>
                have H := HA.out
                clear HA
                simp only [message_Encode.j1] at H
                by_cases c25 : x26_12 = true
                · subst c25
                  have H1 : ((message_body.f kj12 ((rd_T28 l0_1 x17_1).f0) ((rd_T28 l0_1 x17_1).f1) ((rd_T28 l0_1 x17_1).f2) ((rd_T28 l0_1 x17_1).f3.f0) ((rd_T28 l0_1 x17_1).f3.f1) ((rd_T28 l0_1 x17_1).f4) ((rd_T28 l0_1 x17_1).f5)).bind fun t146 => (if x3_1.length < 140737488355328 then ((coin_Put.f kj12 (x3_1 ++ [((rd_T28 l0_1 x17_1).f0)]) (IntKind.u64.wrap ((t146.length : Int)))).bind fun t152 => (if t152.length + t146.length < 140737488355328 then (message_Encode.l0 kj12 (t152 ++ t146) (wrap64 (x4_1 + 1)) l0_1 (l0_1.length : Int) (wrap64 (x17_1 + 1))) else (none))) else (none))) = some r := by rw [if_pos rfl] at H; exact H
                  clear H
                  have H := H1
                  clear H1
                  replace H := Option.bind_eq_some_iff.mp H
                  obtain ⟨t146, A260, H⟩ := H
                  replace H : (if x3_1.length < 140737488355328 then ((coin_Put.f kj12 (x3_1 ++ [((rd_T28 l0_1 x17_1).f0)]) (IntKind.u64.wrap ((t146.length : Int)))).bind fun t152 => (if t152.length + t146.length < 140737488355328 then (message_Encode.l0 kj12 (t152 ++ t146) (wrap64 (x4_1 + 1)) l0_1 (l0_1.length : Int) (wrap64 (x17_1 + 1))) else (none))) else (none)) = some r := H
                  have A26 := Aside0.mk A260
                  clear A260
                  by_cases c27 : x3_1.length < 140737488355328
                  · rw [if_pos c27] at H
                    have LMc27 := Aside0.mk c27
                    clear c27
                    obtain ⟨y149, hy149⟩ : ∃ y_ : List Int, y_ = (x3_1 ++ [((rd_T28 l0_1 x17_1).f0)]) := ⟨_, rfl⟩
                    replace H : ((coin_Put.f kj12 y149 (IntKind.u64.wrap ((t146.length : Int)))).bind fun t152 => (if t152.length + t146.length < 140737488355328 then (message_Encode.l0 kj12 (t152 ++ t146) (wrap64 (x4_1 + 1)) l0_1 (l0_1.length : Int) (wrap64 (x17_1 + 1))) else (none))) = some r := by first | (rw [hy149]; with_reducible exact H) | (have H2_ := (Option.bind_some _ _).symm.trans H; rw [hy149]; with_reducible exact H2_) | (have H2_ := (Option.bind_some _ _).symm.trans H; with_reducible exact H2_) | with_reducible exact H | (rw [hy149]; exact H) | exact H
                    have Ny149 := Aside0.mk hy149
                    clear hy149
                    replace H := Option.bind_eq_some_iff.mp H
                    obtain ⟨t152, A280, H⟩ := H
                    replace H : (if t152.length + t146.length < 140737488355328 then (message_Encode.l0 kj12 (t152 ++ t146) (wrap64 (x4_1 + 1)) l0_1 (l0_1.length : Int) (wrap64 (x17_1 + 1))) else (none)) = some r := H
                    have A28 := Aside0.mk A280
                    clear A280
                    by_cases c29 : t152.length + t146.length < 140737488355328
                    · rw [if_pos c29] at H
                      have LMc29 := Aside0.mk c29
                      clear c29
                      obtain ⟨y155, hy155⟩ : ∃ y_ : List Int, y_ = (t152 ++ t146) := ⟨_, rfl⟩
                      replace H : (message_Encode.l0 kj12 y155 (wrap64 (x4_1 + 1)) l0_1 (l0_1.length : Int) (wrap64 (x17_1 + 1))) = some r := by first | (rw [hy155]; with_reducible exact H) | (have H2_ := (Option.bind_some _ _).symm.trans H; rw [hy155]; with_reducible exact H2_) | (have H2_ := (Option.bind_some _ _).symm.trans H; with_reducible exact H2_) | with_reducible exact H | (rw [hy155]; exact H) | exact H
                      have Ny155 := Aside0.mk hy155
                      clear hy155
                      have H' := Aside0.mk H
                      clear H
                      have hnb30 := NB144_129.out
                      have hnc30 := NB129_144.out
                      have hcz31_0 : wc.cell? ⟨gb144, 0, none⟩ = some (.int .u8 ((rd_T28 l0_1 x17_1).f0)) := (blk_cell BK144.out 0).trans rfl
                      have hcz31_1 : wc.cell? ⟨gb144, 1, none⟩ = some (.int .u64 ((rd_T28 l0_1 x17_1).f1)) := (blk_cell BK144.out 1).trans rfl
                      have hcz31_2 : wc.cell? ⟨gb144, 2, none⟩ = some (.int .i64 ((rd_T28 l0_1 x17_1).f2)) := (blk_cell BK144.out 2).trans rfl
                      have hcz31_3 : wc.cell? ⟨gb144, 3, none⟩ = some (.int .u32 ((rd_T28 l0_1 x17_1).f3.f0)) := (blk_cell BK144.out 3).trans rfl
                      have hcz31_4 : wc.cell? ⟨gb144, 4, none⟩ = some (.int .u8 ((rd_T28 l0_1 x17_1).f3.f1)) := (blk_cell BK144.out 4).trans rfl
                      have hcz31_5 : wc.cell? ⟨gb144, 5, none⟩ = some (.int .u16 ((rd_T28 l0_1 x17_1).f4)) := (blk_cell BK144.out 5).trans rfl
                      have hcz31_6 : wc.cell? ⟨gb144, 6, none⟩ = some (.int .u16 ((rd_T28 l0_1 x17_1).f5)) := (blk_cell BK144.out 6).trans rfl
                      have hfz31_0 := blk_frozen BK144.out 0
                      have hfz31_1 := blk_frozen BK144.out 1
                      have hfz31_2 := blk_frozen BK144.out 2
                      have hfz31_3 := blk_frozen BK144.out 3
                      have hfz31_4 := blk_frozen BK144.out 4
                      have hfz31_5 := blk_frozen BK144.out 5
                      have hfz31_6 := blk_frozen BK144.out 6
                      go_wp2_with (first | ((with_reducible refine gate_callee (f := 21) rfl ?_); refine goesL_ (some 28) rfl rfl Try.func21 (by kernel_rfl) rfl #[.agg #[.int .u8 ((rd_T28 l0_1 x17_1).f0), .int .u64 ((rd_T28 l0_1 x17_1).f1), .int .i64 ((rd_T28 l0_1 x17_1).f2), .int .u32 ((rd_T28 l0_1 x17_1).f3.f0), .int .u8 ((rd_T28 l0_1 x17_1).f3.f1), .int .u16 ((rd_T28 l0_1 x17_1).f4), .int .u16 ((rd_T28 l0_1 x17_1).f5)]] rfl (by (try simp only [List.map_toArray, List.map_cons, List.map_nil]); first | done | rfl | (simp only [List.length_drop, List.length_take]; rfl) | (simp; done) | (refine qa_arr ?_; (repeat' (first | rfl | refine qa_cons ?_ ?_ | refine qa_int ?_ | refine qa_agg ?_ | refine qa_arr ?_ | omega)); done)) ?_; (with_reducible refine (message_body.calls kj12 ((rd_T28 l0_1 x17_1).f0) ((rd_T28 l0_1 x17_1).f1) ((rd_T28 l0_1 x17_1).f2) ((rd_T28 l0_1 x17_1).f3.f0) ((rd_T28 l0_1 x17_1).f3.f1) ((rd_T28 l0_1 x17_1).f4) ((rd_T28 l0_1 x17_1).f5) t146 _ A26.out).mono ?_); rintro e w32 ⟨v147, rfl, ho0, hb⟩; refine ⟨_, rfl, ?_⟩; have n0_ := Aside0.mk (Kd.R_elder' (by (with_reducible repeat (first | apply Kd.R_alloc | apply Kd.R_drewN | apply Kd.R_drew)); exact HO_3.out) (Kd.R_base ho0) hb); have n1_ := Aside0.mk (Kd.R_lower (Kd.R_new' ho0 (Kd.R_lt (by (with_reducible repeat (first | apply Kd.R_alloc | apply Kd.R_drewN | apply Kd.R_drew)); exact HO_3.out))) (below_size (by repeat (first | (with_reducible first | exact HB.out | apply below_alloc | apply pw_below_drewN | apply below_drew1 | refine below_set ?_ GE129.out | refine below_set ?_ GE144.out) | exact HB.out)))); have n2_ := Aside0.mk (blk_below (g := gb129) (o := .cells #[.int .i64 a0_0, .slice (some ad143) l0_1.length c0_1] 34 (0, 0)) (by (with_reducible repeat (first | refine blk_drewN ?_ _ | refine blk_drew ?_ | refine blk_alloc ?_ _)); exact BK129.out) hb); have n3_ := Aside0.mk (blk_below (g := gb144) (o := .cells #[.int .u8 ((rd_T28 l0_1 x17_1).f0), .int .u64 ((rd_T28 l0_1 x17_1).f1), .int .i64 ((rd_T28 l0_1 x17_1).f2), .int .u32 ((rd_T28 l0_1 x17_1).f3.f0), .int .u8 ((rd_T28 l0_1 x17_1).f3.f1), .int .u16 ((rd_T28 l0_1 x17_1).f4), .int .u16 ((rd_T28 l0_1 x17_1).f5)] 28 (0, 0)) (by (with_reducible repeat (first | refine blk_drewN ?_ _ | refine blk_drew ?_ | refine blk_alloc ?_ _)); exact BK144.out) hb); have n4_ := Aside0.mk (below_step (by repeat (first | (with_reducible first | exact HB.out | apply below_alloc | apply pw_below_drewN | apply below_drew1 | refine below_set ?_ GE129.out | refine below_set ?_ GE144.out) | exact HB.out)) hb); clear HO_3; clear BK129; clear BK144; clear HB; have HO_3 := n0_; have HO148 := n1_; have BK129 := n2_; have BK144 := n3_; have HB := n4_; clear n0_ n1_ n2_ n3_ n4_; (try clear hb); (try clear hb2); (try clear hk); (try clear hi); (try clear ho0); have hcz33_0 : w32.cell? ⟨gb144, 0, none⟩ = some (.int .u8 ((rd_T28 l0_1 x17_1).f0)) := (blk_cell BK144.out 0).trans rfl; have hcz33_1 : w32.cell? ⟨gb144, 1, none⟩ = some (.int .u64 ((rd_T28 l0_1 x17_1).f1)) := (blk_cell BK144.out 1).trans rfl; have hcz33_2 : w32.cell? ⟨gb144, 2, none⟩ = some (.int .i64 ((rd_T28 l0_1 x17_1).f2)) := (blk_cell BK144.out 2).trans rfl; have hcz33_3 : w32.cell? ⟨gb144, 3, none⟩ = some (.int .u32 ((rd_T28 l0_1 x17_1).f3.f0)) := (blk_cell BK144.out 3).trans rfl; have hcz33_4 : w32.cell? ⟨gb144, 4, none⟩ = some (.int .u8 ((rd_T28 l0_1 x17_1).f3.f1)) := (blk_cell BK144.out 4).trans rfl; have hcz33_5 : w32.cell? ⟨gb144, 5, none⟩ = some (.int .u16 ((rd_T28 l0_1 x17_1).f4)) := (blk_cell BK144.out 5).trans rfl; have hcz33_6 : w32.cell? ⟨gb144, 6, none⟩ = some (.int .u16 ((rd_T28 l0_1 x17_1).f5)) := (blk_cell BK144.out 6).trans rfl; have hfz33_0 := blk_frozen BK144.out 0; have hfz33_1 := blk_frozen BK144.out 1; have hfz33_2 := blk_frozen BK144.out 2; have hfz33_3 := blk_frozen BK144.out 3; have hfz33_4 := blk_frozen BK144.out 4; have hfz33_5 := blk_frozen BK144.out 5; have hfz33_6 := blk_frozen BK144.out 6) | ((with_reducible refine gate_builtin (b := .append) (xs := #[.tmp 29, .tmp 32]) rfl ?_); at_builtin; refine Kd.R_append (Kd.int .u8) (w0 := w) w.heap.size rfl (.tmp 29) (.tmp 32) 30 5 (.int .u8 0) 1 rfl Try.underlying30 info5 rfl (by decide) (by omega) u3 x3_1 ((rd_T28 l0_1 x17_1).f0) [.int .u8 ((rd_T28 l0_1 x17_1).f0)] (fun k_ => some k_ ≠ (v147 : Value).ownBlock) (fun _ => False) rfl rfl ?aP (fun _ hk => hk.elim) ?aF ?aO ?aB ?aS ?aL ?_; (case aP => exact rfl); (case aB => exact (by repeat (first | (with_reducible first | exact HB.out | apply below_alloc | apply pw_below_drewN | apply below_drew1 | refine below_set ?_ GE129.out | refine below_set ?_ GE144.out) | exact HB.out))); (case aF => exact (fun k_ hk => Kd.fresh' (Kd.R_lt (by (with_reducible repeat (first | apply Kd.R_alloc | apply Kd.R_drewN | apply Kd.R_drew)); exact HO148.out)) k_ hk)); (case aO => exact (by (with_reducible repeat (first | apply Kd.R_alloc | apply Kd.R_drewN | apply Kd.R_drew)); exact Kd.R_mono HO_3.out (fun _ hk => hk.2))); (case aS => exact (below_size (by repeat (first | (with_reducible first | exact HB.out | apply below_alloc | apply pw_below_drewN | apply below_drew1 | refine below_set ?_ GE129.out | refine below_set ?_ GE144.out) | exact HB.out)))); (case aL => have := LMc27.out; omega); intro v150 w34 ho hb hg hat; rw [← Ny149.out] at ho; have n0_ := Aside0.mk (blk_grown (g := gb129) (o := .cells #[.int .i64 a0_0, .slice (some ad143) l0_1.length c0_1] 34 (0, 0)) (by (with_reducible repeat (first | refine blk_drewN ?_ _ | refine blk_drew ?_ | refine blk_alloc ?_ _)); exact BK129.out) hg (Kd.R_ne HO_3.out BK129.out (by decide))); have n1_ := Aside0.mk (blk_grown (g := gb144) (o := .cells #[.int .u8 ((rd_T28 l0_1 x17_1).f0), .int .u64 ((rd_T28 l0_1 x17_1).f1), .int .i64 ((rd_T28 l0_1 x17_1).f2), .int .u32 ((rd_T28 l0_1 x17_1).f3.f0), .int .u8 ((rd_T28 l0_1 x17_1).f3.f1), .int .u16 ((rd_T28 l0_1 x17_1).f4), .int .u16 ((rd_T28 l0_1 x17_1).f5)] 28 (0, 0)) (by (with_reducible repeat (first | refine blk_drewN ?_ _ | refine blk_drew ?_ | refine blk_alloc ?_ _)); exact BK144.out) hg (Kd.R_ne HO_3.out BK144.out (by decide))); have n2_ := Aside0.mk (Kd.R_after (ok := (fun _ => True)) (by (with_reducible repeat (first | apply Kd.R_alloc | apply Kd.R_drewN | apply Kd.R_drew)); exact HO148.out) hg hat); have n3_ := Aside0.mk (hb); have n4_ := Aside0.mk (ho); clear BK129; clear BK144; clear HO148; clear HB; clear HO_3; have BK129 := n0_; have BK144 := n1_; have HO148 := n2_; have HB := n3_; have HO151 := n4_; clear n0_ n1_ n2_ n3_ n4_; clear ho hb hg hat; obtain ⟨Ao35, co35, eo35⟩ := Kd.R_slice HO148.out; subst eo35; obtain ⟨Ao36, co36, eo36⟩ := Kd.R_slice HO151.out; subst eo36) | ((with_reducible refine gate_callee (f := 20) rfl ?_); refine goesL_ (some 37) rfl rfl Try.func20 (by kernel_rfl) rfl #[.slice Ao36 y149.length co36, .int .u64 (IntKind.u64.wrap ((t146.length : Int)))] rfl (by (try simp only [List.map_toArray, List.map_cons, List.map_nil]); first | done | rfl | (simp only [List.length_drop, List.length_take]; rfl) | (simp; done) | (refine qa_arr ?_; (repeat' (first | rfl | refine qa_cons ?_ ?_ | refine qa_int ?_ | refine qa_agg ?_ | refine qa_arr ?_ | omega)); done)) ?_; (with_reducible refine (coin_Put.calls kj12 (fun k_ => some k_ = (.slice Ao36 y149.length co36 : Value).ownBlock) (.slice Ao36 y149.length co36) y149 (IntKind.u64.wrap ((t146.length : Int))) t152 w _ ?side1 ?side2 A28.out).mono ?_); (case side1 => repeat (first | (with_reducible first | exact HB.out | apply below_alloc | apply pw_below_drewN | apply below_drew1 | refine below_set ?_ GE129.out | refine below_set ?_ GE144.out) | exact HB.out)); (case side2 => exact Kd.R_tight rfl HO151.out); rintro e w37 ⟨v153, rfl, ho0, hb, hkp⟩; refine ⟨_, rfl, ?_⟩; have n0_ := Aside0.mk (blk_kept (o := .cells #[.int .i64 a0_0, .slice (some ad143) l0_1.length c0_1] 34 (0, 0)) (by (with_reducible repeat (first | refine blk_drewN ?_ _ | refine blk_drew ?_ | refine blk_alloc ?_ _)); exact BK129.out) hkp (fun hs_ => (fun e_ => (Kd.R_ne HO151.out BK129.out (by decide)) e_) hs_)); have n1_ := Aside0.mk (blk_kept (o := .cells #[.int .u8 ((rd_T28 l0_1 x17_1).f0), .int .u64 ((rd_T28 l0_1 x17_1).f1), .int .i64 ((rd_T28 l0_1 x17_1).f2), .int .u32 ((rd_T28 l0_1 x17_1).f3.f0), .int .u8 ((rd_T28 l0_1 x17_1).f3.f1), .int .u16 ((rd_T28 l0_1 x17_1).f4), .int .u16 ((rd_T28 l0_1 x17_1).f5)] 28 (0, 0)) (by (with_reducible repeat (first | refine blk_drewN ?_ _ | refine blk_drew ?_ | refine blk_alloc ?_ _)); exact BK144.out) hkp (fun hs_ => (fun e_ => (Kd.R_ne HO151.out BK144.out (by decide)) e_) hs_)); have n2_ := Aside0.mk (Kd.R_mono (ok' := fun k_ => some k_ ≠ (v153 : Value).ownBlock) (Kd.R_keptB (HO148.out) hkp (fun k_ hk_ hs_ => (hk_.2) hs_)) (fun k_ hk_ => fun e_ => Or.elim (ho0.1 k_ e_.symm) (fun hs_ => hk_.2.1 hs_) (fun hn_ => Nat.not_le.2 hk_.2.2 hn_))); have n3_ := Aside0.mk (Kd.R_mono (ok' := fun k_ => some k_ ≠ (.slice Ao35 t146.length co35 : Value).ownBlock) ho0 (fun k_ hk_ => Or.elim hk_ (fun hs_ => fun e_ => (((HO148.out).1 k_ e_.symm).2) hs_) (fun hn_ => (Kd.fresh' (Kd.R_lt (by (with_reducible repeat (first | apply Kd.R_alloc | apply Kd.R_drewN | apply Kd.R_drew)); exact HO148.out)) k_ hn_)))); have n4_ := Aside0.mk (hb); clear BK129; clear BK144; clear HO148; clear HB; clear HO151; have BK129 := n0_; have BK144 := n1_; have HO148 := n2_; have HO154 := n3_; have HB := n4_; clear n0_ n1_ n2_ n3_ n4_; (try clear hb); (try clear hkp); (try clear ho0)) | ((with_reducible refine gate_builtin (b := .append) (xs := #[.tmp 37, .tmp 38]) rfl ?_); at_builtin; refine Kd.R_append_rows (Kd.int .u8) (w0 := w) w.heap.size rfl (.tmp 37) (.tmp 38) 30 5 (.int .u8 0) 1 rfl Try.underlying30 info5 rfl (by decide) (by omega) v153 t152 t146 _ _ _ (fun k_ => some k_ ≠ (.slice Ao35 t146.length co35 : Value).ownBlock) (fun _ => False) rfl rfl ?aO ?aR (fun _ _ h => h) (fun _ h => h.elim) ?aF ?aB ?aS ?aL ?_; (case aR => repeat (first | exact (Kd.R_reads' HO148.out).2.2 | (with_reducible refine Kd.C_alloc ?_ _) | (with_reducible refine Kd.C_drewN ?_ _) | (with_reducible refine Kd.C_drew ?_))); (case aB => exact (by repeat (first | (with_reducible first | exact HB.out | apply below_alloc | apply pw_below_drewN | apply below_drew1 | refine below_set ?_ GE129.out | refine below_set ?_ GE144.out) | exact HB.out))); (case aF => exact (fun k_ hk => Kd.fresh' (Kd.R_lt (by (with_reducible repeat (first | apply Kd.R_alloc | apply Kd.R_drewN | apply Kd.R_drew)); exact HO148.out)) k_ hk)); (case aO => exact (by (with_reducible repeat (first | apply Kd.R_alloc | apply Kd.R_drewN | apply Kd.R_drew)); exact HO154.out)); (case aS => exact (below_size (by repeat (first | (with_reducible first | exact HB.out | apply below_alloc | apply pw_below_drewN | apply below_drew1 | refine below_set ?_ GE129.out | refine below_set ?_ GE144.out) | exact HB.out)))); (case aL => have := LMc29.out; omega); intro v156 w38 ho hb hg hat; rw [← Ny155.out] at ho; have n0_ := Aside0.mk (blk_grown (g := gb129) (o := .cells #[.int .i64 a0_0, .slice (some ad143) l0_1.length c0_1] 34 (0, 0)) (by (with_reducible repeat (first | refine blk_drewN ?_ _ | refine blk_drew ?_ | refine blk_alloc ?_ _)); exact BK129.out) hg (Kd.R_ne HO154.out BK129.out (by decide))); have n1_ := Aside0.mk (blk_grown (g := gb144) (o := .cells #[.int .u8 ((rd_T28 l0_1 x17_1).f0), .int .u64 ((rd_T28 l0_1 x17_1).f1), .int .i64 ((rd_T28 l0_1 x17_1).f2), .int .u32 ((rd_T28 l0_1 x17_1).f3.f0), .int .u8 ((rd_T28 l0_1 x17_1).f3.f1), .int .u16 ((rd_T28 l0_1 x17_1).f4), .int .u16 ((rd_T28 l0_1 x17_1).f5)] 28 (0, 0)) (by (with_reducible repeat (first | refine blk_drewN ?_ _ | refine blk_drew ?_ | refine blk_alloc ?_ _)); exact BK144.out) hg (Kd.R_ne HO154.out BK144.out (by decide))); have n2_ := Aside0.mk (Kd.R_after (ok := (fun _ => True)) (by (with_reducible repeat (first | apply Kd.R_alloc | apply Kd.R_drewN | apply Kd.R_drew)); exact Kd.R_mono HO148.out (fun _ hk => ⟨trivial, hk⟩)) hg hat); have n3_ := Aside0.mk (hb); have n4_ := Aside0.mk (ho); clear BK129; clear BK144; clear HO148; clear HB; clear HO154; have BK129 := n0_; have BK144 := n1_; have HO148 := n2_; have HB := n3_; have HO157 := n4_; clear n0_ n1_ n2_ n3_ n4_; clear ho hb hg hat))
                      go_roundg kj12
                      case measure => have := HK1.out; have := HJ12.out; omega
                      case rel => exact ⟨(y155), (wrap64 (x4_1 + 1)), (wrap64 (x17_1 + 1)), (by first | rfl | (simp; done) | (simp [*]; done) | (refine qa_int ?_; omega) | (refine qa_int ?_; simp <;> omega)), (by first | rfl | (simp; done) | (simp [*]; done) | (refine qa_int ?_; omega) | (refine qa_int ?_; simp <;> omega)), H', ⟨by have := HK1.out; have := HJ12.out; omega⟩, ⟨by (with_reducible repeat (first | apply Kd.R_alloc | apply Kd.R_drewN | apply Kd.R_drew)); exact Kd.R_mono HO157.out (fun _ hk => trivial)⟩, ⟨by (with_reducible repeat (first | refine blk_drewN ?_ _ | refine blk_drew ?_ | refine blk_alloc ?_ _)); exact BK129.out⟩, ⟨by repeat (first | (with_reducible first | exact HB.out | apply below_alloc | apply pw_below_drewN | apply below_drew1 | refine below_set ?_ GE129.out | refine below_set ?_ GE144.out) | exact HB.out)⟩⟩
                    · rw [if_neg c29] at H
                      exact absurd H (by simp)
                  · rw [if_neg c27] at H
                    exact absurd H (by simp)
                · replace c25 := Bool.eq_false_iff.mpr c25
                  subst c25
                  have H1 : (message_Encode.l0 kj12 x3_1 x4_1 l0_1 (l0_1.length : Int) (wrap64 (x17_1 + 1))) = some r := by rw [if_neg (show ¬ (false = true) by decide)] at H; exact H
                  clear H
                  have H := H1
                  clear H1
                  have H' := Aside0.mk H
                  clear H
                  go_wp2
                  go_roundg kj12
                  case measure => have := HK1.out; have := HJ12.out; omega
                  case rel => exact ⟨(x3_1), (x4_1), (wrap64 (x17_1 + 1)), (by first | rfl | (simp; done) | (simp [*]; done) | (refine qa_int ?_; omega) | (refine qa_int ?_; simp <;> omega)), (by first | rfl | (simp; done) | (simp [*]; done) | (refine qa_int ?_; omega) | (refine qa_int ?_; simp <;> omega)), H', ⟨by have := HK1.out; have := HJ12.out; omega⟩, ⟨by (with_reducible repeat (first | apply Kd.R_alloc | apply Kd.R_drewN | apply Kd.R_drew)); exact HO_3.out⟩, ⟨by (with_reducible repeat (first | refine blk_drewN ?_ _ | refine blk_drew ?_ | refine blk_alloc ?_ _)); exact BK129.out⟩, ⟨by repeat (first | (with_reducible first | exact HB.out | apply below_alloc | apply pw_below_drewN | apply below_drew1 | refine below_set ?_ GE129.out | refine below_set ?_ GE144.out) | exact HB.out)⟩⟩
          · rw [if_neg c12] at H
            exact absurd H (by simp)
        · rw [if_neg c11] at H
          exact absurd H (by simp)
      · rw [if_neg c10] at H
        have c10b0 : decide (x17_1 < (l0_1.length : Int)) = false := decide_eq_false c10
        clear c10
        replace H := Option.bind_eq_some_iff.mp H
        obtain ⟨t136, A390, H⟩ := H
        replace H : ((some (([(t136) % 256, (t136 / 256) % 256, (t136 / 65536) % 256, (t136 / 16777216) % 256] : List Int) : List Int)).bind fun y137 => (if x3_1.length + y137.length < 140737488355328 then (some (x3_1 ++ y137)) else (none))) = some r := H
        have A39 := Aside0.mk A390
        clear A390
        obtain ⟨y137, hy137⟩ : ∃ y_ : List Int, y_ = (([(t136) % 256, (t136 / 256) % 256, (t136 / 65536) % 256, (t136 / 16777216) % 256] : List Int)) := ⟨_, rfl⟩
        replace H : (if x3_1.length + y137.length < 140737488355328 then (some (x3_1 ++ y137)) else (none)) = some r := by first | (rw [hy137]; with_reducible exact H) | (have H2_ := (Option.bind_some _ _).symm.trans H; rw [hy137]; with_reducible exact H2_) | (have H2_ := (Option.bind_some _ _).symm.trans H; with_reducible exact H2_) | with_reducible exact H | (rw [hy137]; exact H) | exact H
        have Ny137 := Aside0.mk hy137
        clear hy137
        by_cases c40 : x3_1.length + y137.length < 140737488355328
        · rw [if_pos c40] at H
          have LMc40 := Aside0.mk c40
          clear c40
          obtain ⟨y140, hy140⟩ : ∃ y_ : List Int, y_ = (x3_1 ++ y137) := ⟨_, rfl⟩
          replace H : (some y140) = some r := by first | (rw [hy140]; with_reducible exact H) | (have H2_ := (Option.bind_some _ _).symm.trans H; rw [hy140]; with_reducible exact H2_) | (have H2_ := (Option.bind_some _ _).symm.trans H; with_reducible exact H2_) | with_reducible exact H | (rw [hy140]; exact H) | exact H
          have Ny140 := Aside0.mk hy140
          clear hy140
          obtain rfl := Option.some.inj H
          simp only [Option.some.injEq, Prod.mk.injEq] at H
          obtain ⟨rfl⟩ := H
          obtain ⟨Ao41, co41, eo41⟩ := Kd.R_slice HO_3.out
          subst eo41
          go_wp2_with (first | ((with_reducible refine gate_callee (f := 22) rfl ?_); refine goesL_ (some 44) rfl rfl Try.func22 (by kernel_rfl) rfl #[.slice Ao41 x3_1.length co41] rfl (by (try simp only [List.map_toArray, List.map_cons, List.map_nil]); first | done | rfl | (simp only [List.length_drop, List.length_take]; rfl) | (simp; done) | (refine qa_arr ?_; (repeat' (first | rfl | refine qa_cons ?_ ?_ | refine qa_int ?_ | refine qa_agg ?_ | refine qa_arr ?_ | omega)); done)) ?_; (with_reducible refine (tally_Sum.calls k1 _ _ x3_1 t136 _ ?side1 ?side2 A39.out).mono ?_); (case side1 => repeat (first | exact (Kd.R_reads' HO_3.out).2.2 | (with_reducible refine Kd.C_alloc ?_ _) | (with_reducible refine Kd.C_drewN ?_ _) | (with_reducible refine Kd.C_drew ?_))); (case side2 => exact (Kd.R_reads' HO_3.out).2.1); rintro e w' ⟨rfl, ⟨nd, rfl⟩⟩; refine ⟨_, rfl, ?_⟩) | ((with_reducible refine gate_dst (N := 57) rfl ?_); refine Kd.R_lit (Kd.int .u8) _ 5 ?hg (N := 57) ?hd (xs := ([(t136) % 256, (t136 / 256) % 256, (t136 / 65536) % 256, (t136 / 16777216) % 256] : List Int)) (inner := [.int .u8 ((t136) % 256), .int .u8 ((t136 / 256) % 256), .int .u8 ((t136 / 65536) % 256), .int .u8 ((t136 / 16777216) % 256)]) (ok := fun _ => True) (okp := fun _ => True) ?hr ?hp (fun _ hk => hk) trivial (Below.refl _ _) (Nat.le_refl _) (by simp) ?_; (case hd => rfl); (case hg => rfl); (case hr => first | (go_simp; done) | (go_simp; rfl)); (case hp => exact (Reps.one (show Kd.M (Kd.int .u8) _ _ _ ((t136) % 256) [.int .u8 ((t136) % 256)] from rfl) (Reps.one (show Kd.M (Kd.int .u8) _ _ _ ((t136 / 256) % 256) [.int .u8 ((t136 / 256) % 256)] from rfl) (Reps.one (show Kd.M (Kd.int .u8) _ _ _ ((t136 / 65536) % 256) [.int .u8 ((t136 / 65536) % 256)] from rfl) (Reps.one (show Kd.M (Kd.int .u8) _ _ _ ((t136 / 16777216) % 256) [.int .u8 ((t136 / 16777216) % 256)] from rfl) (Reps.none _ _)))))); intro v138 w42 ho43 hb hg_ hnew_; clear hg_ hnew_; (first | rw [← Ny137.out] at ho43 | (simp only [Int.reduceToNat] at ho43; rw [← Ny137.out] at ho43)); have n0_ := Aside0.mk (Kd.R_elder' (by (with_reducible repeat (first | apply Kd.R_alloc | apply Kd.R_drewN | apply Kd.R_drew)); exact HO_3.out) (Kd.R_base ho43) hb); have n1_ := Aside0.mk (Kd.R_lower (Kd.R_new' ho43 (Kd.R_lt (by (with_reducible repeat (first | apply Kd.R_alloc | apply Kd.R_drewN | apply Kd.R_drew)); exact HO_3.out))) (below_size (by repeat (first | (with_reducible first | exact HB.out | apply below_alloc | apply pw_below_drewN | apply below_drew1 | refine below_set ?_ GE129.out) | exact HB.out)))); have n2_ := Aside0.mk (blk_below (g := gb129) (o := .cells #[.int .i64 a0_0, .slice A0_1 l0_1.length c0_1] 34 (0, 0)) (by (with_reducible repeat (first | refine blk_drewN ?_ _ | refine blk_drew ?_ | refine blk_alloc ?_ _)); exact BK129.out) hb); have n3_ := Aside0.mk (below_step (by repeat (first | (with_reducible first | exact HB.out | apply below_alloc | apply pw_below_drewN | apply below_drew1 | refine below_set ?_ GE129.out) | exact HB.out)) hb); clear HO_3; clear BK129; clear HB; have HO_3 := n0_; have HO139 := n1_; have BK129 := n2_; have HB := n3_; clear n0_ n1_ n2_ n3_; clear hb ho43; obtain ⟨Ao45, co45, eo45⟩ := Kd.R_slice HO139.out; subst eo45) | ((with_reducible refine gate_builtin (b := .append) (xs := #[.tmp 45, .tmp 57]) rfl ?_); at_builtin; refine Kd.R_append_rows (Kd.int .u8) (w0 := w) w.heap.size rfl (.tmp 45) (.tmp 57) 30 5 (.int .u8 0) 1 rfl Try.underlying30 info5 rfl (by decide) (by omega) (.slice Ao41 x3_1.length co41) x3_1 y137 _ _ _ (fun k_ => some k_ ≠ (.slice Ao45 y137.length co45 : Value).ownBlock) (fun _ => False) rfl rfl ?aO ?aR (fun _ _ h => h) (fun _ h => h.elim) ?aF ?aB ?aS ?aL ?_; (case aR => repeat (first | exact (Kd.R_reads' HO139.out).2.2 | (with_reducible refine Kd.C_alloc ?_ _) | (with_reducible refine Kd.C_drewN ?_ _) | (with_reducible refine Kd.C_drew ?_))); (case aB => exact (by repeat (first | (with_reducible first | exact HB.out | apply below_alloc | apply pw_below_drewN | apply below_drew1 | refine below_set ?_ GE129.out) | exact HB.out))); (case aF => exact (fun k_ hk => Kd.fresh' (Kd.R_lt (by (with_reducible repeat (first | apply Kd.R_alloc | apply Kd.R_drewN | apply Kd.R_drew)); exact HO139.out)) k_ hk)); (case aO => exact (by (with_reducible repeat (first | apply Kd.R_alloc | apply Kd.R_drewN | apply Kd.R_drew)); exact Kd.R_mono HO_3.out (fun _ hk => hk.2))); (case aS => exact (below_size (by repeat (first | (with_reducible first | exact HB.out | apply below_alloc | apply pw_below_drewN | apply below_drew1 | refine below_set ?_ GE129.out) | exact HB.out)))); (case aL => have := LMc40.out; omega); intro v141 w44 ho hb hg hat; rw [← Ny140.out] at ho; have n0_ := Aside0.mk (blk_grown (g := gb129) (o := .cells #[.int .i64 a0_0, .slice A0_1 l0_1.length c0_1] 34 (0, 0)) (by (with_reducible repeat (first | refine blk_drewN ?_ _ | refine blk_drew ?_ | refine blk_alloc ?_ _)); exact BK129.out) hg (Kd.R_ne HO_3.out BK129.out (by decide))); have n1_ := Aside0.mk (Kd.R_after (ok := (fun _ => True)) (by (with_reducible repeat (first | apply Kd.R_alloc | apply Kd.R_drewN | apply Kd.R_drew)); exact HO139.out) hg hat); have n2_ := Aside0.mk (hb); have n3_ := Aside0.mk (ho); clear BK129; clear HO139; clear HB; clear HO_3; have BK129 := n0_; have HO139 := n1_; have HB := n2_; have HO142 := n3_; clear n0_ n1_ n2_ n3_; clear ho hb hg hat) | ((with_reducible refine gate_callee (f := 22) rfl ?_); refine goesL_ _ rfl rfl Try.func22 (by kernel_rfl) rfl #[.slice Ao41 x3_1.length co41] rfl (by (try simp only [List.map_toArray, List.map_cons, List.map_nil]); first | done | rfl | (simp only [List.length_drop, List.length_take]; rfl) | (simp; done) | (refine qa_arr ?_; (repeat' (first | rfl | refine qa_cons ?_ ?_ | refine qa_int ?_ | refine qa_agg ?_ | refine qa_arr ?_ | omega)); done)) ?_; (with_reducible refine (tally_Sum.calls k1 _ _ x3_1 t136 _ ?side1b ?side2b A39.out).mono ?_); (case side1b => repeat (first | exact (Kd.R_reads' HO_3.out).2.2 | (with_reducible refine Kd.C_alloc ?_ _) | (with_reducible refine Kd.C_drewN ?_ _) | (with_reducible refine Kd.C_drew ?_))); (case side2b => exact (Kd.R_reads' HO_3.out).2.1); rintro e w' ⟨rfl, ⟨nd, rfl⟩⟩; refine ⟨_, rfl, ?_⟩) | (go_at_call 22; (with_reducible refine (tally_Sum.calls k1 _ _ x3_1 t136 _ ?side1c ?side2c A39.out).mono ?_); (case side1c => repeat (first | exact (Kd.R_reads' HO_3.out).2.2 | (with_reducible refine Kd.C_alloc ?_ _) | (with_reducible refine Kd.C_drewN ?_ _) | (with_reducible refine Kd.C_drew ?_))); (case side2c => exact (Kd.R_reads' HO_3.out).2.1); rintro e w' ⟨rfl, ⟨nd, rfl⟩⟩))
          go_ret
          exact ⟨_, by first | rfl | (simp [errW_none, errW_some] <;> rfl) | (simp [*, errW_none, errW_some] <;> rfl), by (with_reducible repeat (first | apply Kd.R_alloc | apply Kd.R_drewN | apply Kd.R_drew)); exact Kd.R_mono HO142.out (fun _ hk => trivial), by repeat (first | (with_reducible first | exact HB.out | apply below_alloc | apply pw_below_drewN | apply below_drew1 | refine below_set ?_ GE129.out) | exact HB.out)⟩
        · rw [if_neg c40] at H
          exact absurd H (by simp)

/-! ### milestoneref01_bits: function 27 -/
def milestoneref01_bits.l0 : Nat → Int → Int → Option (Int)
  | 0, _, _ => none
  | k + 1, x0, x3 => if x0 > 0 then (milestoneref01_bits.l0 k (IntKind.u64.wrap (Int.tdiv x0 2)) (wrap64 (x3 + 1))) else (some x3)
def milestoneref01_bits.f (k : Nat) (a0 : Int) : Option (Int) := milestoneref01_bits.l0 k a0 0
theorem milestoneref01_bits.mono_l : ∀ k, (∀ y0 y1, LeO (milestoneref01_bits.l0 k y0 y1) (milestoneref01_bits.l0 (k + 1) y0 y1))
  | 0 => fun _ _ r h => by simp [milestoneref01_bits.l0] at h
  | k + 1 => by
    have ih0 := milestoneref01_bits.mono_l k
    · intro y0 y1
      unfold milestoneref01_bits.l0
      repeat' first
      | (with_reducible exact ih0 _ _)
      | (with_reducible exact LeO.refl _)
      | (with_reducible exact LeO.none _)
      | (with_reducible refine LeO.ite ?_ ?_)
      | (with_reducible refine LeO.bind ?_ (fun _ => ?_))
      | exact ih0 _ _
      | exact LeO.none _
      | refine LeO.ite ?_ ?_
      | refine LeO.bind ?_ (fun _ => ?_)
theorem milestoneref01_bits.mono : ∀ a0 k, LeO (milestoneref01_bits.f k a0) (milestoneref01_bits.f (k + 1) a0) := by
  intro a0 k
  have ih0 := milestoneref01_bits.mono_l k
  unfold milestoneref01_bits.f
  repeat' first
      | (with_reducible exact ih0 _ _)
      | (with_reducible exact LeO.refl _)
      | (with_reducible exact LeO.none _)
      | (with_reducible refine LeO.ite ?_ ?_)
      | (with_reducible refine LeO.bind ?_ (fun _ => ?_))
      | exact ih0 _ _
      | exact LeO.none _
      | refine LeO.ite ?_ ?_
      | refine LeO.bind ?_ (fun _ => ?_)
set_option maxHeartbeats 8000000 in
set_option maxRecDepth 100000 in
theorem milestoneref01_bits.calls (k : Nat) (a0 : Int) (r : Int) (w : World) (h : milestoneref01_bits.f k a0 = some r) :
    Calls Try.prog 27 #[.int .u64 a0] w fun e w' => e = .returned (.int .i64 r) ∧ Drawn0 w w' := by
  have H : (milestoneref01_bits.l0 k a0 0) = some r := h
  clear h
  have H' := Aside0.mk H
  clear H
  go_enter Try.func27, Try.ntmps27
  go_wp2
  go_loopg [0, 3] k (fun kq v0 v3 w' => ∃ (x0_1 : Int) (x3_1 : Int), v0 = .int .u64 x0_1 ∧ v3 = .int .i64 x3_1 ∧ Aside0 (milestoneref01_bits.l0 kq x0_1 x3_1 = some r) ∧ Aside0 (kq ≤ k) ∧ Drawn0 w w')
  case atStart => exact ⟨(a0), (0), (by first | rfl | (simp; done) | (simp [*]; done) | (refine qa_int ?_; omega) | (refine qa_int ?_; simp <;> omega)), (by first | rfl | (simp; done) | (simp [*]; done) | (refine qa_int ?_; omega) | (refine qa_int ?_; simp <;> omega)), H', ⟨Nat.le_refl _⟩, by repeat (first | exact Drawn0.refl _ | apply Drawn0.step)⟩
  case round =>
    clear H'
    obtain ⟨x0_1, x3_1, rfl, rfl, HA, HK1, ⟨m1, rfl⟩⟩ := hrel
    cases gk with
    | zero => exact absurd HA.out (by simp [milestoneref01_bits.l0])
    | succ k1 =>
      have H := HA.out
      clear HA
      simp only [milestoneref01_bits.l0] at H
      by_cases c2 : x0_1 > 0
      · rw [if_pos c2] at H
        have c2b0 : decide (0 < x0_1) = true := decide_eq_true c2
        clear c2
        have H' := Aside0.mk H
        clear H
        go_wp2
        go_roundg k1
        case measure => have := HK1.out; omega
        case rel => exact ⟨(IntKind.u64.wrap (Int.tdiv x0_1 2)), (wrap64 (x3_1 + 1)), (by first | rfl | (simp; done) | (simp [*]; done) | (refine qa_int ?_; omega) | (refine qa_int ?_; simp <;> omega)), (by first | rfl | (simp; done) | (simp [*]; done) | (refine qa_int ?_; omega) | (refine qa_int ?_; simp <;> omega)), H', ⟨by have := HK1.out; omega⟩, by repeat (first | exact Drawn0.refl _ | apply Drawn0.step)⟩
      · rw [if_neg c2] at H
        have c2b0 : decide (0 < x0_1) = false := decide_eq_false c2
        clear c2
        obtain rfl := Option.some.inj H
        simp only [Option.some.injEq, Prod.mk.injEq] at H
        obtain ⟨rfl⟩ := H
        go_wp2
        go_ret
        exact ⟨by first | rfl | (simp; done) | (simp [*]; done) | (refine qa_int ?_; omega) | (refine qa_int ?_; simp <;> omega), by repeat (first | exact Drawn0.refl _ | apply Drawn0.step)⟩

end Go.Proofs.Ytnfdgpmdakciiaa.QMessageReads
