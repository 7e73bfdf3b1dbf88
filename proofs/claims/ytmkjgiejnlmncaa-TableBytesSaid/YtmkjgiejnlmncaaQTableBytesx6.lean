-- Lines by a program of this session, for this claim.
import Derived.Test.YtmkjgiejnlmncaaQTableBytesx0
import Derived.Test.YtmkjgiejnlmncaaQTableBytesx2
import Derived.Test.YtmkjgiejnlmncaaQTableBytesx5
namespace Go.Proofs.Ytmkjgiejnlmncaa.QTableBytes
open Go.RowKit Go.Proofs.YtmkjgiejnlmncaaW.PrintWords Go.Proofs.YtmkjgiejnlmncaaW.PrintLast Go.Proofs.YtmkjgiejnlmncaaW.PrintMore
attribute [local go_sem] max2_int min2_int max_two min_two max_three min_three max_four min_four   -- for this text's walks alone
set_option linter.unusedVariables false
set_option maxRecDepth 100000
set_option maxHeartbeats 8000000
set_option linter.unusedSimpArgs false

attribute [local go_sem high] eqA36
/-! ### change_Right: function 36 -/
def change_Right.j0 : Nat → Bool → Int → Int → Bool → Int → Int → Int → Int → Int → Int → Int → Int → Int → Int → Option (Int)
 | 0, _, _, _, _, _, _, _, _, _, _, _, _, _, _ => none
 | k + 1, x6, x117000, x117001, x117002, x117003, x117004, x117005, x117006, x117007, x118000, x118001, x118002, x118003, x118004 => if x6 = true then (some 1) else (if x117002 = true then (some 0) else (if x118002 < 0 then (some 1) else (if x118002 ≥ 16 then (some 1) else (if x118003 ≥ 65535 then (some 1) else (some 0)))))
def change_Right.f (k : Nat) (a0_0 : Int) (a0_1 : Int) (a0_2 : Bool) (a0_3 : Int) (a0_4 : Int) (a0_5 : Int) (a0_6 : Int) (a0_7 : Int) : Option (Int) := (prefix_Right.f a0_3 a0_4).bind fun t118 => (if t118 = true then (if a0_2 = true then (change_Right.j0 k (!(a0_5 == 0) || (!(a0_6 == 0) || (!(a0_7 == 0)))) a0_0 a0_1 a0_2 a0_3 a0_4 a0_5 a0_6 a0_7 a0_3 a0_4 a0_5 a0_6 a0_7) else (change_Right.j0 k false a0_0 a0_1 a0_2 a0_3 a0_4 a0_5 a0_6 a0_7 a0_3 a0_4 a0_5 a0_6 a0_7)) else (some 1))
theorem change_Right.mono_l : ∀ k, (∀ y0 y1 y2 y3 y4 y5 y6 y7 y8 y9 y10 y11 y12 y13, LeO (change_Right.j0 k y0 y1 y2 y3 y4 y5 y6 y7 y8 y9 y10 y11 y12 y13) (change_Right.j0 (k + 1) y0 y1 y2 y3 y4 y5 y6 y7 y8 y9 y10 y11 y12 y13))
 | 0 => fun _ _ _ _ _ _ _ _ _ _ _ _ _ _ r h => by simp [change_Right.j0] at h
 | k + 1 => by
  have ih0 := change_Right.mono_l k
  · intro y0 y1 y2 y3 y4 y5 y6 y7 y8 y9 y10 y11 y12 y13
    unfold change_Right.j0
    repeat' first
    | (with_reducible exact ih0 ..)
    | (with_reducible exact LeO.refl ..)
    | (with_reducible exact LeO.none ..)
    | (with_reducible refine LeO.ite ?_ ?_)
    | (with_reducible refine LeO.bind ?_ (fun _ => ?_))
theorem change_Right.mono : ∀ a0 a1 a2 a3 a4 a5 a6 a7 k, LeO (change_Right.f k a0 a1 a2 a3 a4 a5 a6 a7) (change_Right.f (k + 1) a0 a1 a2 a3 a4 a5 a6 a7) := by
 intro a0 a1 a2 a3 a4 a5 a6 a7 k; have ih0 := change_Right.mono_l k
 unfold change_Right.f
 repeat' first
  | (with_reducible exact ih0 ..)
  | (with_reducible exact LeO.refl ..)
  | (with_reducible exact LeO.none ..)
  | (with_reducible refine LeO.ite ?_ ?_)
  | (with_reducible refine LeO.bind ?_ (fun _ => ?_))
theorem change_Right.calls (k : Nat) (a0_0 : Int) (a0_1 : Int) (a0_2 : Bool) (a0_3 : Int) (a0_4 : Int) (a0_5 : Int) (a0_6 : Int) (a0_7 : Int) (r : Int) (w : World) (h : change_Right.f k a0_0 a0_1 a0_2 a0_3 a0_4 a0_5 a0_6 a0_7 = some r) :
 Calls Try.prog 36 #[.agg #[.int .u64 a0_0, .int .u64 a0_1, .bool a0_2, .int .u32 a0_3, .int .u8 a0_4, .int .i64 a0_5, .int .u16 a0_6, .int .u16 a0_7]] w fun e w' => e = .returned (.int .i64 r) ∧ Below w.heap.size w w' := by
 have hu38 := Try.underlying38; have hu36 := Try.underlying36; have hu33 := Try.underlying33; have HB := Ad (Below.refl w.heap.size w); have H : ((prefix_Right.f a0_3 a0_4).bind fun t118 => (if t118 = true then (if a0_2 = true then (change_Right.j0 k (!(a0_5 == 0) || (!(a0_6 == 0) || (!(a0_7 == 0)))) a0_0 a0_1 a0_2 a0_3 a0_4 a0_5 a0_6 a0_7 a0_3 a0_4 a0_5 a0_6 a0_7) else (change_Right.j0 k false a0_0 a0_1 a0_2 a0_3 a0_4 a0_5 a0_6 a0_7 a0_3 a0_4 a0_5 a0_6 a0_7)) else (some 1))) = some r := h; clear h; replace H := Option.bind_eq_some_iff.mp H; obtain ⟨t118, A20, H⟩ := H; replace H : (if t118 = true then (if a0_2 = true then (change_Right.j0 k (!(a0_5 == 0) || (!(a0_6 == 0) || (!(a0_7 == 0)))) a0_0 a0_1 a0_2 a0_3 a0_4 a0_5 a0_6 a0_7 a0_3 a0_4 a0_5 a0_6 a0_7) else (change_Right.j0 k false a0_0 a0_1 a0_2 a0_3 a0_4 a0_5 a0_6 a0_7 a0_3 a0_4 a0_5 a0_6 a0_7)) else (some 1)) = some r := H; have A2 := Ad A20; clear A20
 by_cases c3 : t118 = true
 · subst c3
   have H1 : (if a0_2 = true then (change_Right.j0 k (!(a0_5 == 0) || (!(a0_6 == 0) || (!(a0_7 == 0)))) a0_0 a0_1 a0_2 a0_3 a0_4 a0_5 a0_6 a0_7 a0_3 a0_4 a0_5 a0_6 a0_7) else (change_Right.j0 k false a0_0 a0_1 a0_2 a0_3 a0_4 a0_5 a0_6 a0_7 a0_3 a0_4 a0_5 a0_6 a0_7)) = some r := by rw [if_pos rfl] at H; exact H
   clear H; have H := H1; clear H1; have HC4 := Ad H; clear H
   go_enter Try.func36, Try.ntmps36
   go_upto_region 3 with (first | ((with_reducible refine gate_dst (N := 1) rfl ?_); refine box_event ?hg (N := 1) ?hd (cs := #[.int .u64 a0_0, .int .u64 a0_1, .bool a0_2, .int .u32 a0_3, .int .u8 a0_4, .int .i64 a0_5, .int .u16 a0_6, .int .u16 a0_7]) (t := 38) ?hr ?_; (case hd => rfl); (case hg => rfl); (case hr => first | (go_simp; done)); intro gb116 hg w5 hbox hb; have BK116 := Ad (hbox); have GW116 := Ad ((by rw [hg]; exact (below_size (by repeat (first | (with_reducible first | exact HB.out | apply below_drew1)))) : w.heap.size ≤ gb116)); have GE116 := GW116; replace HB := Ad (below_step (by repeat (first | (with_reducible first | exact HB.out | apply below_drew1))) hb); clear hb hbox hg; have hcz6_0 : w5.cell? ⟨gb116, 0, none⟩ = some (.int .u64 a0_0) := (blk_cell BK116.out 0).trans rfl; have hcz6_1 : w5.cell? ⟨gb116, 1, none⟩ = some (.int .u64 a0_1) := (blk_cell BK116.out 1).trans rfl; have hcz6_2 : w5.cell? ⟨gb116, 2, none⟩ = some (.bool a0_2) := (blk_cell BK116.out 2).trans rfl; have hcz6_3 : w5.cell? ⟨gb116, 3, none⟩ = some (.int .u32 a0_3) := (blk_cell BK116.out 3).trans rfl; have hcz6_4 : w5.cell? ⟨gb116, 4, none⟩ = some (.int .u8 a0_4) := (blk_cell BK116.out 4).trans rfl; have hcz6_5 : w5.cell? ⟨gb116, 5, none⟩ = some (.int .i64 a0_5) := (blk_cell BK116.out 5).trans rfl; have hcz6_6 : w5.cell? ⟨gb116, 6, none⟩ = some (.int .u16 a0_6) := (blk_cell BK116.out 6).trans rfl; have hcz6_7 : w5.cell? ⟨gb116, 7, none⟩ = some (.int .u16 a0_7) := (blk_cell BK116.out 7).trans rfl; have hfz6_0 := blk_frozen BK116.out 0; have hfz6_1 := blk_frozen BK116.out 1; have hfz6_2 := blk_frozen BK116.out 2; have hfz6_3 := blk_frozen BK116.out 3; have hfz6_4 := blk_frozen BK116.out 4; have hfz6_5 := blk_frozen BK116.out 5; have hfz6_6 := blk_frozen BK116.out 6; have hfz6_7 := blk_frozen BK116.out 7) | ((with_reducible refine gate_dst (N := 3) rfl ?_); refine box_event ?hg (N := 3) ?hd (cs := #[.int .u32 0, .int .u8 0, .int .i64 0, .int .u16 0, .int .u16 0]) (t := 36) ?hr ?_; (case hd => rfl); (case hg => rfl); (case hr => first | (go_simp; done)); intro gb117 hg w7 hbox hb; have BK117 := Ad (hbox); have GW117 := Ad ((by rw [hg]; exact (below_size (by repeat (first | (with_reducible first | exact HB.out | refine below_set ?_ GE116.out)))) : w.heap.size ≤ gb117)); have GE117 := GW117; replace HB := Ad (below_step (by repeat (first | (with_reducible first | exact HB.out | refine below_set ?_ GE116.out))) hb); have NB116_117 := Ad ((by rw [hg]; exact Nat.ne_of_lt (blk_lt (g := gb116) (o := .cells #[.int .u64 a0_0, .int .u64 a0_1, .bool a0_2, .int .u32 a0_3, .int .u8 a0_4, .int .i64 a0_5, .int .u16 a0_6, .int .u16 a0_7] 38 (0, 0)) (by exact BK116.out)) : gb116 ≠ gb117)); have NB117_116 := Ad ((by rw [hg]; exact Nat.ne_of_gt (blk_lt (g := gb116) (o := .cells #[.int .u64 a0_0, .int .u64 a0_1, .bool a0_2, .int .u32 a0_3, .int .u8 a0_4, .int .i64 a0_5, .int .u16 a0_6, .int .u16 a0_7] 38 (0, 0)) (by exact BK116.out)) : gb117 ≠ gb116)); replace BK116 := Ad (blk_below (g := gb116) (o := .cells #[.int .u64 a0_0, .int .u64 a0_1, .bool a0_2, .int .u32 a0_3, .int .u8 a0_4, .int .i64 a0_5, .int .u16 a0_6, .int .u16 a0_7] 38 (0, 0)) (by exact BK116.out) hb); clear hb hbox hg; have hnb8 := NB117_116.out; have hnc8 := NB116_117.out; have hcz9_0 : w7.cell? ⟨gb117, 0, none⟩ = some (.int .u32 0) := (blk_cell BK117.out 0).trans rfl; have hcz9_1 : w7.cell? ⟨gb117, 1, none⟩ = some (.int .u8 0) := (blk_cell BK117.out 1).trans rfl; have hcz9_2 : w7.cell? ⟨gb117, 2, none⟩ = some (.int .i64 0) := (blk_cell BK117.out 2).trans rfl; have hcz9_3 : w7.cell? ⟨gb117, 3, none⟩ = some (.int .u16 0) := (blk_cell BK117.out 3).trans rfl; have hcz9_4 : w7.cell? ⟨gb117, 4, none⟩ = some (.int .u16 0) := (blk_cell BK117.out 4).trans rfl; have hfz9_0 := blk_frozen BK117.out 0; have hfz9_1 := blk_frozen BK117.out 1; have hfz9_2 := blk_frozen BK117.out 2; have hfz9_3 := blk_frozen BK117.out 3; have hfz9_4 := blk_frozen BK117.out 4) | ((with_reducible refine gate_callee (f := 32) rfl ?_); refine goesL_ (some 9) rfl rfl Try.func32 (by kernel_rfl) rfl #[.agg #[.int .u32 a0_3, .int .u8 a0_4]] rfl (by (try simp only [List.map_toArray, List.map_cons, List.map_nil]); first | rfl | (refine qa_arr ?_; (repeat' (first | rfl | refine qa_cons ?_ ?_ | refine qa_int ?_ | refine qa_agg ?_ | refine qa_arr ?_ | omega)); done)) ?_; (with_reducible refine (prefix_Right.calls a0_3 a0_4 true _ A2.out).mono ?_); rintro e w10 ⟨rfl, hb⟩; refine ⟨_, rfl, ?_⟩; replace BK116 := Ad (blk_below (g := gb116) (o := .cells #[.int .u64 a0_0, .int .u64 a0_1, .bool a0_2, .int .u32 a0_3, .int .u8 a0_4, .int .i64 a0_5, .int .u16 a0_6, .int .u16 a0_7] 38 (0, 0)) (by (iterate 5 refine blk_far ?_ NB116_117.out _); exact BK116.out) hb); replace BK117 := Ad (blk_below (g := gb117) (o := .cells #[.int .u32 a0_3, .int .u8 a0_4, .int .i64 a0_5, .int .u16 a0_6, .int .u16 a0_7] 36 (0, 0)) (by refine blk_put (cs := #[.int .u32 a0_3, .int .u8 a0_4, .int .i64 a0_5, .int .u16 a0_6, .int .u16 0]) ?_ 4 _ rfl; refine blk_put (cs := #[.int .u32 a0_3, .int .u8 a0_4, .int .i64 a0_5, .int .u16 0, .int .u16 0]) ?_ 3 _ rfl; refine blk_put (cs := #[.int .u32 a0_3, .int .u8 a0_4, .int .i64 0, .int .u16 0, .int .u16 0]) ?_ 2 _ rfl; refine blk_put (cs := #[.int .u32 a0_3, .int .u8 0, .int .i64 0, .int .u16 0, .int .u16 0]) ?_ 1 _ rfl; refine blk_put (cs := #[.int .u32 0, .int .u8 0, .int .i64 0, .int .u16 0, .int .u16 0]) ?_ 0 _ rfl; exact BK117.out) hb); replace HB := Ad (below_step (by repeat (first | (with_reducible first | exact HB.out | refine below_set ?_ GE117.out))) hb); (try clear hb); (try clear hb2); (try clear hk); (try clear hi)))
   (try simp only [Act.put, la0, la1, la2])
   go_cut [6] (fun v6 wc => ∃ (kq : Nat) (x6_3 : Bool), v6 = .bool x6_3 ∧ Aside0 (change_Right.j0 kq x6_3 a0_0 a0_1 a0_2 a0_3 a0_4 a0_5 a0_6 a0_7 a0_3 a0_4 a0_5 a0_6 a0_7 = some r) ∧ Aside0 (kq ≤ k) ∧ Aside0 (wc.heap[gb116]? = some (.cells #[.int .u64 a0_0, .int .u64 a0_1, .bool a0_2, .int .u32 a0_3, .int .u8 a0_4, .int .i64 a0_5, .int .u16 a0_6, .int .u16 a0_7] 38 (0, 0))) ∧ Aside0 (wc.heap[gb117]? = some (.cells #[.int .u32 a0_3, .int .u8 a0_4, .int .i64 a0_5, .int .u16 a0_6, .int .u16 a0_7] 36 (0, 0))) ∧ Aside0 (Below w.heap.size w wc))
   case first =>
    have H := HC4.out; clear HC4
    by_cases c11 : a0_2 = true
    · subst c11
      have H1 : (change_Right.j0 k (!(a0_5 == 0) || (!(a0_6 == 0) || (!(a0_7 == 0)))) a0_0 a0_1 true a0_3 a0_4 a0_5 a0_6 a0_7 a0_3 a0_4 a0_5 a0_6 a0_7) = some r := by rw [if_pos rfl] at H; exact H
      clear H; have H := H1; clear H1; have H' := Ad H; clear H; have hnb12 := NB116_117.out; have hnc12 := NB117_116.out; have hcz13_0 : w10.cell? ⟨gb116, 0, none⟩ = some (.int .u64 a0_0) := (blk_cell BK116.out 0).trans rfl; have hcz13_1 : w10.cell? ⟨gb116, 1, none⟩ = some (.int .u64 a0_1) := (blk_cell BK116.out 1).trans rfl; have hcz13_2 : w10.cell? ⟨gb116, 2, none⟩ = some (.bool true) := (blk_cell BK116.out 2).trans rfl; have hcz13_3 : w10.cell? ⟨gb116, 3, none⟩ = some (.int .u32 a0_3) := (blk_cell BK116.out 3).trans rfl; have hcz13_4 : w10.cell? ⟨gb116, 4, none⟩ = some (.int .u8 a0_4) := (blk_cell BK116.out 4).trans rfl; have hcz13_5 : w10.cell? ⟨gb116, 5, none⟩ = some (.int .i64 a0_5) := (blk_cell BK116.out 5).trans rfl; have hcz13_6 : w10.cell? ⟨gb116, 6, none⟩ = some (.int .u16 a0_6) := (blk_cell BK116.out 6).trans rfl; have hcz13_7 : w10.cell? ⟨gb116, 7, none⟩ = some (.int .u16 a0_7) := (blk_cell BK116.out 7).trans rfl; have hfz13_0 := blk_frozen BK116.out 0; have hfz13_1 := blk_frozen BK116.out 1; have hfz13_2 := blk_frozen BK116.out 2; have hfz13_3 := blk_frozen BK116.out 3; have hfz13_4 := blk_frozen BK116.out 4; have hfz13_5 := blk_frozen BK116.out 5; have hfz13_6 := blk_frozen BK116.out 6; have hfz13_7 := blk_frozen BK116.out 7; have hcz14_0 : w10.cell? ⟨gb117, 0, none⟩ = some (.int .u32 a0_3) := (blk_cell BK117.out 0).trans rfl; have hcz14_1 : w10.cell? ⟨gb117, 1, none⟩ = some (.int .u8 a0_4) := (blk_cell BK117.out 1).trans rfl; have hcz14_2 : w10.cell? ⟨gb117, 2, none⟩ = some (.int .i64 a0_5) := (blk_cell BK117.out 2).trans rfl; have hcz14_3 : w10.cell? ⟨gb117, 3, none⟩ = some (.int .u16 a0_6) := (blk_cell BK117.out 3).trans rfl; have hcz14_4 : w10.cell? ⟨gb117, 4, none⟩ = some (.int .u16 a0_7) := (blk_cell BK117.out 4).trans rfl; have hfz14_0 := blk_frozen BK117.out 0; have hfz14_1 := blk_frozen BK117.out 1; have hfz14_2 := blk_frozen BK117.out 2; have hfz14_3 := blk_frozen BK117.out 3; have hfz14_4 := blk_frozen BK117.out 4; go_wp2; go_meet
      case rel => exact ⟨_, ((!(a0_5 == 0) || (!(a0_6 == 0) || (!(a0_7 == 0))))), (by first | rfl | (refine qa_int ?_; simp <;> omega)), H', ⟨by first | omega⟩, ⟨by exact BK116.out⟩, ⟨by exact BK117.out⟩, ⟨by repeat (first | (with_reducible first | exact HB.out | refine below_set ?_ GE117.out))⟩⟩
    · replace c11 := Bool.eq_false_iff.mpr c11
      subst c11
      have H1 : (change_Right.j0 k false a0_0 a0_1 false a0_3 a0_4 a0_5 a0_6 a0_7 a0_3 a0_4 a0_5 a0_6 a0_7) = some r := by rw [if_neg (show ¬ (false = true) by decide)] at H; exact H
      clear H; have H := H1; clear H1; have H' := Ad H; clear H; have hnb15 := NB116_117.out; have hnc15 := NB117_116.out; have hcz16_0 : w10.cell? ⟨gb116, 0, none⟩ = some (.int .u64 a0_0) := (blk_cell BK116.out 0).trans rfl; have hcz16_1 : w10.cell? ⟨gb116, 1, none⟩ = some (.int .u64 a0_1) := (blk_cell BK116.out 1).trans rfl; have hcz16_2 : w10.cell? ⟨gb116, 2, none⟩ = some (.bool false) := (blk_cell BK116.out 2).trans rfl; have hcz16_3 : w10.cell? ⟨gb116, 3, none⟩ = some (.int .u32 a0_3) := (blk_cell BK116.out 3).trans rfl; have hcz16_4 : w10.cell? ⟨gb116, 4, none⟩ = some (.int .u8 a0_4) := (blk_cell BK116.out 4).trans rfl; have hcz16_5 : w10.cell? ⟨gb116, 5, none⟩ = some (.int .i64 a0_5) := (blk_cell BK116.out 5).trans rfl; have hcz16_6 : w10.cell? ⟨gb116, 6, none⟩ = some (.int .u16 a0_6) := (blk_cell BK116.out 6).trans rfl; have hcz16_7 : w10.cell? ⟨gb116, 7, none⟩ = some (.int .u16 a0_7) := (blk_cell BK116.out 7).trans rfl; have hfz16_0 := blk_frozen BK116.out 0; have hfz16_1 := blk_frozen BK116.out 1; have hfz16_2 := blk_frozen BK116.out 2; have hfz16_3 := blk_frozen BK116.out 3; have hfz16_4 := blk_frozen BK116.out 4; have hfz16_5 := blk_frozen BK116.out 5; have hfz16_6 := blk_frozen BK116.out 6; have hfz16_7 := blk_frozen BK116.out 7; go_wp2; go_meet
      case rel => exact ⟨_, (false), (by first | rfl | (refine qa_int ?_; simp <;> omega)), H', ⟨by first | omega⟩, ⟨by exact BK116.out⟩, ⟨by exact BK117.out⟩, ⟨by repeat (first | (with_reducible first | exact HB.out | refine below_set ?_ GE117.out))⟩⟩
   case rest =>
    clear HC4
    try clear c1
    try clear p2
    try clear c3
    try clear c8
    try clear c11
    try clear c12
    try clear c15
    try clear hcz13_0
    try clear hcz13_1
    try clear hcz13_2
    try clear hcz13_3
    try clear hcz13_4
    try clear hcz13_5
    try clear hcz13_6
    try clear hcz13_7
    try clear hcz14_0
    try clear hcz14_1
    try clear hcz14_2
    try clear hcz14_3
    try clear hcz14_4
    try clear hcz16_0
    try clear hcz16_1
    try clear hcz16_2
    try clear hcz16_3
    try clear hcz16_4
    try clear hcz16_5
    try clear hcz16_6
    try clear hcz16_7
    try clear hcz6_0
    try clear hcz6_1
    try clear hcz6_2
    try clear hcz6_3
    try clear hcz6_4
    try clear hcz6_5
    try clear hcz6_6
    try clear hcz6_7
    try clear hcz9_0
    try clear hcz9_1
    try clear hcz9_2
    try clear hcz9_3
    try clear hcz9_4
    try clear hfz13_0
    try clear hfz13_1
    try clear hfz13_2
    try clear hfz13_3
    try clear hfz13_4
    try clear hfz13_5
    try clear hfz13_6
    try clear hfz13_7
    try clear hfz14_0
    try clear hfz14_1
    try clear hfz14_2
    try clear hfz14_3
    try clear hfz14_4
    try clear hfz16_0
    try clear hfz16_1
    try clear hfz16_2
    try clear hfz16_3
    try clear hfz16_4
    try clear hfz16_5
    try clear hfz16_6
    try clear hfz16_7
    try clear hfz6_0
    try clear hfz6_1
    try clear hfz6_2
    try clear hfz6_3
    try clear hfz6_4
    try clear hfz6_5
    try clear hfz6_6
    try clear hfz6_7
    try clear hfz9_0
    try clear hfz9_1
    try clear hfz9_2
    try clear hfz9_3
    try clear hfz9_4
    obtain ⟨kq, x6_3, rfl, HA, HJ3, BK116, BK117, HB⟩ := hcut
    cases kq with
    | zero => exact absurd HA.out (by simp [change_Right.j0])
    | succ kj3 =>
     have H := HA.out; clear HA
     simp only [change_Right.j0] at H
     by_cases c17 : x6_3 = true
     · subst c17
       have H1 : (some 1) = some r := by rw [if_pos rfl] at H; exact H
       clear H; have H := H1; clear H1; obtain rfl := Option.some.inj H
       simp only [Option.some.injEq, Prod.mk.injEq] at H
       obtain ⟨rfl⟩ := H; go_wp2; go_ret; exact ⟨by first | rfl | (simp [*, errW_none, errW_some] <;> rfl), by repeat (first | (with_reducible first | exact HB.out | refine below_set ?_ GE117.out))⟩
     · replace c17 := Bool.eq_false_iff.mpr c17
       subst c17
       have H1 : (if a0_2 = true then (some 0) else (if a0_5 < 0 then (some 1) else (if a0_5 ≥ 16 then (some 1) else (if a0_6 ≥ 65535 then (some 1) else (some 0))))) = some r := by rw [if_neg (show ¬ (false = true) by decide)] at H; exact H
       clear H; have H := H1; clear H1
       by_cases c18 : a0_2 = true
       · subst c18
         have H1 : (some 0) = some r := by rw [if_pos rfl] at H; exact H
         clear H; have H := H1; clear H1; obtain rfl := Option.some.inj H
         simp only [Option.some.injEq, Prod.mk.injEq] at H
         obtain ⟨rfl⟩ := H; have hnb19 := NB116_117.out; have hnc19 := NB117_116.out; have hcz20_0 : wc.cell? ⟨gb116, 0, none⟩ = some (.int .u64 a0_0) := (blk_cell BK116.out 0).trans rfl; have hcz20_1 : wc.cell? ⟨gb116, 1, none⟩ = some (.int .u64 a0_1) := (blk_cell BK116.out 1).trans rfl; have hcz20_2 : wc.cell? ⟨gb116, 2, none⟩ = some (.bool true) := (blk_cell BK116.out 2).trans rfl; have hcz20_3 : wc.cell? ⟨gb116, 3, none⟩ = some (.int .u32 a0_3) := (blk_cell BK116.out 3).trans rfl; have hcz20_4 : wc.cell? ⟨gb116, 4, none⟩ = some (.int .u8 a0_4) := (blk_cell BK116.out 4).trans rfl; have hcz20_5 : wc.cell? ⟨gb116, 5, none⟩ = some (.int .i64 a0_5) := (blk_cell BK116.out 5).trans rfl; have hcz20_6 : wc.cell? ⟨gb116, 6, none⟩ = some (.int .u16 a0_6) := (blk_cell BK116.out 6).trans rfl; have hcz20_7 : wc.cell? ⟨gb116, 7, none⟩ = some (.int .u16 a0_7) := (blk_cell BK116.out 7).trans rfl; have hfz20_0 := blk_frozen BK116.out 0; have hfz20_1 := blk_frozen BK116.out 1; have hfz20_2 := blk_frozen BK116.out 2; have hfz20_3 := blk_frozen BK116.out 3; have hfz20_4 := blk_frozen BK116.out 4; have hfz20_5 := blk_frozen BK116.out 5; have hfz20_6 := blk_frozen BK116.out 6; have hfz20_7 := blk_frozen BK116.out 7; go_wp2; go_ret; exact ⟨by first | rfl | (simp [*, errW_none, errW_some] <;> rfl), by repeat (first | (with_reducible first | exact HB.out | refine below_set ?_ GE117.out))⟩
       · replace c18 := Bool.eq_false_iff.mpr c18
         subst c18
         have H1 : (if a0_5 < 0 then (some 1) else (if a0_5 ≥ 16 then (some 1) else (if a0_6 ≥ 65535 then (some 1) else (some 0)))) = some r := by rw [if_neg (show ¬ (false = true) by decide)] at H; exact H
         clear H; have H := H1; clear H1
         by_cases c21 : a0_5 < 0
         · rw [if_pos c21] at H
           have c21b0 : decide (a0_5 < 0) = true := decide_eq_true c21; clear c21; obtain rfl := Option.some.inj H
           simp only [Option.some.injEq, Prod.mk.injEq] at H
           obtain ⟨rfl⟩ := H; have hnb22 := NB116_117.out; have hnc22 := NB117_116.out; have hcz23_0 : wc.cell? ⟨gb116, 0, none⟩ = some (.int .u64 a0_0) := (blk_cell BK116.out 0).trans rfl; have hcz23_1 : wc.cell? ⟨gb116, 1, none⟩ = some (.int .u64 a0_1) := (blk_cell BK116.out 1).trans rfl; have hcz23_2 : wc.cell? ⟨gb116, 2, none⟩ = some (.bool false) := (blk_cell BK116.out 2).trans rfl; have hcz23_3 : wc.cell? ⟨gb116, 3, none⟩ = some (.int .u32 a0_3) := (blk_cell BK116.out 3).trans rfl; have hcz23_4 : wc.cell? ⟨gb116, 4, none⟩ = some (.int .u8 a0_4) := (blk_cell BK116.out 4).trans rfl; have hcz23_5 : wc.cell? ⟨gb116, 5, none⟩ = some (.int .i64 a0_5) := (blk_cell BK116.out 5).trans rfl; have hcz23_6 : wc.cell? ⟨gb116, 6, none⟩ = some (.int .u16 a0_6) := (blk_cell BK116.out 6).trans rfl; have hcz23_7 : wc.cell? ⟨gb116, 7, none⟩ = some (.int .u16 a0_7) := (blk_cell BK116.out 7).trans rfl; have hfz23_0 := blk_frozen BK116.out 0; have hfz23_1 := blk_frozen BK116.out 1; have hfz23_2 := blk_frozen BK116.out 2; have hfz23_3 := blk_frozen BK116.out 3; have hfz23_4 := blk_frozen BK116.out 4; have hfz23_5 := blk_frozen BK116.out 5; have hfz23_6 := blk_frozen BK116.out 6; have hfz23_7 := blk_frozen BK116.out 7; have hcz24_0 : wc.cell? ⟨gb117, 0, none⟩ = some (.int .u32 a0_3) := (blk_cell BK117.out 0).trans rfl; have hcz24_1 : wc.cell? ⟨gb117, 1, none⟩ = some (.int .u8 a0_4) := (blk_cell BK117.out 1).trans rfl; have hcz24_2 : wc.cell? ⟨gb117, 2, none⟩ = some (.int .i64 a0_5) := (blk_cell BK117.out 2).trans rfl; have hcz24_3 : wc.cell? ⟨gb117, 3, none⟩ = some (.int .u16 a0_6) := (blk_cell BK117.out 3).trans rfl; have hcz24_4 : wc.cell? ⟨gb117, 4, none⟩ = some (.int .u16 a0_7) := (blk_cell BK117.out 4).trans rfl; have hfz24_0 := blk_frozen BK117.out 0; have hfz24_1 := blk_frozen BK117.out 1; have hfz24_2 := blk_frozen BK117.out 2; have hfz24_3 := blk_frozen BK117.out 3; have hfz24_4 := blk_frozen BK117.out 4; go_wp2; go_ret; exact ⟨by first | rfl | (simp [*, errW_none, errW_some] <;> rfl), by repeat (first | (with_reducible first | exact HB.out | refine below_set ?_ GE117.out))⟩
         · rw [if_neg c21] at H
           have c21b0 : decide (a0_5 < 0) = false := decide_eq_false c21; clear c21
           by_cases c25 : a0_5 ≥ 16
           · rw [if_pos c25] at H
             have c25b0 : decide (16 ≤ a0_5) = true := decide_eq_true c25; clear c25; obtain rfl := Option.some.inj H
             simp only [Option.some.injEq, Prod.mk.injEq] at H
             obtain ⟨rfl⟩ := H; have hnb26 := NB116_117.out; have hnc26 := NB117_116.out; have hcz27_0 : wc.cell? ⟨gb116, 0, none⟩ = some (.int .u64 a0_0) := (blk_cell BK116.out 0).trans rfl; have hcz27_1 : wc.cell? ⟨gb116, 1, none⟩ = some (.int .u64 a0_1) := (blk_cell BK116.out 1).trans rfl; have hcz27_2 : wc.cell? ⟨gb116, 2, none⟩ = some (.bool false) := (blk_cell BK116.out 2).trans rfl; have hcz27_3 : wc.cell? ⟨gb116, 3, none⟩ = some (.int .u32 a0_3) := (blk_cell BK116.out 3).trans rfl; have hcz27_4 : wc.cell? ⟨gb116, 4, none⟩ = some (.int .u8 a0_4) := (blk_cell BK116.out 4).trans rfl; have hcz27_5 : wc.cell? ⟨gb116, 5, none⟩ = some (.int .i64 a0_5) := (blk_cell BK116.out 5).trans rfl; have hcz27_6 : wc.cell? ⟨gb116, 6, none⟩ = some (.int .u16 a0_6) := (blk_cell BK116.out 6).trans rfl; have hcz27_7 : wc.cell? ⟨gb116, 7, none⟩ = some (.int .u16 a0_7) := (blk_cell BK116.out 7).trans rfl; have hfz27_0 := blk_frozen BK116.out 0; have hfz27_1 := blk_frozen BK116.out 1; have hfz27_2 := blk_frozen BK116.out 2; have hfz27_3 := blk_frozen BK116.out 3; have hfz27_4 := blk_frozen BK116.out 4; have hfz27_5 := blk_frozen BK116.out 5; have hfz27_6 := blk_frozen BK116.out 6; have hfz27_7 := blk_frozen BK116.out 7; have hcz28_0 : wc.cell? ⟨gb117, 0, none⟩ = some (.int .u32 a0_3) := (blk_cell BK117.out 0).trans rfl; have hcz28_1 : wc.cell? ⟨gb117, 1, none⟩ = some (.int .u8 a0_4) := (blk_cell BK117.out 1).trans rfl; have hcz28_2 : wc.cell? ⟨gb117, 2, none⟩ = some (.int .i64 a0_5) := (blk_cell BK117.out 2).trans rfl; have hcz28_3 : wc.cell? ⟨gb117, 3, none⟩ = some (.int .u16 a0_6) := (blk_cell BK117.out 3).trans rfl; have hcz28_4 : wc.cell? ⟨gb117, 4, none⟩ = some (.int .u16 a0_7) := (blk_cell BK117.out 4).trans rfl; have hfz28_0 := blk_frozen BK117.out 0; have hfz28_1 := blk_frozen BK117.out 1; have hfz28_2 := blk_frozen BK117.out 2; have hfz28_3 := blk_frozen BK117.out 3; have hfz28_4 := blk_frozen BK117.out 4; go_wp2; go_ret; exact ⟨by first | rfl | (simp [*, errW_none, errW_some] <;> rfl), by repeat (first | (with_reducible first | exact HB.out | refine below_set ?_ GE117.out))⟩
           · rw [if_neg c25] at H
             have c25b0 : decide (16 ≤ a0_5) = false := decide_eq_false c25; clear c25
             by_cases c29 : a0_6 ≥ 65535
             · rw [if_pos c29] at H
               have c29b0 : decide (65535 ≤ a0_6) = true := decide_eq_true c29; clear c29; obtain rfl := Option.some.inj H
               simp only [Option.some.injEq, Prod.mk.injEq] at H
               obtain ⟨rfl⟩ := H; have hnb30 := NB116_117.out; have hnc30 := NB117_116.out; have hcz31_0 : wc.cell? ⟨gb116, 0, none⟩ = some (.int .u64 a0_0) := (blk_cell BK116.out 0).trans rfl; have hcz31_1 : wc.cell? ⟨gb116, 1, none⟩ = some (.int .u64 a0_1) := (blk_cell BK116.out 1).trans rfl; have hcz31_2 : wc.cell? ⟨gb116, 2, none⟩ = some (.bool false) := (blk_cell BK116.out 2).trans rfl; have hcz31_3 : wc.cell? ⟨gb116, 3, none⟩ = some (.int .u32 a0_3) := (blk_cell BK116.out 3).trans rfl; have hcz31_4 : wc.cell? ⟨gb116, 4, none⟩ = some (.int .u8 a0_4) := (blk_cell BK116.out 4).trans rfl; have hcz31_5 : wc.cell? ⟨gb116, 5, none⟩ = some (.int .i64 a0_5) := (blk_cell BK116.out 5).trans rfl; have hcz31_6 : wc.cell? ⟨gb116, 6, none⟩ = some (.int .u16 a0_6) := (blk_cell BK116.out 6).trans rfl; have hcz31_7 : wc.cell? ⟨gb116, 7, none⟩ = some (.int .u16 a0_7) := (blk_cell BK116.out 7).trans rfl; have hfz31_0 := blk_frozen BK116.out 0; have hfz31_1 := blk_frozen BK116.out 1; have hfz31_2 := blk_frozen BK116.out 2; have hfz31_3 := blk_frozen BK116.out 3; have hfz31_4 := blk_frozen BK116.out 4; have hfz31_5 := blk_frozen BK116.out 5; have hfz31_6 := blk_frozen BK116.out 6; have hfz31_7 := blk_frozen BK116.out 7; have hcz32_0 : wc.cell? ⟨gb117, 0, none⟩ = some (.int .u32 a0_3) := (blk_cell BK117.out 0).trans rfl; have hcz32_1 : wc.cell? ⟨gb117, 1, none⟩ = some (.int .u8 a0_4) := (blk_cell BK117.out 1).trans rfl; have hcz32_2 : wc.cell? ⟨gb117, 2, none⟩ = some (.int .i64 a0_5) := (blk_cell BK117.out 2).trans rfl; have hcz32_3 : wc.cell? ⟨gb117, 3, none⟩ = some (.int .u16 a0_6) := (blk_cell BK117.out 3).trans rfl; have hcz32_4 : wc.cell? ⟨gb117, 4, none⟩ = some (.int .u16 a0_7) := (blk_cell BK117.out 4).trans rfl; have hfz32_0 := blk_frozen BK117.out 0; have hfz32_1 := blk_frozen BK117.out 1; have hfz32_2 := blk_frozen BK117.out 2; have hfz32_3 := blk_frozen BK117.out 3; have hfz32_4 := blk_frozen BK117.out 4; go_wp2; go_ret; exact ⟨by first | rfl | (simp [*, errW_none, errW_some] <;> rfl), by repeat (first | (with_reducible first | exact HB.out | refine below_set ?_ GE117.out))⟩
             · rw [if_neg c29] at H
               have c29b0 : decide (65535 ≤ a0_6) = false := decide_eq_false c29; clear c29; obtain rfl := Option.some.inj H
               simp only [Option.some.injEq, Prod.mk.injEq] at H
               obtain ⟨rfl⟩ := H; have hnb33 := NB116_117.out; have hnc33 := NB117_116.out; have hcz34_0 : wc.cell? ⟨gb116, 0, none⟩ = some (.int .u64 a0_0) := (blk_cell BK116.out 0).trans rfl; have hcz34_1 : wc.cell? ⟨gb116, 1, none⟩ = some (.int .u64 a0_1) := (blk_cell BK116.out 1).trans rfl; have hcz34_2 : wc.cell? ⟨gb116, 2, none⟩ = some (.bool false) := (blk_cell BK116.out 2).trans rfl; have hcz34_3 : wc.cell? ⟨gb116, 3, none⟩ = some (.int .u32 a0_3) := (blk_cell BK116.out 3).trans rfl; have hcz34_4 : wc.cell? ⟨gb116, 4, none⟩ = some (.int .u8 a0_4) := (blk_cell BK116.out 4).trans rfl; have hcz34_5 : wc.cell? ⟨gb116, 5, none⟩ = some (.int .i64 a0_5) := (blk_cell BK116.out 5).trans rfl; have hcz34_6 : wc.cell? ⟨gb116, 6, none⟩ = some (.int .u16 a0_6) := (blk_cell BK116.out 6).trans rfl; have hcz34_7 : wc.cell? ⟨gb116, 7, none⟩ = some (.int .u16 a0_7) := (blk_cell BK116.out 7).trans rfl; have hfz34_0 := blk_frozen BK116.out 0; have hfz34_1 := blk_frozen BK116.out 1; have hfz34_2 := blk_frozen BK116.out 2; have hfz34_3 := blk_frozen BK116.out 3; have hfz34_4 := blk_frozen BK116.out 4; have hfz34_5 := blk_frozen BK116.out 5; have hfz34_6 := blk_frozen BK116.out 6; have hfz34_7 := blk_frozen BK116.out 7; have hcz35_0 : wc.cell? ⟨gb117, 0, none⟩ = some (.int .u32 a0_3) := (blk_cell BK117.out 0).trans rfl; have hcz35_1 : wc.cell? ⟨gb117, 1, none⟩ = some (.int .u8 a0_4) := (blk_cell BK117.out 1).trans rfl; have hcz35_2 : wc.cell? ⟨gb117, 2, none⟩ = some (.int .i64 a0_5) := (blk_cell BK117.out 2).trans rfl; have hcz35_3 : wc.cell? ⟨gb117, 3, none⟩ = some (.int .u16 a0_6) := (blk_cell BK117.out 3).trans rfl; have hcz35_4 : wc.cell? ⟨gb117, 4, none⟩ = some (.int .u16 a0_7) := (blk_cell BK117.out 4).trans rfl; have hfz35_0 := blk_frozen BK117.out 0; have hfz35_1 := blk_frozen BK117.out 1; have hfz35_2 := blk_frozen BK117.out 2; have hfz35_3 := blk_frozen BK117.out 3; have hfz35_4 := blk_frozen BK117.out 4; go_wp2; go_ret; exact ⟨by first | rfl | (simp [*, errW_none, errW_some] <;> rfl), by repeat (first | (with_reducible first | exact HB.out | refine below_set ?_ GE117.out))⟩
 · replace c3 := Bool.eq_false_iff.mpr c3
   subst c3
   have H1 : (some 1) = some r := by rw [if_neg (show ¬ (false = true) by decide)] at H; exact H
   clear H; have H := H1; clear H1; obtain rfl := Option.some.inj H
   simp only [Option.some.injEq, Prod.mk.injEq] at H
   obtain ⟨rfl⟩ := H
   go_enter Try.func36, Try.ntmps36
   go_wp2_with (first | ((with_reducible refine gate_dst (N := 1) rfl ?_); refine box_event ?hg (N := 1) ?hd (cs := #[.int .u64 a0_0, .int .u64 a0_1, .bool a0_2, .int .u32 a0_3, .int .u8 a0_4, .int .i64 a0_5, .int .u16 a0_6, .int .u16 a0_7]) (t := 38) ?hr ?_; (case hd => rfl); (case hg => rfl); (case hr => first | (go_simp; done)); intro gb116 hg w36 hbox hb; have BK116 := Ad (hbox); have GW116 := Ad ((by rw [hg]; exact (below_size (by repeat (first | (with_reducible first | exact HB.out | apply below_drew1)))) : w.heap.size ≤ gb116)); have GE116 := GW116; replace HB := Ad (below_step (by repeat (first | (with_reducible first | exact HB.out | apply below_drew1))) hb); clear hb hbox hg; have hcz37_0 : w36.cell? ⟨gb116, 0, none⟩ = some (.int .u64 a0_0) := (blk_cell BK116.out 0).trans rfl; have hcz37_1 : w36.cell? ⟨gb116, 1, none⟩ = some (.int .u64 a0_1) := (blk_cell BK116.out 1).trans rfl; have hcz37_2 : w36.cell? ⟨gb116, 2, none⟩ = some (.bool a0_2) := (blk_cell BK116.out 2).trans rfl; have hcz37_3 : w36.cell? ⟨gb116, 3, none⟩ = some (.int .u32 a0_3) := (blk_cell BK116.out 3).trans rfl; have hcz37_4 : w36.cell? ⟨gb116, 4, none⟩ = some (.int .u8 a0_4) := (blk_cell BK116.out 4).trans rfl; have hcz37_5 : w36.cell? ⟨gb116, 5, none⟩ = some (.int .i64 a0_5) := (blk_cell BK116.out 5).trans rfl; have hcz37_6 : w36.cell? ⟨gb116, 6, none⟩ = some (.int .u16 a0_6) := (blk_cell BK116.out 6).trans rfl; have hcz37_7 : w36.cell? ⟨gb116, 7, none⟩ = some (.int .u16 a0_7) := (blk_cell BK116.out 7).trans rfl; have hfz37_0 := blk_frozen BK116.out 0; have hfz37_1 := blk_frozen BK116.out 1; have hfz37_2 := blk_frozen BK116.out 2; have hfz37_3 := blk_frozen BK116.out 3; have hfz37_4 := blk_frozen BK116.out 4; have hfz37_5 := blk_frozen BK116.out 5; have hfz37_6 := blk_frozen BK116.out 6; have hfz37_7 := blk_frozen BK116.out 7) | ((with_reducible refine gate_dst (N := 3) rfl ?_); refine box_event ?hg (N := 3) ?hd (cs := #[.int .u32 0, .int .u8 0, .int .i64 0, .int .u16 0, .int .u16 0]) (t := 36) ?hr ?_; (case hd => rfl); (case hg => rfl); (case hr => first | (go_simp; done)); intro gb117 hg w38 hbox hb; have BK117 := Ad (hbox); have GW117 := Ad ((by rw [hg]; exact (below_size (by repeat (first | (with_reducible first | exact HB.out | refine below_set ?_ GE116.out)))) : w.heap.size ≤ gb117)); have GE117 := GW117; replace HB := Ad (below_step (by repeat (first | (with_reducible first | exact HB.out | refine below_set ?_ GE116.out))) hb); have NB116_117 := Ad ((by rw [hg]; exact Nat.ne_of_lt (blk_lt (g := gb116) (o := .cells #[.int .u64 a0_0, .int .u64 a0_1, .bool a0_2, .int .u32 a0_3, .int .u8 a0_4, .int .i64 a0_5, .int .u16 a0_6, .int .u16 a0_7] 38 (0, 0)) (by exact BK116.out)) : gb116 ≠ gb117)); have NB117_116 := Ad ((by rw [hg]; exact Nat.ne_of_gt (blk_lt (g := gb116) (o := .cells #[.int .u64 a0_0, .int .u64 a0_1, .bool a0_2, .int .u32 a0_3, .int .u8 a0_4, .int .i64 a0_5, .int .u16 a0_6, .int .u16 a0_7] 38 (0, 0)) (by exact BK116.out)) : gb117 ≠ gb116)); replace BK116 := Ad (blk_below (g := gb116) (o := .cells #[.int .u64 a0_0, .int .u64 a0_1, .bool a0_2, .int .u32 a0_3, .int .u8 a0_4, .int .i64 a0_5, .int .u16 a0_6, .int .u16 a0_7] 38 (0, 0)) (by exact BK116.out) hb); clear hb hbox hg; have hnb39 := NB117_116.out; have hnc39 := NB116_117.out; have hcz40_0 : w38.cell? ⟨gb117, 0, none⟩ = some (.int .u32 0) := (blk_cell BK117.out 0).trans rfl; have hcz40_1 : w38.cell? ⟨gb117, 1, none⟩ = some (.int .u8 0) := (blk_cell BK117.out 1).trans rfl; have hcz40_2 : w38.cell? ⟨gb117, 2, none⟩ = some (.int .i64 0) := (blk_cell BK117.out 2).trans rfl; have hcz40_3 : w38.cell? ⟨gb117, 3, none⟩ = some (.int .u16 0) := (blk_cell BK117.out 3).trans rfl; have hcz40_4 : w38.cell? ⟨gb117, 4, none⟩ = some (.int .u16 0) := (blk_cell BK117.out 4).trans rfl; have hfz40_0 := blk_frozen BK117.out 0; have hfz40_1 := blk_frozen BK117.out 1; have hfz40_2 := blk_frozen BK117.out 2; have hfz40_3 := blk_frozen BK117.out 3; have hfz40_4 := blk_frozen BK117.out 4) | ((with_reducible refine gate_callee (f := 32) rfl ?_); refine goesL_ (some 9) rfl rfl Try.func32 (by kernel_rfl) rfl #[.agg #[.int .u32 a0_3, .int .u8 a0_4]] rfl (by (try simp only [List.map_toArray, List.map_cons, List.map_nil]); first | rfl | (refine qa_arr ?_; (repeat' (first | rfl | refine qa_cons ?_ ?_ | refine qa_int ?_ | refine qa_agg ?_ | refine qa_arr ?_ | omega)); done)) ?_; (with_reducible refine (prefix_Right.calls a0_3 a0_4 false _ A2.out).mono ?_); rintro e w41 ⟨rfl, hb⟩; refine ⟨_, rfl, ?_⟩; replace BK116 := Ad (blk_below (g := gb116) (o := .cells #[.int .u64 a0_0, .int .u64 a0_1, .bool a0_2, .int .u32 a0_3, .int .u8 a0_4, .int .i64 a0_5, .int .u16 a0_6, .int .u16 a0_7] 38 (0, 0)) (by (iterate 5 refine blk_far ?_ NB116_117.out _); exact BK116.out) hb); replace BK117 := Ad (blk_below (g := gb117) (o := .cells #[.int .u32 a0_3, .int .u8 a0_4, .int .i64 a0_5, .int .u16 a0_6, .int .u16 a0_7] 36 (0, 0)) (by refine blk_put (cs := #[.int .u32 a0_3, .int .u8 a0_4, .int .i64 a0_5, .int .u16 a0_6, .int .u16 0]) ?_ 4 _ rfl; refine blk_put (cs := #[.int .u32 a0_3, .int .u8 a0_4, .int .i64 a0_5, .int .u16 0, .int .u16 0]) ?_ 3 _ rfl; refine blk_put (cs := #[.int .u32 a0_3, .int .u8 a0_4, .int .i64 0, .int .u16 0, .int .u16 0]) ?_ 2 _ rfl; refine blk_put (cs := #[.int .u32 a0_3, .int .u8 0, .int .i64 0, .int .u16 0, .int .u16 0]) ?_ 1 _ rfl; refine blk_put (cs := #[.int .u32 0, .int .u8 0, .int .i64 0, .int .u16 0, .int .u16 0]) ?_ 0 _ rfl; exact BK117.out) hb); replace HB := Ad (below_step (by repeat (first | (with_reducible first | exact HB.out | refine below_set ?_ GE117.out))) hb); (try clear hb); (try clear hb2); (try clear hk); (try clear hi)))
   go_ret; exact ⟨by first | rfl | (simp [*, errW_none, errW_some] <;> rfl), by repeat (first | (with_reducible first | exact HB.out | refine below_set ?_ GE117.out))⟩

-- NOT PRINTED: function 51 (api_Row_51)

/-! ### api_Row_62: function 62 -/
-- NOT PRINTED: function 59 (api_Row_59)

-- NOT PRINTED: function 52 (api_Row_52)

-- NOT PRINTED: function 37 (api_Row_37)

/-! ### serial_Newer: function 60 -/
def serial_Newer.f (a0 : Int) (a1 : Int) : Option (Bool) := if a0 = a1 then (some false) else (some (decide ((IntKind.u16.wrap (a0 - a1)) < 32768)))
theorem serial_Newer.calls (a0 : Int) (a1 : Int) (r : Bool) (w : World) (h : serial_Newer.f a0 a1 = some r) :
 Calls Try.prog 60 #[.int .u16 a0, .int .u16 a1] w fun e w' => e = .returned (.bool r) ∧ Drawn0 w w' := by
 have H : (if a0 = a1 then (some false) else (some (decide ((IntKind.u16.wrap (a0 - a1)) < 32768)))) = some r := h; clear h
 by_cases c3 : a0 = a1
 · rw [if_pos c3] at H
   have c3b0 : (a0 == a1) = true := beq_iff_eq.mpr c3; have c3b1 : (a0 != a1) = false := bne_eq_false_iff_eq.mpr c3; clear c3; obtain rfl := Option.some.inj H
   simp only [Option.some.injEq, Prod.mk.injEq] at H
   obtain ⟨rfl⟩ := H
   go_enter Try.func60, Try.ntmps60
   go_wp2; go_ret; exact ⟨by first | rfl | (refine qa_int ?_; simp <;> omega), by repeat (first | exact Drawn0.refl _)⟩
 · rw [if_neg c3] at H
   have c3b0 : (a0 == a1) = false := beq_eq_false_iff_ne.mpr c3; have c3b1 : (a0 != a1) = true := bne_iff_ne.mpr c3; obtain rfl := Option.some.inj H
   simp only [Option.some.injEq, Prod.mk.injEq] at H
   obtain ⟨rfl⟩ := H
   go_enter Try.func60, Try.ntmps60
   go_wp2; go_ret; exact ⟨by first | rfl | (refine qa_int ?_; simp <;> omega), by repeat (first | exact Drawn0.refl _)⟩

/-! ### serial_Nearer: function 53 -/
def serial_Nearer.f (a0_0 : Int) (a0_1 : Int) (a1_0 : Int) (a1_1 : Int) : Option (Bool) := (serial_Newer.f a0_0 a1_0).bind fun t136 => (if t136 = true then (some true) else (if a0_0 = a1_0 then (some (decide (a0_1 < a1_1))) else (some false)))
theorem serial_Nearer.calls (a0_0 : Int) (a0_1 : Int) (a1_0 : Int) (a1_1 : Int) (r : Bool) (w : World) (h : serial_Nearer.f a0_0 a0_1 a1_0 a1_1 = some r) :
 Calls Try.prog 53 #[.agg #[.int .u16 a0_0, .int .u16 a0_1], .agg #[.int .u16 a1_0, .int .u16 a1_1]] w fun e w' => e = .returned (.bool r) ∧ Below w.heap.size w w' := by
 have hu41 := Try.underlying41; have HB := Ad (Below.refl w.heap.size w); have H : ((serial_Newer.f a0_0 a1_0).bind fun t136 => (if t136 = true then (some true) else (if a0_0 = a1_0 then (some (decide (a0_1 < a1_1))) else (some false)))) = some r := h; clear h; replace H := Option.bind_eq_some_iff.mp H; obtain ⟨t136, A30, H⟩ := H; replace H : (if t136 = true then (some true) else (if a0_0 = a1_0 then (some (decide (a0_1 < a1_1))) else (some false))) = some r := H; have A3 := Ad A30; clear A30
 by_cases c4 : t136 = true
 · subst c4
   have H1 : (some true) = some r := by rw [if_pos rfl] at H; exact H
   clear H; have H := H1; clear H1; obtain rfl := Option.some.inj H
   simp only [Option.some.injEq, Prod.mk.injEq] at H
   obtain ⟨rfl⟩ := H
   go_enter Try.func53, Try.ntmps53
   go_wp2_with (first | ((with_reducible refine gate_dst (N := 2) rfl ?_); refine box_event ?hg (N := 2) ?hd (cs := #[.int .u16 a0_0, .int .u16 a0_1]) (t := 41) ?hr ?_; (case hd => rfl); (case hg => rfl); (case hr => first | (go_simp; done)); intro gb134 hg w5 hbox hb; have BK134 := Ad (hbox); have GW134 := Ad ((by rw [hg]; exact (below_size (by repeat (first | (with_reducible first | exact HB.out | apply below_drew1)))) : w.heap.size ≤ gb134)); have GE134 := GW134; replace HB := Ad (below_step (by repeat (first | (with_reducible first | exact HB.out | apply below_drew1))) hb); clear hb hbox hg) | ((with_reducible refine gate_dst (N := 3) rfl ?_); refine box_event ?hg (N := 3) ?hd (cs := #[.int .u16 a1_0, .int .u16 a1_1]) (t := 41) ?hr ?_; (case hd => rfl); (case hg => rfl); (case hr => first | (go_simp; done)); intro gb135 hg w6 hbox hb; have BK135 := Ad (hbox); have GW135 := Ad ((by rw [hg]; exact (below_size (by repeat (first | (with_reducible first | exact HB.out | refine below_set ?_ GE134.out)))) : w.heap.size ≤ gb135)); have GE135 := GW135; replace HB := Ad (below_step (by repeat (first | (with_reducible first | exact HB.out | refine below_set ?_ GE134.out))) hb); have NB134_135 := Ad ((by rw [hg]; exact Nat.ne_of_lt (blk_lt (g := gb134) (o := .cells #[.int .u16 a0_0, .int .u16 a0_1] 41 (0, 0)) (by exact BK134.out)) : gb134 ≠ gb135)); have NB135_134 := Ad ((by rw [hg]; exact Nat.ne_of_gt (blk_lt (g := gb134) (o := .cells #[.int .u16 a0_0, .int .u16 a0_1] 41 (0, 0)) (by exact BK134.out)) : gb135 ≠ gb134)); replace BK134 := Ad (blk_below (g := gb134) (o := .cells #[.int .u16 a0_0, .int .u16 a0_1] 41 (0, 0)) (by exact BK134.out) hb); clear hb hbox hg; have hnb7 := NB134_135.out; have hnc7 := NB135_134.out; have hcz8_0 : w6.cell? ⟨gb134, 0, none⟩ = some (.int .u16 a0_0) := (blk_cell BK134.out 0).trans rfl; have hcz8_1 : w6.cell? ⟨gb134, 1, none⟩ = some (.int .u16 a0_1) := (blk_cell BK134.out 1).trans rfl; have hfz8_0 := blk_frozen BK134.out 0; have hfz8_1 := blk_frozen BK134.out 1; have hcz9_0 : w6.cell? ⟨gb135, 0, none⟩ = some (.int .u16 a1_0) := (blk_cell BK135.out 0).trans rfl; have hcz9_1 : w6.cell? ⟨gb135, 1, none⟩ = some (.int .u16 a1_1) := (blk_cell BK135.out 1).trans rfl; have hfz9_0 := blk_frozen BK135.out 0; have hfz9_1 := blk_frozen BK135.out 1) | ((with_reducible refine gate_callee (f := 60) rfl ?_); refine goesL_ (some 9) rfl rfl Try.func60 (by kernel_rfl) rfl #[.int .u16 a0_0, .int .u16 a1_0] rfl (by (try simp only [List.map_toArray, List.map_cons, List.map_nil]); first | rfl | (refine qa_arr ?_; (repeat' (first | rfl | refine qa_cons ?_ ?_ | refine qa_int ?_ | refine qa_agg ?_ | refine qa_arr ?_ | omega)); done)) ?_; (with_reducible refine (serial_Newer.calls a0_0 a1_0 true _ A3.out).mono ?_); rintro e w' ⟨rfl, ⟨nd, rfl⟩⟩; refine ⟨_, rfl, ?_⟩))
   go_ret; exact ⟨by first | rfl | (simp [*, errW_none, errW_some] <;> rfl), by repeat (first | (with_reducible first | exact HB.out | apply pw_below_drewN | refine below_set ?_ GE135.out))⟩
 · replace c4 := Bool.eq_false_iff.mpr c4
   subst c4
   have H1 : (if a0_0 = a1_0 then (some (decide (a0_1 < a1_1))) else (some false)) = some r := by rw [if_neg (show ¬ (false = true) by decide)] at H; exact H
   clear H; have H := H1; clear H1
   by_cases c10 : a0_0 = a1_0
   · rw [if_pos c10] at H
     have c10b0 : (a0_0 == a1_0) = true := beq_iff_eq.mpr c10; have c10b1 : (a0_0 != a1_0) = false := bne_eq_false_iff_eq.mpr c10; clear c10; obtain rfl := Option.some.inj H
     simp only [Option.some.injEq, Prod.mk.injEq] at H
     obtain ⟨rfl⟩ := H
     go_enter Try.func53, Try.ntmps53
     go_wp2_with (first | ((with_reducible refine gate_dst (N := 2) rfl ?_); refine box_event ?hg (N := 2) ?hd (cs := #[.int .u16 a0_0, .int .u16 a0_1]) (t := 41) ?hr ?_; (case hd => rfl); (case hg => rfl); (case hr => first | (go_simp; done)); intro gb134 hg w11 hbox hb; have BK134 := Ad (hbox); have GW134 := Ad ((by rw [hg]; exact (below_size (by repeat (first | (with_reducible first | exact HB.out | apply below_drew1)))) : w.heap.size ≤ gb134)); have GE134 := GW134; replace HB := Ad (below_step (by repeat (first | (with_reducible first | exact HB.out | apply below_drew1))) hb); clear hb hbox hg) | ((with_reducible refine gate_dst (N := 3) rfl ?_); refine box_event ?hg (N := 3) ?hd (cs := #[.int .u16 a1_0, .int .u16 a1_1]) (t := 41) ?hr ?_; (case hd => rfl); (case hg => rfl); (case hr => first | (go_simp; done)); intro gb135 hg w12 hbox hb; have BK135 := Ad (hbox); have GW135 := Ad ((by rw [hg]; exact (below_size (by repeat (first | (with_reducible first | exact HB.out | refine below_set ?_ GE134.out)))) : w.heap.size ≤ gb135)); have GE135 := GW135; replace HB := Ad (below_step (by repeat (first | (with_reducible first | exact HB.out | refine below_set ?_ GE134.out))) hb); have NB134_135 := Ad ((by rw [hg]; exact Nat.ne_of_lt (blk_lt (g := gb134) (o := .cells #[.int .u16 a0_0, .int .u16 a0_1] 41 (0, 0)) (by exact BK134.out)) : gb134 ≠ gb135)); have NB135_134 := Ad ((by rw [hg]; exact Nat.ne_of_gt (blk_lt (g := gb134) (o := .cells #[.int .u16 a0_0, .int .u16 a0_1] 41 (0, 0)) (by exact BK134.out)) : gb135 ≠ gb134)); replace BK134 := Ad (blk_below (g := gb134) (o := .cells #[.int .u16 a0_0, .int .u16 a0_1] 41 (0, 0)) (by exact BK134.out) hb); clear hb hbox hg; have hnb13 := NB134_135.out; have hnc13 := NB135_134.out; have hcz14_0 : w12.cell? ⟨gb134, 0, none⟩ = some (.int .u16 a0_0) := (blk_cell BK134.out 0).trans rfl; have hcz14_1 : w12.cell? ⟨gb134, 1, none⟩ = some (.int .u16 a0_1) := (blk_cell BK134.out 1).trans rfl; have hfz14_0 := blk_frozen BK134.out 0; have hfz14_1 := blk_frozen BK134.out 1; have hcz15_0 : w12.cell? ⟨gb135, 0, none⟩ = some (.int .u16 a1_0) := (blk_cell BK135.out 0).trans rfl; have hcz15_1 : w12.cell? ⟨gb135, 1, none⟩ = some (.int .u16 a1_1) := (blk_cell BK135.out 1).trans rfl; have hfz15_0 := blk_frozen BK135.out 0; have hfz15_1 := blk_frozen BK135.out 1) | ((with_reducible refine gate_callee (f := 60) rfl ?_); refine goesL_ (some 9) rfl rfl Try.func60 (by kernel_rfl) rfl #[.int .u16 a0_0, .int .u16 a1_0] rfl (by (try simp only [List.map_toArray, List.map_cons, List.map_nil]); first | rfl | (refine qa_arr ?_; (repeat' (first | rfl | refine qa_cons ?_ ?_ | refine qa_int ?_ | refine qa_agg ?_ | refine qa_arr ?_ | omega)); done)) ?_; (with_reducible refine (serial_Newer.calls a0_0 a1_0 false _ A3.out).mono ?_); rintro e w' ⟨rfl, ⟨nd, rfl⟩⟩; refine ⟨_, rfl, ?_⟩))
     go_ret; exact ⟨by first | rfl | (simp [*, errW_none, errW_some] <;> rfl), by repeat (first | (with_reducible first | exact HB.out | apply pw_below_drewN | refine below_set ?_ GE135.out))⟩
   · rw [if_neg c10] at H
     have c10b0 : (a0_0 == a1_0) = false := beq_eq_false_iff_ne.mpr c10; have c10b1 : (a0_0 != a1_0) = true := bne_iff_ne.mpr c10; obtain rfl := Option.some.inj H
     simp only [Option.some.injEq, Prod.mk.injEq] at H
     obtain ⟨rfl⟩ := H
     go_enter Try.func53, Try.ntmps53
     go_wp2_with (first | ((with_reducible refine gate_dst (N := 2) rfl ?_); refine box_event ?hg (N := 2) ?hd (cs := #[.int .u16 a0_0, .int .u16 a0_1]) (t := 41) ?hr ?_; (case hd => rfl); (case hg => rfl); (case hr => first | (go_simp; done)); intro gb134 hg w16 hbox hb; have BK134 := Ad (hbox); have GW134 := Ad ((by rw [hg]; exact (below_size (by repeat (first | (with_reducible first | exact HB.out | apply below_drew1)))) : w.heap.size ≤ gb134)); have GE134 := GW134; replace HB := Ad (below_step (by repeat (first | (with_reducible first | exact HB.out | apply below_drew1))) hb); clear hb hbox hg) | ((with_reducible refine gate_dst (N := 3) rfl ?_); refine box_event ?hg (N := 3) ?hd (cs := #[.int .u16 a1_0, .int .u16 a1_1]) (t := 41) ?hr ?_; (case hd => rfl); (case hg => rfl); (case hr => first | (go_simp; done)); intro gb135 hg w17 hbox hb; have BK135 := Ad (hbox); have GW135 := Ad ((by rw [hg]; exact (below_size (by repeat (first | (with_reducible first | exact HB.out | refine below_set ?_ GE134.out)))) : w.heap.size ≤ gb135)); have GE135 := GW135; replace HB := Ad (below_step (by repeat (first | (with_reducible first | exact HB.out | refine below_set ?_ GE134.out))) hb); have NB134_135 := Ad ((by rw [hg]; exact Nat.ne_of_lt (blk_lt (g := gb134) (o := .cells #[.int .u16 a0_0, .int .u16 a0_1] 41 (0, 0)) (by exact BK134.out)) : gb134 ≠ gb135)); have NB135_134 := Ad ((by rw [hg]; exact Nat.ne_of_gt (blk_lt (g := gb134) (o := .cells #[.int .u16 a0_0, .int .u16 a0_1] 41 (0, 0)) (by exact BK134.out)) : gb135 ≠ gb134)); replace BK134 := Ad (blk_below (g := gb134) (o := .cells #[.int .u16 a0_0, .int .u16 a0_1] 41 (0, 0)) (by exact BK134.out) hb); clear hb hbox hg; have hnb18 := NB134_135.out; have hnc18 := NB135_134.out; have hcz19_0 : w17.cell? ⟨gb134, 0, none⟩ = some (.int .u16 a0_0) := (blk_cell BK134.out 0).trans rfl; have hcz19_1 : w17.cell? ⟨gb134, 1, none⟩ = some (.int .u16 a0_1) := (blk_cell BK134.out 1).trans rfl; have hfz19_0 := blk_frozen BK134.out 0; have hfz19_1 := blk_frozen BK134.out 1; have hcz20_0 : w17.cell? ⟨gb135, 0, none⟩ = some (.int .u16 a1_0) := (blk_cell BK135.out 0).trans rfl; have hcz20_1 : w17.cell? ⟨gb135, 1, none⟩ = some (.int .u16 a1_1) := (blk_cell BK135.out 1).trans rfl; have hfz20_0 := blk_frozen BK135.out 0; have hfz20_1 := blk_frozen BK135.out 1) | ((with_reducible refine gate_callee (f := 60) rfl ?_); refine goesL_ (some 9) rfl rfl Try.func60 (by kernel_rfl) rfl #[.int .u16 a0_0, .int .u16 a1_0] rfl (by (try simp only [List.map_toArray, List.map_cons, List.map_nil]); first | rfl | (refine qa_arr ?_; (repeat' (first | rfl | refine qa_cons ?_ ?_ | refine qa_int ?_ | refine qa_agg ?_ | refine qa_arr ?_ | omega)); done)) ?_; (with_reducible refine (serial_Newer.calls a0_0 a1_0 false _ A3.out).mono ?_); rintro e w' ⟨rfl, ⟨nd, rfl⟩⟩; refine ⟨_, rfl, ?_⟩))
     go_ret; exact ⟨by first | rfl | (simp [*, errW_none, errW_some] <;> rfl), by repeat (first | (with_reducible first | exact HB.out | apply pw_below_drewN | refine below_set ?_ GE135.out))⟩

end Go.Proofs.Ytmkjgiejnlmncaa.QTableBytes
