-- Lines by a program of this session, for this claim.
import Derived.Test.YtmkjgiejnlmncaaQTableTellsx0
import Derived.Test.YtmkjgiejnlmncaaQTableTellsx2
import Derived.Test.YtmkjgiejnlmncaaQTableTellsx9
import Derived.Test.YtmkjgiejnlmncaaQTableTellsx11
namespace Go.Proofs.Ytmkjgiejnlmncaa.QTableTells
open Go.RowKit Go.Proofs.YtmkjgiejnlmncaaW.PrintWords Go.Proofs.YtmkjgiejnlmncaaW.PrintLast Go.Proofs.YtmkjgiejnlmncaaW.PrintMore
attribute [local go_sem] max2_int min2_int max_two min_two max_three min_three max_four min_four   -- for this text's walks alone
set_option linter.unusedVariables false
set_option linter.unusedSimpArgs false

attribute [local go_sem high] eqA36
/-! ### milestoneref07_Rows: function 15 -/
def milestoneref07_Rows.l0 : Nat → List (S38) → List (S43) → List (S33) → Int → Option ((List (S43)))
 | 0, _, _, _, _ => none
 | k + 1, x0, x3, x4, x5 => if x5 < (x4.length : Int) then (if 0 ≤ x5 then ((milestoneref07_Row.f k x0 ((rd_T33 x4 x5).f0) ((rd_T33 x4 x5).f1)).bind fun bt248 => (if bt248.2.2.2.2.2.2.2.2.2.2 = true then (if x3.length < 2932031007402 then (milestoneref07_Rows.l0 k x0 (x3 ++ [(⟨(⟨bt248.1, bt248.2.1⟩ : S33), bt248.2.2.1, (⟨(⟨bt248.2.2.2.1, bt248.2.2.2.2.1⟩ : S33), bt248.2.2.2.2.2.1, bt248.2.2.2.2.2.2.1, bt248.2.2.2.2.2.2.2.1⟩ : S36), (⟨bt248.2.2.2.2.2.2.2.2.1, bt248.2.2.2.2.2.2.2.2.2.1⟩ : S41)⟩ : S43)]) x4 (wrap64 (x5 + 1))) else (none)) else (milestoneref07_Rows.l0 k x0 x3 x4 (wrap64 (x5 + 1))))) else (none)) else (some x3)
def milestoneref07_Rows.f (k : Nat) (l0 : List (S38)) : Option ((List (S43))) := (milestoneref07_Prefixes.f k l0).bind fun t244 => (milestoneref07_Rows.l0 k l0 ([] : List (S43)) t244 0)
theorem milestoneref07_Rows.mono_l : ∀ k, (∀ y0 y1 y2 y3, LeO (milestoneref07_Rows.l0 k y0 y1 y2 y3) (milestoneref07_Rows.l0 (k + 1) y0 y1 y2 y3))
 | 0 => fun _ _ _ _ r h => by simp [milestoneref07_Rows.l0] at h
 | k + 1 => by
  have ih0 := milestoneref07_Rows.mono_l k
  · intro y0 y1 y2 y3
    unfold milestoneref07_Rows.l0
    repeat' first
    | (with_reducible exact ih0 _ _ _ _)
    | (with_reducible exact milestoneref07_Prefixes.mono _ _)
    | (with_reducible exact milestoneref07_Row.mono _ _ _ _)
    | (with_reducible exact LeO.refl _)
    | (with_reducible exact LeO.none _)
    | (with_reducible refine LeO.ite ?_ ?_)
    | (with_reducible refine LeO.bind ?_ (fun _ => ?_))
    | exact ih0 _ _ _ _
    | exact milestoneref07_Prefixes.mono _ _
    | exact milestoneref07_Row.mono _ _ _ _
    | exact LeO.none _
    | refine LeO.ite ?_ ?_
    | refine LeO.bind ?_ (fun _ => ?_)
theorem milestoneref07_Rows.mono : ∀ a0 k, LeO (milestoneref07_Rows.f k a0) (milestoneref07_Rows.f (k + 1) a0) := by
 intro a0 k
 have ih0 := milestoneref07_Rows.mono_l k
 unfold milestoneref07_Rows.f
 repeat' first
  | (with_reducible exact ih0 _ _ _ _)
  | (with_reducible exact milestoneref07_Prefixes.mono _ _)
  | (with_reducible exact milestoneref07_Row.mono _ _ _ _)
  | (with_reducible exact LeO.refl _)
  | (with_reducible exact LeO.none _)
  | (with_reducible refine LeO.ite ?_ ?_)
  | (with_reducible refine LeO.bind ?_ (fun _ => ?_))
  | exact ih0 _ _ _ _
  | exact milestoneref07_Prefixes.mono _ _
  | exact milestoneref07_Row.mono _ _ _ _
  | exact LeO.none _
  | refine LeO.ite ?_ ?_
  | refine LeO.bind ?_ (fun _ => ?_)
set_option maxHeartbeats 8000000 in
set_option maxRecDepth 100000 in
theorem milestoneref07_Rows.calls (k : Nat) (A0 : Option Addr) (c0 : Nat) (l0 : List (S38)) (r : List (S43)) (w : World) (hr0 : Kd.C k38 w A0 l0.length l0) (hc0 : l0.length ≤ c0) (h : milestoneref07_Rows.f k l0 = some r) :
 Calls Try.prog 15 #[.slice A0 l0.length c0] w fun e w' => ∃ v0_ : Value, e = .returned (v0_) ∧ Kd.R k43 43 w' w.heap.size (fun _ => True) v0_ r ∧ Below w.heap.size w w' := by
 have hu33 := Try.underlying33
 have hu43 := Try.underlying43
 have HR0 := Aside0.mk hr0
 have HC0 := Aside0.mk hc0
 clear hr0 hc0
 have HB := Aside0.mk (Below.refl w.heap.size w)
 have H : ((milestoneref07_Prefixes.f k l0).bind fun t244 => (milestoneref07_Rows.l0 k l0 ([] : List (S43)) t244 0)) = some r := h
 clear h
 replace H := Option.bind_eq_some_iff.mp H
 obtain ⟨t244, A20, H⟩ := H
 replace H : (milestoneref07_Rows.l0 k l0 ([] : List (S43)) t244 0) = some r := H
 have A2 := Aside0.mk A20
 clear A20
 have H' := Aside0.mk H
 clear H
 go_enter Try.func15, Try.ntmps15
 go_wp2_with (first | ((with_reducible refine gate_callee (f := 28) rfl ?_); refine goesL_ (some 9) rfl rfl Try.func28 (by kernel_rfl) rfl #[.slice A0 l0.length c0] rfl (by (try simp only [List.map_toArray, List.map_cons, List.map_nil]); first | rfl | (refine qa_arr ?_; (repeat' (first | rfl | refine qa_cons ?_ ?_ | refine qa_int ?_ | refine qa_agg ?_ | refine qa_arr ?_ | omega)); done)) ?_; (with_reducible refine (milestoneref07_Prefixes.calls k _ _ l0 t244 _ ?side1 ?side2 A2.out).mono ?_); (case side1 => repeat (first | exact HR0.out | (with_reducible refine Kd.C_drew ?_))); (case side2 => exact HC0.out); rintro e w3 ⟨v245, rfl, ho0, hb⟩; refine ⟨_, rfl, ?_⟩; have n0_ := Aside0.mk (Kd.R_lower ho0 (below_size (by repeat (first | (with_reducible first | exact HB.out | apply below_drew1))))); have n1_ := Aside0.mk (below_step (by repeat (first | (with_reducible first | exact HB.out | apply below_drew1))) hb); clear HB; have HO246 := n0_; have HB := n1_; clear n0_ n1_; (try clear hb); (try clear hb2); (try clear hk); (try clear hi); (try clear ho0)))
 go_loopg [3, 5] k (fun kq v3 v5 w' => ∃ (x3_1 : List (S43)) (x5_1 : Int), v5 = .int .i64 x5_1 ∧ Aside0 (milestoneref07_Rows.l0 kq l0 x3_1 t244 x5_1 = some r) ∧ Aside0 (kq ≤ k) ∧ Aside0 (Kd.R k43 43 w' w.heap.size (fun _ => True) v3 x3_1) ∧ Aside0 (Kd.R k33 33 w' w.heap.size (fun _ => True) v245 t244) ∧ Aside0 (Below w.heap.size w w'))
 case atStart => exact ⟨(([] : List (S43))), (0), (by first | rfl | (refine qa_int ?_; simp <;> omega)), H', ⟨Nat.le_refl _⟩, ⟨by first | exact Kd.R_nil _ _ _ _ _ | exact Kd.S_nil _ _ _ _ _⟩, ⟨by exact HO246.out⟩, ⟨by repeat (first | (with_reducible first | exact HB.out | apply below_drew1))⟩⟩
 case round =>
  clear H'
  try clear c1
  try clear c2
  try clear p2
  obtain ⟨x3_1, x5_1, rfl, HA, HK1, HO_3, HO_4, HB⟩ := hrel
  cases gk with
  | zero => exact absurd HA.out (by simp [milestoneref07_Rows.l0])
  | succ k1 =>
   have H := HA.out
   clear HA
   simp only [milestoneref07_Rows.l0] at H
   by_cases c4 : x5_1 < (t244.length : Int)
   · rw [if_pos c4] at H
     have c4b0 : decide (x5_1 < (t244.length : Int)) = true := decide_eq_true c4
     clear c4
     by_cases c5 : 0 ≤ x5_1
     · rw [if_pos c5] at H
       have c5b0 : decide (0 ≤ x5_1) = true := decide_eq_true c5
       clear c5
       replace H := Option.bind_eq_some_iff.mp H
       obtain ⟨⟨t248, t249, t250, t251, t252, t253, t254, t255, t256, t257, t258⟩, A60, H⟩ := H
       replace H : (if t258 = true then (if x3_1.length < 2932031007402 then (milestoneref07_Rows.l0 k1 l0 (x3_1 ++ [(⟨(⟨t248, t249⟩ : S33), t250, (⟨(⟨t251, t252⟩ : S33), t253, t254, t255⟩ : S36), (⟨t256, t257⟩ : S41)⟩ : S43)]) t244 (wrap64 (x5_1 + 1))) else (none)) else (milestoneref07_Rows.l0 k1 l0 x3_1 t244 (wrap64 (x5_1 + 1)))) = some r := H
       have A6 := Aside0.mk A60
       clear A60
       by_cases c7 : t258 = true
       · subst c7
         have H1 : (if x3_1.length < 2932031007402 then (milestoneref07_Rows.l0 k1 l0 (x3_1 ++ [(⟨(⟨t248, t249⟩ : S33), t250, (⟨(⟨t251, t252⟩ : S33), t253, t254, t255⟩ : S36), (⟨t256, t257⟩ : S41)⟩ : S43)]) t244 (wrap64 (x5_1 + 1))) else (none)) = some r := by rw [if_pos rfl] at H; exact H
         clear H
         have H := H1
         clear H1
         by_cases c8 : x3_1.length < 2932031007402
         · rw [if_pos c8] at H
           have LMc8 := Aside0.mk c8
           clear c8
           obtain ⟨y260, hy260⟩ : ∃ y_ : List (S43), y_ = (x3_1 ++ [(⟨(⟨t248, t249⟩ : S33), t250, (⟨(⟨t251, t252⟩ : S33), t253, t254, t255⟩ : S36), (⟨t256, t257⟩ : S41)⟩ : S43)]) := ⟨_, rfl⟩
           replace H : (milestoneref07_Rows.l0 k1 l0 y260 t244 (wrap64 (x5_1 + 1))) = some r := by first | (rw [hy260]; with_reducible exact H) | exact H
           have Ny260 := Aside0.mk hy260
           clear hy260
           have H' := Aside0.mk H
           clear H
           obtain ⟨Ao9, co9, eo9⟩ := Kd.R_slice HO_4.out
           subst eo9
           have p247 : 0 ≤ (x5_1 : Int) := of_decide_eq_true (by first | (with_reducible assumption))
           have q247 : x5_1 < (t244.length : Int) := of_decide_eq_true (by first | (with_reducible assumption))
           obtain ⟨ad247, e247, hx247_0, hx247_1⟩ := at_T33 (Kd.R_reads' HO_4.out).2.2 x5_1 p247 q247
           cases e247
           replace p247 := eq_true p247
           replace q247 := eq_true q247
           go_wp2_with (first | ((with_reducible refine gate_callee (f := 12) rfl ?_); refine goesL_ (some 22) rfl rfl Try.func12 (by kernel_rfl) rfl #[.slice A0 l0.length c0, .agg #[.int .u32 ((rd_T33 t244 x5_1).f0), .int .u8 ((rd_T33 t244 x5_1).f1)]] rfl (by (try simp only [List.map_toArray, List.map_cons, List.map_nil]); first | rfl | (refine qa_arr ?_; (repeat' (first | rfl | refine qa_cons ?_ ?_ | refine qa_int ?_ | refine qa_agg ?_ | refine qa_arr ?_ | omega)); done)) ?_; (with_reducible refine (milestoneref07_Row.calls k1 _ _ l0 ((rd_T33 t244 x5_1).f0) ((rd_T33 t244 x5_1).f1) t248 t249 t250 t251 t252 t253 t254 t255 t256 t257 true _ ?side1 ?side2 A6.out).mono ?_); (case side1 => repeat (first | exact (Kd.C_below HR0.out HB.out) | (with_reducible refine Kd.C_drew ?_))); (case side2 => exact HC0.out); rintro e w10 ⟨rfl, hb⟩; refine ⟨_, rfl, ?_⟩; have n0_ := Aside0.mk (Kd.R_below (by exact HO_3.out) hb); have n1_ := Aside0.mk (Kd.R_below (by exact HO_4.out) hb); have n2_ := Aside0.mk (below_step (by repeat (first | (with_reducible first | exact HB.out | apply below_drew1))) hb); clear HO_3; clear HO_4; clear HB; have HO_3 := n0_; have HO_4 := n1_; have HB := n2_; clear n0_ n1_ n2_; (try clear hb); (try clear hb2); (try clear hk); (try clear hi)) | ((with_reducible refine gate_dst (N := 6) rfl ?_); refine box_event ?hg (N := 6) ?hd (cs := #[.int .u32 0, .int .u8 0, .bool false, .int .u32 0, .int .u8 0, .int .i64 0, .int .u16 0, .int .u16 0, .int .u16 0, .int .u16 0]) (t := 43) ?hr ?_; (case hd => rfl); (case hg => rfl); (case hr => first | (go_simp; done)); intro gb259 hg w11 hbox hb; have n0_ := Aside0.mk (Kd.R_below (Kd.R_elderB (by exact HO_3.out) gb259 (Nat.le_of_eq hg.symm)) hb); have n1_ := Aside0.mk (Kd.R_below (by exact HO_4.out) hb); have n2_ := Aside0.mk (below_step (by repeat (first | (with_reducible first | exact HB.out | apply below_drew1))) hb); have n3_ := Aside0.mk (hbox); have n4_ := Aside0.mk ((by rw [hg]; exact (below_size (by repeat (first | (with_reducible first | exact HB.out | apply below_drew1)))) : w.heap.size ≤ gb259)); have n5_ := Aside0.mk ((by rw [hg]; exact (below_size (by repeat (first | (with_reducible first | exact HB.out | apply below_drew1)))) : w.heap.size ≤ gb259)); clear HO_3; clear HO_4; clear HB; have HO_3 := n0_; have HO_4 := n1_; have HB := n2_; have BK259 := n3_; have GW259 := n4_; have GE259 := n5_; clear n0_ n1_ n2_ n3_ n4_ n5_; clear hb hbox hg; have hcz12_0 : w11.cell? ⟨gb259, 0, none⟩ = some (.int .u32 0) := (blk_cell BK259.out 0).trans rfl; have hcz12_1 : w11.cell? ⟨gb259, 1, none⟩ = some (.int .u8 0) := (blk_cell BK259.out 1).trans rfl; have hcz12_2 : w11.cell? ⟨gb259, 2, none⟩ = some (.bool false) := (blk_cell BK259.out 2).trans rfl; have hcz12_3 : w11.cell? ⟨gb259, 3, none⟩ = some (.int .u32 0) := (blk_cell BK259.out 3).trans rfl; have hcz12_4 : w11.cell? ⟨gb259, 4, none⟩ = some (.int .u8 0) := (blk_cell BK259.out 4).trans rfl; have hcz12_5 : w11.cell? ⟨gb259, 5, none⟩ = some (.int .i64 0) := (blk_cell BK259.out 5).trans rfl; have hcz12_6 : w11.cell? ⟨gb259, 6, none⟩ = some (.int .u16 0) := (blk_cell BK259.out 6).trans rfl; have hcz12_7 : w11.cell? ⟨gb259, 7, none⟩ = some (.int .u16 0) := (blk_cell BK259.out 7).trans rfl; have hcz12_8 : w11.cell? ⟨gb259, 8, none⟩ = some (.int .u16 0) := (blk_cell BK259.out 8).trans rfl; have hcz12_9 : w11.cell? ⟨gb259, 9, none⟩ = some (.int .u16 0) := (blk_cell BK259.out 9).trans rfl; have hfz12_0 := blk_frozen BK259.out 0; have hfz12_1 := blk_frozen BK259.out 1; have hfz12_2 := blk_frozen BK259.out 2; have hfz12_3 := blk_frozen BK259.out 3; have hfz12_4 := blk_frozen BK259.out 4; have hfz12_5 := blk_frozen BK259.out 5; have hfz12_6 := blk_frozen BK259.out 6; have hfz12_7 := blk_frozen BK259.out 7; have hfz12_8 := blk_frozen BK259.out 8; have hfz12_9 := blk_frozen BK259.out 9) | ((with_reducible refine gate_builtin (b := .append) (xs := #[.tmp 26, .tmp 28]) rfl ?_); at_builtin; refine Kd.R_append k43 (w0 := w) w.heap.size rfl (.tmp 26) (.tmp 28) 48 43 (.agg #[(.int .u32 0), (.int .u8 0), (.bool false), (.int .u32 0), (.int .u8 0), (.int .i64 0), (.int .u16 0), (.int .u16 0), (.int .u16 0), (.int .u16 0)]) 48 rfl Try.underlying48 info43 rfl (by decide) (by omega) u3 x3_1 (⟨(⟨t248, t249⟩ : S33), t250, (⟨(⟨t251, t252⟩ : S33), t253, t254, t255⟩ : S36), (⟨t256, t257⟩ : S41)⟩ : S43) [.int .u32 t248, .int .u8 t249, .bool t250, .int .u32 t251, .int .u8 t252, .int .i64 t253, .int .u16 t254, .int .u16 t255, .int .u16 t256, .int .u16 t257] (fun k_ => k_ ≠ gb259) (fun _ => False) rfl (by first | (go_simp; done)) ?aP (fun _ hk => hk.elim) ?aF ?aO ?aB ?aS ?aL ?_; (case aP => exact k43_mkM _ _ _ (⟨(⟨t248, t249⟩ : S33), t250, (⟨(⟨t251, t252⟩ : S33), t253, t254, t255⟩ : S36), (⟨t256, t257⟩ : S41)⟩ : S43)); (case aB => exact (by repeat (first | (with_reducible first | exact HB.out | refine below_set ?_ GE259.out)))); (case aF => exact (fun k_ hk => Kd.freshB (g := gb259) (o := .cells #[.int .u32 t248, .int .u8 t249, .bool t250, .int .u32 t251, .int .u8 t252, .int .i64 t253, .int .u16 t254, .int .u16 t255, .int .u16 t256, .int .u16 t257] 43 (0, 0)) (by refine blk_put (cs := #[.int .u32 t248, .int .u8 t249, .bool t250, .int .u32 t251, .int .u8 t252, .int .i64 t253, .int .u16 t254, .int .u16 t255, .int .u16 t256, .int .u16 0]) ?_ 9 _ rfl; refine blk_put (cs := #[.int .u32 t248, .int .u8 t249, .bool t250, .int .u32 t251, .int .u8 t252, .int .i64 t253, .int .u16 t254, .int .u16 t255, .int .u16 0, .int .u16 0]) ?_ 8 _ rfl; refine blk_put (cs := #[.int .u32 t248, .int .u8 t249, .bool t250, .int .u32 t251, .int .u8 t252, .int .i64 t253, .int .u16 t254, .int .u16 0, .int .u16 0, .int .u16 0]) ?_ 7 _ rfl; refine blk_put (cs := #[.int .u32 t248, .int .u8 t249, .bool t250, .int .u32 t251, .int .u8 t252, .int .i64 t253, .int .u16 0, .int .u16 0, .int .u16 0, .int .u16 0]) ?_ 6 _ rfl; refine blk_put (cs := #[.int .u32 t248, .int .u8 t249, .bool t250, .int .u32 t251, .int .u8 t252, .int .i64 0, .int .u16 0, .int .u16 0, .int .u16 0, .int .u16 0]) ?_ 5 _ rfl; refine blk_put (cs := #[.int .u32 t248, .int .u8 t249, .bool t250, .int .u32 t251, .int .u8 0, .int .i64 0, .int .u16 0, .int .u16 0, .int .u16 0, .int .u16 0]) ?_ 4 _ rfl; refine blk_put (cs := #[.int .u32 t248, .int .u8 t249, .bool t250, .int .u32 0, .int .u8 0, .int .i64 0, .int .u16 0, .int .u16 0, .int .u16 0, .int .u16 0]) ?_ 3 _ rfl; refine blk_put (cs := #[.int .u32 t248, .int .u8 t249, .bool false, .int .u32 0, .int .u8 0, .int .i64 0, .int .u16 0, .int .u16 0, .int .u16 0, .int .u16 0]) ?_ 2 _ rfl; refine blk_put (cs := #[.int .u32 t248, .int .u8 0, .bool false, .int .u32 0, .int .u8 0, .int .i64 0, .int .u16 0, .int .u16 0, .int .u16 0, .int .u16 0]) ?_ 1 _ rfl; refine blk_put (cs := #[.int .u32 0, .int .u8 0, .bool false, .int .u32 0, .int .u8 0, .int .i64 0, .int .u16 0, .int .u16 0, .int .u16 0, .int .u16 0]) ?_ 0 _ rfl; exact BK259.out) k_ hk)); (case aO => exact (by exact Kd.R_mono (Kd.R_far (p := ⟨gb259, 9, none⟩) (Kd.R_far (p := ⟨gb259, 8, none⟩) (Kd.R_far (p := ⟨gb259, 7, none⟩) (Kd.R_far (p := ⟨gb259, 6, none⟩) (Kd.R_far (p := ⟨gb259, 5, none⟩) (Kd.R_far (p := ⟨gb259, 4, none⟩) (Kd.R_far (p := ⟨gb259, 3, none⟩) (Kd.R_far (p := ⟨gb259, 2, none⟩) (Kd.R_far (p := ⟨gb259, 1, none⟩) (Kd.R_far (p := ⟨gb259, 0, none⟩) (Kd.R_mono HO_3.out (fun k_ hk => (⟨hk, hk.2⟩ : _ ∧ k_ ≠ gb259))) (fun _ hk => hk.2) (.int .u32 t248)) (fun _ hk => hk.2) (.int .u8 t249)) (fun _ hk => hk.2) (.bool t250)) (fun _ hk => hk.2) (.int .u32 t251)) (fun _ hk => hk.2) (.int .u8 t252)) (fun _ hk => hk.2) (.int .i64 t253)) (fun _ hk => hk.2) (.int .u16 t254)) (fun _ hk => hk.2) (.int .u16 t255)) (fun _ hk => hk.2) (.int .u16 t256)) (fun _ hk => hk.2) (.int .u16 t257)) (fun _ hk => hk.1.2))); (case aS => exact (below_size (by repeat (first | (with_reducible first | exact HB.out | refine below_set ?_ GE259.out))))); (case aL => have := LMc8.out; omega); intro v261 w13 ho hb hg hat; rw [← Ny260.out] at ho; have n0_ := Aside0.mk (Kd.R_over' (by exact (Kd.R_mono (Kd.R_far (p := ⟨gb259, 9, none⟩) (Kd.R_far (p := ⟨gb259, 8, none⟩) (Kd.R_far (p := ⟨gb259, 7, none⟩) (Kd.R_far (p := ⟨gb259, 6, none⟩) (Kd.R_far (p := ⟨gb259, 5, none⟩) (Kd.R_far (p := ⟨gb259, 4, none⟩) (Kd.R_far (p := ⟨gb259, 3, none⟩) (Kd.R_far (p := ⟨gb259, 2, none⟩) (Kd.R_far (p := ⟨gb259, 1, none⟩) (Kd.R_far (p := ⟨gb259, 0, none⟩) (Kd.R_types HO_4.out BK259.out (by decide)) (fun _ hk => hk.2) (.int .u32 t248)) (fun _ hk => hk.2) (.int .u8 t249)) (fun _ hk => hk.2) (.bool t250)) (fun _ hk => hk.2) (.int .u32 t251)) (fun _ hk => hk.2) (.int .u8 t252)) (fun _ hk => hk.2) (.int .i64 t253)) (fun _ hk => hk.2) (.int .u16 t254)) (fun _ hk => hk.2) (.int .u16 t255)) (fun _ hk => hk.2) (.int .u16 t256)) (fun _ hk => hk.2) (.int .u16 t257)) (fun _ h_ => h_.1))) (Kd.R_typed (by exact (Kd.R_mono (Kd.R_far (p := ⟨gb259, 9, none⟩) (Kd.R_far (p := ⟨gb259, 8, none⟩) (Kd.R_far (p := ⟨gb259, 7, none⟩) (Kd.R_far (p := ⟨gb259, 6, none⟩) (Kd.R_far (p := ⟨gb259, 5, none⟩) (Kd.R_far (p := ⟨gb259, 4, none⟩) (Kd.R_far (p := ⟨gb259, 3, none⟩) (Kd.R_far (p := ⟨gb259, 2, none⟩) (Kd.R_far (p := ⟨gb259, 1, none⟩) (Kd.R_far (p := ⟨gb259, 0, none⟩) (Kd.R_mono HO_3.out (fun k_ hk => (⟨hk, hk.2⟩ : _ ∧ k_ ≠ gb259))) (fun _ hk => hk.2) (.int .u32 t248)) (fun _ hk => hk.2) (.int .u8 t249)) (fun _ hk => hk.2) (.bool t250)) (fun _ hk => hk.2) (.int .u32 t251)) (fun _ hk => hk.2) (.int .u8 t252)) (fun _ hk => hk.2) (.int .i64 t253)) (fun _ hk => hk.2) (.int .u16 t254)) (fun _ hk => hk.2) (.int .u16 t255)) (fun _ hk => hk.2) (.int .u16 t256)) (fun _ hk => hk.2) (.int .u16 t257)) (fun _ h_ => h_.1)))) (by decide) hg); have n1_ := Aside0.mk (blk_grown (g := gb259) (o := .cells #[.int .u32 t248, .int .u8 t249, .bool t250, .int .u32 t251, .int .u8 t252, .int .i64 t253, .int .u16 t254, .int .u16 t255, .int .u16 t256, .int .u16 t257] 43 (0, 0)) (by refine blk_put (cs := #[.int .u32 t248, .int .u8 t249, .bool t250, .int .u32 t251, .int .u8 t252, .int .i64 t253, .int .u16 t254, .int .u16 t255, .int .u16 t256, .int .u16 0]) ?_ 9 _ rfl; refine blk_put (cs := #[.int .u32 t248, .int .u8 t249, .bool t250, .int .u32 t251, .int .u8 t252, .int .i64 t253, .int .u16 t254, .int .u16 t255, .int .u16 0, .int .u16 0]) ?_ 8 _ rfl; refine blk_put (cs := #[.int .u32 t248, .int .u8 t249, .bool t250, .int .u32 t251, .int .u8 t252, .int .i64 t253, .int .u16 t254, .int .u16 0, .int .u16 0, .int .u16 0]) ?_ 7 _ rfl; refine blk_put (cs := #[.int .u32 t248, .int .u8 t249, .bool t250, .int .u32 t251, .int .u8 t252, .int .i64 t253, .int .u16 0, .int .u16 0, .int .u16 0, .int .u16 0]) ?_ 6 _ rfl; refine blk_put (cs := #[.int .u32 t248, .int .u8 t249, .bool t250, .int .u32 t251, .int .u8 t252, .int .i64 0, .int .u16 0, .int .u16 0, .int .u16 0, .int .u16 0]) ?_ 5 _ rfl; refine blk_put (cs := #[.int .u32 t248, .int .u8 t249, .bool t250, .int .u32 t251, .int .u8 0, .int .i64 0, .int .u16 0, .int .u16 0, .int .u16 0, .int .u16 0]) ?_ 4 _ rfl; refine blk_put (cs := #[.int .u32 t248, .int .u8 t249, .bool t250, .int .u32 0, .int .u8 0, .int .i64 0, .int .u16 0, .int .u16 0, .int .u16 0, .int .u16 0]) ?_ 3 _ rfl; refine blk_put (cs := #[.int .u32 t248, .int .u8 t249, .bool false, .int .u32 0, .int .u8 0, .int .i64 0, .int .u16 0, .int .u16 0, .int .u16 0, .int .u16 0]) ?_ 2 _ rfl; refine blk_put (cs := #[.int .u32 t248, .int .u8 0, .bool false, .int .u32 0, .int .u8 0, .int .i64 0, .int .u16 0, .int .u16 0, .int .u16 0, .int .u16 0]) ?_ 1 _ rfl; refine blk_put (cs := #[.int .u32 0, .int .u8 0, .bool false, .int .u32 0, .int .u8 0, .int .i64 0, .int .u16 0, .int .u16 0, .int .u16 0, .int .u16 0]) ?_ 0 _ rfl; exact BK259.out) hg (Kd.R_away HO_3.out (fun _ hk => hk.2))); have n2_ := Aside0.mk (hb); have n3_ := Aside0.mk (ho); clear HO_4; clear BK259; clear HB; clear HO_3; have HO_4 := n0_; have BK259 := n1_; have HB := n2_; have HO262 := n3_; clear n0_ n1_ n2_ n3_; clear ho hb hg hat))
           go_roundg k1
           case measure => have := HK1.out; omega
           case rel => exact ⟨(y260), (wrap64 (x5_1 + 1)), (by first | rfl | (refine qa_int ?_; simp <;> omega)), H', ⟨by have := HK1.out; omega⟩, ⟨by exact Kd.R_mono HO262.out (fun _ hk => trivial)⟩, ⟨by exact HO_4.out⟩, ⟨by repeat (first | (with_reducible first | exact HB.out | refine below_set ?_ GE259.out))⟩⟩
         · rw [if_neg c8] at H
           exact absurd H (by simp)
       · replace c7 := Bool.eq_false_iff.mpr c7
         subst c7
         have H1 : (milestoneref07_Rows.l0 k1 l0 x3_1 t244 (wrap64 (x5_1 + 1))) = some r := by rw [if_neg (show ¬ (false = true) by decide)] at H; exact H
         clear H
         have H := H1
         clear H1
         have H' := Aside0.mk H
         clear H
         obtain ⟨Ao14, co14, eo14⟩ := Kd.R_slice HO_4.out
         subst eo14
         have p247 : 0 ≤ (x5_1 : Int) := of_decide_eq_true (by first | (with_reducible assumption))
         have q247 : x5_1 < (t244.length : Int) := of_decide_eq_true (by first | (with_reducible assumption))
         obtain ⟨ad247, e247, hx247_0, hx247_1⟩ := at_T33 (Kd.R_reads' HO_4.out).2.2 x5_1 p247 q247
         cases e247
         replace p247 := eq_true p247
         replace q247 := eq_true q247
         go_wp2_with (first | ((with_reducible refine gate_callee (f := 12) rfl ?_); refine goesL_ (some 22) rfl rfl Try.func12 (by kernel_rfl) rfl #[.slice A0 l0.length c0, .agg #[.int .u32 ((rd_T33 t244 x5_1).f0), .int .u8 ((rd_T33 t244 x5_1).f1)]] rfl (by (try simp only [List.map_toArray, List.map_cons, List.map_nil]); first | rfl | (refine qa_arr ?_; (repeat' (first | rfl | refine qa_cons ?_ ?_ | refine qa_int ?_ | refine qa_agg ?_ | refine qa_arr ?_ | omega)); done)) ?_; (with_reducible refine (milestoneref07_Row.calls k1 _ _ l0 ((rd_T33 t244 x5_1).f0) ((rd_T33 t244 x5_1).f1) t248 t249 t250 t251 t252 t253 t254 t255 t256 t257 false _ ?side1 ?side2 A6.out).mono ?_); (case side1 => repeat (first | exact (Kd.C_below HR0.out HB.out) | (with_reducible refine Kd.C_drew ?_))); (case side2 => exact HC0.out); rintro e w15 ⟨rfl, hb⟩; refine ⟨_, rfl, ?_⟩; have n0_ := Aside0.mk (Kd.R_below (by exact HO_3.out) hb); have n1_ := Aside0.mk (Kd.R_below (by exact HO_4.out) hb); have n2_ := Aside0.mk (below_step (by repeat (first | (with_reducible first | exact HB.out | apply below_drew1))) hb); clear HO_3; clear HO_4; clear HB; have HO_3 := n0_; have HO_4 := n1_; have HB := n2_; clear n0_ n1_ n2_; (try clear hb); (try clear hb2); (try clear hk); (try clear hi)) | ((with_reducible refine gate_dst (N := 6) rfl ?_); refine box_event ?hg (N := 6) ?hd (cs := #[.int .u32 0, .int .u8 0, .bool false, .int .u32 0, .int .u8 0, .int .i64 0, .int .u16 0, .int .u16 0, .int .u16 0, .int .u16 0]) (t := 43) ?hr ?_; (case hd => rfl); (case hg => rfl); (case hr => first | (go_simp; done)); intro gb259 hg w16 hbox hb; have n0_ := Aside0.mk (Kd.R_below (Kd.R_elderB (by exact HO_3.out) gb259 (Nat.le_of_eq hg.symm)) hb); have n1_ := Aside0.mk (Kd.R_below (by exact HO_4.out) hb); have n2_ := Aside0.mk (below_step (by repeat (first | (with_reducible first | exact HB.out | apply below_drew1))) hb); have n3_ := Aside0.mk (hbox); have n4_ := Aside0.mk ((by rw [hg]; exact (below_size (by repeat (first | (with_reducible first | exact HB.out | apply below_drew1)))) : w.heap.size ≤ gb259)); have n5_ := Aside0.mk ((by rw [hg]; exact (below_size (by repeat (first | (with_reducible first | exact HB.out | apply below_drew1)))) : w.heap.size ≤ gb259)); clear HO_3; clear HO_4; clear HB; have HO_3 := n0_; have HO_4 := n1_; have HB := n2_; have BK259 := n3_; have GW259 := n4_; have GE259 := n5_; clear n0_ n1_ n2_ n3_ n4_ n5_; clear hb hbox hg; have hcz17_0 : w16.cell? ⟨gb259, 0, none⟩ = some (.int .u32 0) := (blk_cell BK259.out 0).trans rfl; have hcz17_1 : w16.cell? ⟨gb259, 1, none⟩ = some (.int .u8 0) := (blk_cell BK259.out 1).trans rfl; have hcz17_2 : w16.cell? ⟨gb259, 2, none⟩ = some (.bool false) := (blk_cell BK259.out 2).trans rfl; have hcz17_3 : w16.cell? ⟨gb259, 3, none⟩ = some (.int .u32 0) := (blk_cell BK259.out 3).trans rfl; have hcz17_4 : w16.cell? ⟨gb259, 4, none⟩ = some (.int .u8 0) := (blk_cell BK259.out 4).trans rfl; have hcz17_5 : w16.cell? ⟨gb259, 5, none⟩ = some (.int .i64 0) := (blk_cell BK259.out 5).trans rfl; have hcz17_6 : w16.cell? ⟨gb259, 6, none⟩ = some (.int .u16 0) := (blk_cell BK259.out 6).trans rfl; have hcz17_7 : w16.cell? ⟨gb259, 7, none⟩ = some (.int .u16 0) := (blk_cell BK259.out 7).trans rfl; have hcz17_8 : w16.cell? ⟨gb259, 8, none⟩ = some (.int .u16 0) := (blk_cell BK259.out 8).trans rfl; have hcz17_9 : w16.cell? ⟨gb259, 9, none⟩ = some (.int .u16 0) := (blk_cell BK259.out 9).trans rfl; have hfz17_0 := blk_frozen BK259.out 0; have hfz17_1 := blk_frozen BK259.out 1; have hfz17_2 := blk_frozen BK259.out 2; have hfz17_3 := blk_frozen BK259.out 3; have hfz17_4 := blk_frozen BK259.out 4; have hfz17_5 := blk_frozen BK259.out 5; have hfz17_6 := blk_frozen BK259.out 6; have hfz17_7 := blk_frozen BK259.out 7; have hfz17_8 := blk_frozen BK259.out 8; have hfz17_9 := blk_frozen BK259.out 9))
         go_roundg k1
         case measure => have := HK1.out; omega
         case rel => exact ⟨(x3_1), (wrap64 (x5_1 + 1)), (by first | rfl | (refine qa_int ?_; simp <;> omega)), H', ⟨by have := HK1.out; omega⟩, ⟨by exact Kd.R_mono (Kd.R_far (p := ⟨gb259, 9, none⟩) (Kd.R_far (p := ⟨gb259, 8, none⟩) (Kd.R_far (p := ⟨gb259, 7, none⟩) (Kd.R_far (p := ⟨gb259, 6, none⟩) (Kd.R_far (p := ⟨gb259, 5, none⟩) (Kd.R_far (p := ⟨gb259, 4, none⟩) (Kd.R_far (p := ⟨gb259, 3, none⟩) (Kd.R_far (p := ⟨gb259, 2, none⟩) (Kd.R_far (p := ⟨gb259, 1, none⟩) (Kd.R_far (p := ⟨gb259, 0, none⟩) (Kd.R_mono HO_3.out (fun k_ hk => (⟨hk, hk.2⟩ : _ ∧ k_ ≠ gb259))) (fun _ hk => hk.2) (.int .u32 t248)) (fun _ hk => hk.2) (.int .u8 t249)) (fun _ hk => hk.2) (.bool t250)) (fun _ hk => hk.2) (.int .u32 t251)) (fun _ hk => hk.2) (.int .u8 t252)) (fun _ hk => hk.2) (.int .i64 t253)) (fun _ hk => hk.2) (.int .u16 t254)) (fun _ hk => hk.2) (.int .u16 t255)) (fun _ hk => hk.2) (.int .u16 t256)) (fun _ hk => hk.2) (.int .u16 t257)) (fun _ hk => trivial)⟩, ⟨by exact Kd.R_mono (Kd.R_far (p := ⟨gb259, 9, none⟩) (Kd.R_far (p := ⟨gb259, 8, none⟩) (Kd.R_far (p := ⟨gb259, 7, none⟩) (Kd.R_far (p := ⟨gb259, 6, none⟩) (Kd.R_far (p := ⟨gb259, 5, none⟩) (Kd.R_far (p := ⟨gb259, 4, none⟩) (Kd.R_far (p := ⟨gb259, 3, none⟩) (Kd.R_far (p := ⟨gb259, 2, none⟩) (Kd.R_far (p := ⟨gb259, 1, none⟩) (Kd.R_far (p := ⟨gb259, 0, none⟩) (Kd.R_types HO_4.out BK259.out (by decide)) (fun _ hk => hk.2) (.int .u32 t248)) (fun _ hk => hk.2) (.int .u8 t249)) (fun _ hk => hk.2) (.bool t250)) (fun _ hk => hk.2) (.int .u32 t251)) (fun _ hk => hk.2) (.int .u8 t252)) (fun _ hk => hk.2) (.int .i64 t253)) (fun _ hk => hk.2) (.int .u16 t254)) (fun _ hk => hk.2) (.int .u16 t255)) (fun _ hk => hk.2) (.int .u16 t256)) (fun _ hk => hk.2) (.int .u16 t257)) (fun _ hk => trivial)⟩, ⟨by repeat (first | (with_reducible first | exact HB.out | refine below_set ?_ GE259.out))⟩⟩
     · rw [if_neg c5] at H
       exact absurd H (by simp)
   · rw [if_neg c4] at H
     have c4b0 : decide (x5_1 < (t244.length : Int)) = false := decide_eq_false c4
     clear c4
     obtain rfl := Option.some.inj H
     simp only [Option.some.injEq, Prod.mk.injEq] at H
     obtain ⟨rfl⟩ := H
     obtain ⟨Ao18, co18, eo18⟩ := Kd.R_slice HO_4.out
     subst eo18
     go_wp2
     go_ret
     exact ⟨_, by first | rfl | (simp [*, errW_none, errW_some] <;> rfl), by exact HO_3.out, by repeat (first | (with_reducible first | exact HB.out | apply below_drew1))⟩

/-! ### milestoneref07_SameRoutes: function 16 -/
def milestoneref07_SameRoutes.l0 : Nat → List (S36) → List (S36) → Int → Option (Bool)
 | 0, _, _, _ => none
 | k + 1, x0, x1, x5 => if x5 < (x0.length : Int) then (if 0 ≤ x5 then (if x5 < (x1.length : Int) then (if ((!(((rd_T36 x0 x5).f0.f0) == ((rd_T36 x1 x5).f0.f0)) || (!(((rd_T36 x0 x5).f0.f1) == ((rd_T36 x1 x5).f0.f1)))) || (!(((rd_T36 x0 x5).f1) == ((rd_T36 x1 x5).f1)) || (!(((rd_T36 x0 x5).f2) == ((rd_T36 x1 x5).f2)) || (!(((rd_T36 x0 x5).f3) == ((rd_T36 x1 x5).f3)))))) = true then (some false) else (milestoneref07_SameRoutes.l0 k x0 x1 (wrap64 (x5 + 1)))) else (none)) else (none)) else (some true)
def milestoneref07_SameRoutes.f (k : Nat) (l0 : List (S36)) (l1 : List (S36)) : Option (Bool) := if (l0.length : Int) = (l1.length : Int) then (milestoneref07_SameRoutes.l0 k l0 l1 0) else (some false)
theorem milestoneref07_SameRoutes.mono_l : ∀ k, (∀ y0 y1 y2, LeO (milestoneref07_SameRoutes.l0 k y0 y1 y2) (milestoneref07_SameRoutes.l0 (k + 1) y0 y1 y2))
 | 0 => fun _ _ _ r h => by simp [milestoneref07_SameRoutes.l0] at h
 | k + 1 => by
  have ih0 := milestoneref07_SameRoutes.mono_l k
  · intro y0 y1 y2
    unfold milestoneref07_SameRoutes.l0
    repeat' first
    | (with_reducible exact ih0 _ _ _)
    | (with_reducible exact LeO.refl _)
    | (with_reducible exact LeO.none _)
    | (with_reducible refine LeO.ite ?_ ?_)
    | (with_reducible refine LeO.bind ?_ (fun _ => ?_))
    | exact ih0 _ _ _
    | exact LeO.none _
    | refine LeO.ite ?_ ?_
    | refine LeO.bind ?_ (fun _ => ?_)
theorem milestoneref07_SameRoutes.mono : ∀ a0 a1 k, LeO (milestoneref07_SameRoutes.f k a0 a1) (milestoneref07_SameRoutes.f (k + 1) a0 a1) := by
 intro a0 a1 k
 have ih0 := milestoneref07_SameRoutes.mono_l k
 unfold milestoneref07_SameRoutes.f
 repeat' first
  | (with_reducible exact ih0 _ _ _)
  | (with_reducible exact LeO.refl _)
  | (with_reducible exact LeO.none _)
  | (with_reducible refine LeO.ite ?_ ?_)
  | (with_reducible refine LeO.bind ?_ (fun _ => ?_))
  | exact ih0 _ _ _
  | exact LeO.none _
  | refine LeO.ite ?_ ?_
  | refine LeO.bind ?_ (fun _ => ?_)
set_option maxHeartbeats 8000000 in
set_option maxRecDepth 100000 in
theorem milestoneref07_SameRoutes.calls (k : Nat) (A0 : Option Addr) (c0 : Nat) (l0 : List (S36)) (A1 : Option Addr) (c1 : Nat) (l1 : List (S36)) (r : Bool) (w : World) (hr0 : Kd.C k36 w A0 l0.length l0) (hc0 : l0.length ≤ c0) (hr1 : Kd.C k36 w A1 l1.length l1) (hc1 : l1.length ≤ c1) (h : milestoneref07_SameRoutes.f k l0 l1 = some r) :
 Calls Try.prog 16 #[.slice A0 l0.length c0, .slice A1 l1.length c1] w fun e w' => e = .returned (.bool r) ∧ Drawn0 w w' := by
 have hu36 := Try.underlying36
 have HR0 := Aside0.mk hr0
 have HC0 := Aside0.mk hc0
 clear hr0 hc0
 have HR1 := Aside0.mk hr1
 have HC1 := Aside0.mk hc1
 clear hr1 hc1
 have H : (if (l0.length : Int) = (l1.length : Int) then (milestoneref07_SameRoutes.l0 k l0 l1 0) else (some false)) = some r := h
 clear h
 by_cases c3 : (l0.length : Int) = (l1.length : Int)
 · rw [if_pos c3] at H
   have c3b0 : ((l0.length : Int) == (l1.length : Int)) = true := beq_iff_eq.mpr c3
   have c3b1 : ((l0.length : Int) != (l1.length : Int)) = false := bne_eq_false_iff_eq.mpr c3
   have c3b2 : (l0.length == l1.length) = true := by first | (simp at c3 ⊢; omega)
   clear c3
   have H' := Aside0.mk H
   clear H
   go_enter Try.func16, Try.ntmps16
   go_wp2
   repeat (go_quiet (fail); try go_wp2)
   go_loopg [5] k (fun kq v5 w' => ∃ (x5_1 : Int), v5 = .int .i64 x5_1 ∧ Aside0 (milestoneref07_SameRoutes.l0 kq l0 l1 x5_1 = some r) ∧ Aside0 (kq ≤ k) ∧ Drawn0 w w')
   case atStart => exact ⟨(0), (by first | rfl | (refine qa_int ?_; simp <;> omega)), H', ⟨Nat.le_refl _⟩, by repeat (first | exact Drawn0.refl _)⟩
   case round =>
    clear H'
    try clear c1
    try clear p2
    try clear c3
    try clear c3b0
    try clear c3b1
    try clear c3b2
    obtain ⟨x5_1, rfl, HA, HK1, ⟨m1, rfl⟩⟩ := hrel
    cases gk with
    | zero => exact absurd HA.out (by simp [milestoneref07_SameRoutes.l0])
    | succ k1 =>
     have H := HA.out
     clear HA
     simp only [milestoneref07_SameRoutes.l0] at H
     by_cases c4 : x5_1 < (l0.length : Int)
     · rw [if_pos c4] at H
       have c4b0 : decide (x5_1 < (l0.length : Int)) = true := decide_eq_true c4
       clear c4
       by_cases c5 : 0 ≤ x5_1
       · rw [if_pos c5] at H
         have c5b0 : decide (0 ≤ x5_1) = true := decide_eq_true c5
         clear c5
         by_cases c6 : x5_1 < (l1.length : Int)
         · rw [if_pos c6] at H
           have c6b0 : decide (x5_1 < (l1.length : Int)) = true := decide_eq_true c6
           clear c6
           by_cases c7 : ((!(((rd_T36 l0 x5_1).f0.f0) == ((rd_T36 l1 x5_1).f0.f0)) || (!(((rd_T36 l0 x5_1).f0.f1) == ((rd_T36 l1 x5_1).f0.f1)))) || (!(((rd_T36 l0 x5_1).f1) == ((rd_T36 l1 x5_1).f1)) || (!(((rd_T36 l0 x5_1).f2) == ((rd_T36 l1 x5_1).f2)) || (!(((rd_T36 l0 x5_1).f3) == ((rd_T36 l1 x5_1).f3)))))) = true
           · rw [if_pos c7] at H
             have c7b0 : ((!(((rd_T36 l0 x5_1).f0.f0) == ((rd_T36 l1 x5_1).f0.f0)) || (!(((rd_T36 l0 x5_1).f0.f1) == ((rd_T36 l1 x5_1).f0.f1)))) || (!(((rd_T36 l0 x5_1).f1) == ((rd_T36 l1 x5_1).f1)) || (!(((rd_T36 l0 x5_1).f2) == ((rd_T36 l1 x5_1).f2)) || (!(((rd_T36 l0 x5_1).f3) == ((rd_T36 l1 x5_1).f3)))))) = true := c7
             clear c7
             obtain rfl := Option.some.inj H
             simp only [Option.some.injEq, Prod.mk.injEq] at H
             obtain ⟨rfl⟩ := H
             have p263 : 0 ≤ (x5_1 : Int) := of_decide_eq_true (by first | (with_reducible assumption))
             have q263 : x5_1 < (l0.length : Int) := of_decide_eq_true (by first | (with_reducible assumption))
             obtain ⟨ad263, e263, hx263_0, hx263_1, hx263_2, hx263_3, hx263_4⟩ := at_T36 HR0.out x5_1 p263 q263
             cases e263
             replace p263 := eq_true p263
             replace q263 := eq_true q263
             have p264 : 0 ≤ (x5_1 : Int) := of_decide_eq_true (by first | (with_reducible assumption))
             have q264 : x5_1 < (l1.length : Int) := of_decide_eq_true (by first | (with_reducible assumption))
             obtain ⟨ad264, e264, hx264_0, hx264_1, hx264_2, hx264_3, hx264_4⟩ := at_T36 HR1.out x5_1 p264 q264
             cases e264
             replace p264 := eq_true p264
             replace q264 := eq_true q264
             go_wp2
             repeat (go_quiet (fail); try go_wp2)
             go_ret
             exact ⟨by first | rfl | (refine qa_int ?_; simp <;> omega), by repeat (first | exact Drawn0.refl _ | apply Drawn0.step)⟩
           · rw [if_neg c7] at H
             have c7b0 : ((!(((rd_T36 l0 x5_1).f0.f0) == ((rd_T36 l1 x5_1).f0.f0)) || (!(((rd_T36 l0 x5_1).f0.f1) == ((rd_T36 l1 x5_1).f0.f1)))) || (!(((rd_T36 l0 x5_1).f1) == ((rd_T36 l1 x5_1).f1)) || (!(((rd_T36 l0 x5_1).f2) == ((rd_T36 l1 x5_1).f2)) || (!(((rd_T36 l0 x5_1).f3) == ((rd_T36 l1 x5_1).f3)))))) = false := by simpa using c7
             clear c7
             have H' := Aside0.mk H
             clear H
             have p263 : 0 ≤ (x5_1 : Int) := of_decide_eq_true (by first | (with_reducible assumption))
             have q263 : x5_1 < (l0.length : Int) := of_decide_eq_true (by first | (with_reducible assumption))
             obtain ⟨ad263, e263, hx263_0, hx263_1, hx263_2, hx263_3, hx263_4⟩ := at_T36 HR0.out x5_1 p263 q263
             cases e263
             replace p263 := eq_true p263
             replace q263 := eq_true q263
             have p264 : 0 ≤ (x5_1 : Int) := of_decide_eq_true (by first | (with_reducible assumption))
             have q264 : x5_1 < (l1.length : Int) := of_decide_eq_true (by first | (with_reducible assumption))
             obtain ⟨ad264, e264, hx264_0, hx264_1, hx264_2, hx264_3, hx264_4⟩ := at_T36 HR1.out x5_1 p264 q264
             cases e264
             replace p264 := eq_true p264
             replace q264 := eq_true q264
             go_wp2
             repeat (go_quiet (fail); try go_wp2)
             go_roundg k1
             case measure => have := HK1.out; omega
             case rel => exact ⟨(wrap64 (x5_1 + 1)), (by first | rfl | (refine qa_int ?_; simp <;> omega)), H', ⟨by have := HK1.out; omega⟩, by repeat (first | exact Drawn0.refl _ | apply Drawn0.step)⟩
         · rw [if_neg c6] at H
           exact absurd H (by simp)
       · rw [if_neg c5] at H
         exact absurd H (by simp)
     · rw [if_neg c4] at H
       have c4b0 : decide (x5_1 < (l0.length : Int)) = false := decide_eq_false c4
       clear c4
       obtain rfl := Option.some.inj H
       simp only [Option.some.injEq, Prod.mk.injEq] at H
       obtain ⟨rfl⟩ := H
       go_wp2
       repeat (go_quiet (fail); try go_wp2)
       go_ret
       exact ⟨by first | rfl | (refine qa_int ?_; simp <;> omega), by repeat (first | exact Drawn0.refl _ | apply Drawn0.step)⟩
 · rw [if_neg c3] at H
   have c3b0 : ((l0.length : Int) == (l1.length : Int)) = false := beq_eq_false_iff_ne.mpr c3
   have c3b1 : ((l0.length : Int) != (l1.length : Int)) = true := bne_iff_ne.mpr c3
   have c3b2 : (l0.length == l1.length) = false := by first | (simp at c3 ⊢; omega)
   obtain rfl := Option.some.inj H
   simp only [Option.some.injEq, Prod.mk.injEq] at H
   obtain ⟨rfl⟩ := H
   go_enter Try.func16, Try.ntmps16
   go_wp2
   repeat (go_quiet (fail); try go_wp2)
   go_ret
   exact ⟨by first | rfl | (refine qa_int ?_; simp <;> omega), by repeat (first | exact Drawn0.refl _)⟩

/-! ### milestoneref07_Routes: function 18 -/
def milestoneref07_Routes.l0 : Nat → List (S36) → List (S43) → Int → Option ((List (S36)))
 | 0, _, _, _ => none
 | k + 1, x3, x4, x5 => if x5 < (x4.length : Int) then (if 0 ≤ x5 then (if (rd_T43 x4 x5).f1 = true then (if x3.length < 5864062014805 then (milestoneref07_Routes.l0 k (x3 ++ [(⟨(⟨(rd_T43 x4 x5).f2.f0.f0, (rd_T43 x4 x5).f2.f0.f1⟩ : S33), (rd_T43 x4 x5).f2.f1, (rd_T43 x4 x5).f2.f2, (rd_T43 x4 x5).f2.f3⟩ : S36)]) x4 (wrap64 (x5 + 1))) else (none)) else (milestoneref07_Routes.l0 k x3 x4 (wrap64 (x5 + 1)))) else (none)) else (some x3)
def milestoneref07_Routes.f (k : Nat) (l0 : List (S38)) : Option ((List (S36))) := (milestoneref07_Rows.f k l0).bind fun t265 => (milestoneref07_Routes.l0 k ([] : List (S36)) t265 0)
theorem milestoneref07_Routes.mono_l : ∀ k, (∀ y0 y1 y2, LeO (milestoneref07_Routes.l0 k y0 y1 y2) (milestoneref07_Routes.l0 (k + 1) y0 y1 y2))
 | 0 => fun _ _ _ r h => by simp [milestoneref07_Routes.l0] at h
 | k + 1 => by
  have ih0 := milestoneref07_Routes.mono_l k
  · intro y0 y1 y2
    unfold milestoneref07_Routes.l0
    repeat' first
    | (with_reducible exact ih0 _ _ _)
    | (with_reducible exact milestoneref07_Rows.mono _ _)
    | (with_reducible exact LeO.refl _)
    | (with_reducible exact LeO.none _)
    | (with_reducible refine LeO.ite ?_ ?_)
    | (with_reducible refine LeO.bind ?_ (fun _ => ?_))
    | exact ih0 _ _ _
    | exact milestoneref07_Rows.mono _ _
    | exact LeO.none _
    | refine LeO.ite ?_ ?_
    | refine LeO.bind ?_ (fun _ => ?_)
theorem milestoneref07_Routes.mono : ∀ a0 k, LeO (milestoneref07_Routes.f k a0) (milestoneref07_Routes.f (k + 1) a0) := by
 intro a0 k
 have ih0 := milestoneref07_Routes.mono_l k
 unfold milestoneref07_Routes.f
 repeat' first
  | (with_reducible exact ih0 _ _ _)
  | (with_reducible exact milestoneref07_Rows.mono _ _)
  | (with_reducible exact LeO.refl _)
  | (with_reducible exact LeO.none _)
  | (with_reducible refine LeO.ite ?_ ?_)
  | (with_reducible refine LeO.bind ?_ (fun _ => ?_))
  | exact ih0 _ _ _
  | exact milestoneref07_Rows.mono _ _
  | exact LeO.none _
  | refine LeO.ite ?_ ?_
  | refine LeO.bind ?_ (fun _ => ?_)
set_option maxHeartbeats 8000000 in
set_option maxRecDepth 100000 in
theorem milestoneref07_Routes.calls (k : Nat) (A0 : Option Addr) (c0 : Nat) (l0 : List (S38)) (r : List (S36)) (w : World) (hr0 : Kd.C k38 w A0 l0.length l0) (hc0 : l0.length ≤ c0) (h : milestoneref07_Routes.f k l0 = some r) :
 Calls Try.prog 18 #[.slice A0 l0.length c0] w fun e w' => ∃ v0_ : Value, e = .returned (v0_) ∧ Kd.R k36 36 w' w.heap.size (fun _ => True) v0_ r ∧ Below w.heap.size w w' := by
 have hu36 := Try.underlying36
 have HR0 := Aside0.mk hr0
 have HC0 := Aside0.mk hc0
 clear hr0 hc0
 have HB := Aside0.mk (Below.refl w.heap.size w)
 have H : ((milestoneref07_Rows.f k l0).bind fun t265 => (milestoneref07_Routes.l0 k ([] : List (S36)) t265 0)) = some r := h
 clear h
 replace H := Option.bind_eq_some_iff.mp H
 obtain ⟨t265, A20, H⟩ := H
 replace H : (milestoneref07_Routes.l0 k ([] : List (S36)) t265 0) = some r := H
 have A2 := Aside0.mk A20
 clear A20
 have H' := Aside0.mk H
 clear H
 go_enter Try.func18, Try.ntmps18
 go_wp2_with (first | ((with_reducible refine gate_callee (f := 15) rfl ?_); refine goesL_ (some 7) rfl rfl Try.func15 (by kernel_rfl) rfl #[.slice A0 l0.length c0] rfl (by (try simp only [List.map_toArray, List.map_cons, List.map_nil]); first | rfl | (refine qa_arr ?_; (repeat' (first | rfl | refine qa_cons ?_ ?_ | refine qa_int ?_ | refine qa_agg ?_ | refine qa_arr ?_ | omega)); done)) ?_; (with_reducible refine (milestoneref07_Rows.calls k _ _ l0 t265 _ ?side1 ?side2 A2.out).mono ?_); (case side1 => repeat (first | exact HR0.out | (with_reducible refine Kd.C_drew ?_))); (case side2 => exact HC0.out); rintro e w3 ⟨v266, rfl, ho0, hb⟩; refine ⟨_, rfl, ?_⟩; have n0_ := Aside0.mk (Kd.R_lower ho0 (below_size (by repeat (first | (with_reducible first | exact HB.out | apply below_drew1))))); have n1_ := Aside0.mk (below_step (by repeat (first | (with_reducible first | exact HB.out | apply below_drew1))) hb); clear HB; have HO267 := n0_; have HB := n1_; clear n0_ n1_; (try clear hb); (try clear hb2); (try clear hk); (try clear hi); (try clear ho0)))
 go_loopg [3, 5] k (fun kq v3 v5 w' => ∃ (x3_1 : List (S36)) (x5_1 : Int), v5 = .int .i64 x5_1 ∧ Aside0 (milestoneref07_Routes.l0 kq x3_1 t265 x5_1 = some r) ∧ Aside0 (kq ≤ k) ∧ Aside0 (Kd.R k36 36 w' w.heap.size (fun _ => True) v3 x3_1) ∧ Aside0 (Kd.R k43 43 w' w.heap.size (fun _ => True) v266 t265) ∧ Aside0 (Below w.heap.size w w'))
 case atStart => exact ⟨(([] : List (S36))), (0), (by first | rfl | (refine qa_int ?_; simp <;> omega)), H', ⟨Nat.le_refl _⟩, ⟨by first | exact Kd.R_nil _ _ _ _ _ | exact Kd.S_nil _ _ _ _ _⟩, ⟨by exact HO267.out⟩, ⟨by repeat (first | (with_reducible first | exact HB.out | apply below_drew1))⟩⟩
 case round =>
  clear H'
  try clear c1
  try clear p2
  obtain ⟨x3_1, x5_1, rfl, HA, HK1, HO_3, HO_4, HB⟩ := hrel
  cases gk with
  | zero => exact absurd HA.out (by simp [milestoneref07_Routes.l0])
  | succ k1 =>
   have H := HA.out
   clear HA
   simp only [milestoneref07_Routes.l0] at H
   by_cases c4 : x5_1 < (t265.length : Int)
   · rw [if_pos c4] at H
     have c4b0 : decide (x5_1 < (t265.length : Int)) = true := decide_eq_true c4
     clear c4
     by_cases c5 : 0 ≤ x5_1
     · rw [if_pos c5] at H
       have c5b0 : decide (0 ≤ x5_1) = true := decide_eq_true c5
       clear c5
       obtain ⟨bq6, hbq6⟩ : ∃ b_ : Bool, b_ = ((rd_T43 t265 x5_1).f1) := ⟨_, rfl⟩
       replace H : (if bq6 = true then (if x3_1.length < 5864062014805 then (milestoneref07_Routes.l0 k1 (x3_1 ++ [(⟨(⟨(rd_T43 t265 x5_1).f2.f0.f0, (rd_T43 t265 x5_1).f2.f0.f1⟩ : S33), (rd_T43 t265 x5_1).f2.f1, (rd_T43 t265 x5_1).f2.f2, (rd_T43 t265 x5_1).f2.f3⟩ : S36)]) t265 (wrap64 (x5_1 + 1))) else (none)) else (milestoneref07_Routes.l0 k1 x3_1 t265 (wrap64 (x5_1 + 1)))) = some r := by rw [← hbq6] at H; exact H
       have Nbq6 := Aside0.mk hbq6
       clear hbq6
       by_cases c7 : bq6 = true
       · subst c7
         have H1 : (if x3_1.length < 5864062014805 then (milestoneref07_Routes.l0 k1 (x3_1 ++ [(⟨(⟨(rd_T43 t265 x5_1).f2.f0.f0, (rd_T43 t265 x5_1).f2.f0.f1⟩ : S33), (rd_T43 t265 x5_1).f2.f1, (rd_T43 t265 x5_1).f2.f2, (rd_T43 t265 x5_1).f2.f3⟩ : S36)]) t265 (wrap64 (x5_1 + 1))) else (none)) = some r := by rw [if_pos rfl] at H; exact H
         clear H
         have H := H1
         clear H1
         by_cases c8 : x3_1.length < 5864062014805
         · rw [if_pos c8] at H
           have LMc8 := Aside0.mk c8
           clear c8
           obtain ⟨y270, hy270⟩ : ∃ y_ : List (S36), y_ = (x3_1 ++ [(⟨(⟨(rd_T43 t265 x5_1).f2.f0.f0, (rd_T43 t265 x5_1).f2.f0.f1⟩ : S33), (rd_T43 t265 x5_1).f2.f1, (rd_T43 t265 x5_1).f2.f2, (rd_T43 t265 x5_1).f2.f3⟩ : S36)]) := ⟨_, rfl⟩
           replace H : (milestoneref07_Routes.l0 k1 y270 t265 (wrap64 (x5_1 + 1))) = some r := by first | (rw [hy270]; with_reducible exact H) | exact H
           have Ny270 := Aside0.mk hy270
           clear hy270
           have H' := Aside0.mk H
           clear H
           obtain ⟨Ao9, co9, eo9⟩ := Kd.R_slice HO_4.out
           subst eo9
           have p268 : 0 ≤ (x5_1 : Int) := of_decide_eq_true (by first | (with_reducible assumption))
           have q268 : x5_1 < (t265.length : Int) := of_decide_eq_true (by first | (with_reducible assumption))
           obtain ⟨ad268, e268, hx268_0, hx268_1, hx268_2, hx268_3, hx268_4, hx268_5, hx268_6, hx268_7, hx268_8, hx268_9⟩ := at_T43 (Kd.R_reads' HO_4.out).2.2 x5_1 p268 q268
           (try rw [← Nbq6.out] at hx268_2)
           cases e268
           replace p268 := eq_true p268
           replace q268 := eq_true q268
           have p269 : 0 ≤ (x5_1 : Int) := of_decide_eq_true (by first | (with_reducible assumption))
           have q269 : x5_1 < (t265.length : Int) := of_decide_eq_true (by first | (with_reducible assumption))
           obtain ⟨ad269, e269, hx269_0, hx269_1, hx269_2, hx269_3, hx269_4, hx269_5, hx269_6, hx269_7, hx269_8, hx269_9⟩ := at_T43 (Kd.R_reads' HO_4.out).2.2 x5_1 p269 q269
           (try rw [← Nbq6.out] at hx269_2)
           obtain rfl : ad268 = ad269 := (by injection e269)
           replace p269 := eq_true p269
           replace q269 := eq_true q269
           go_wp2_with (first | ((with_reducible refine gate_builtin (b := .append) (xs := #[.tmp 19, .tmp 25]) rfl ?_); at_builtin; refine Kd.R_append k36 (w0 := w) w.heap.size rfl (.tmp 19) (.tmp 25) 52 36 (.agg #[(.int .u32 0), (.int .u8 0), (.int .i64 0), (.int .u16 0), (.int .u16 0)]) 24 rfl Try.underlying52 info36 rfl (by decide) (by omega) u3 x3_1 (⟨(⟨(rd_T43 t265 x5_1).f2.f0.f0, (rd_T43 t265 x5_1).f2.f0.f1⟩ : S33), (rd_T43 t265 x5_1).f2.f1, (rd_T43 t265 x5_1).f2.f2, (rd_T43 t265 x5_1).f2.f3⟩ : S36) [.int .u32 ((rd_T43 t265 x5_1).f2.f0.f0), .int .u8 ((rd_T43 t265 x5_1).f2.f0.f1), .int .i64 ((rd_T43 t265 x5_1).f2.f1), .int .u16 ((rd_T43 t265 x5_1).f2.f2), .int .u16 ((rd_T43 t265 x5_1).f2.f3)] (fun _ => True) (fun _ => False) rfl rfl ?aP (fun _ hk => hk.elim) ?aF ?aO ?aB ?aS ?aL ?_; (case aP => exact k36_mkM _ _ _ (⟨(⟨(rd_T43 t265 x5_1).f2.f0.f0, (rd_T43 t265 x5_1).f2.f0.f1⟩ : S33), (rd_T43 t265 x5_1).f2.f1, (rd_T43 t265 x5_1).f2.f2, (rd_T43 t265 x5_1).f2.f3⟩ : S36)); (case aB => exact (by repeat (first | (with_reducible first | exact HB.out | apply below_drew1)))); (case aF => exact (fun _ _ => trivial)); (case aO => exact (by exact HO_3.out)); (case aS => exact (below_size (by repeat (first | (with_reducible first | exact HB.out | apply below_drew1))))); (case aL => have := LMc8.out; omega); intro v271 w10 ho hb hg hat; rw [← Ny270.out] at ho; have n0_ := Aside0.mk (Kd.R_over' (by exact HO_4.out) (Kd.R_typed (by exact HO_3.out)) (by decide) hg); have n1_ := Aside0.mk (hb); have n2_ := Aside0.mk (ho); clear HO_4; clear HB; clear HO_3; have HO_4 := n0_; have HB := n1_; have HO272 := n2_; clear n0_ n1_ n2_; clear ho hb hg hat))
           go_roundg k1
           case measure => have := HK1.out; omega
           case rel => exact ⟨(y270), (wrap64 (x5_1 + 1)), (by first | rfl | (refine qa_int ?_; simp <;> omega)), H', ⟨by have := HK1.out; omega⟩, ⟨by exact HO272.out⟩, ⟨by exact HO_4.out⟩, ⟨by repeat (first | (with_reducible first | exact HB.out | apply below_drew1))⟩⟩
         · rw [if_neg c8] at H
           exact absurd H (by simp)
       · replace c7 := Bool.eq_false_iff.mpr c7
         subst c7
         have H1 : (milestoneref07_Routes.l0 k1 x3_1 t265 (wrap64 (x5_1 + 1))) = some r := by rw [if_neg (show ¬ (false = true) by decide)] at H; exact H
         clear H
         have H := H1
         clear H1
         have H' := Aside0.mk H
         clear H
         obtain ⟨Ao11, co11, eo11⟩ := Kd.R_slice HO_4.out
         subst eo11
         have p268 : 0 ≤ (x5_1 : Int) := of_decide_eq_true (by first | (with_reducible assumption))
         have q268 : x5_1 < (t265.length : Int) := of_decide_eq_true (by first | (with_reducible assumption))
         obtain ⟨ad268, e268, hx268_0, hx268_1, hx268_2, hx268_3, hx268_4, hx268_5, hx268_6, hx268_7, hx268_8, hx268_9⟩ := at_T43 (Kd.R_reads' HO_4.out).2.2 x5_1 p268 q268
         (try rw [← Nbq6.out] at hx268_2)
         cases e268
         replace p268 := eq_true p268
         replace q268 := eq_true q268
         go_wp2
         go_roundg k1
         case measure => have := HK1.out; omega
         case rel => exact ⟨(x3_1), (wrap64 (x5_1 + 1)), (by first | rfl | (refine qa_int ?_; simp <;> omega)), H', ⟨by have := HK1.out; omega⟩, ⟨by exact HO_3.out⟩, ⟨by exact HO_4.out⟩, ⟨by repeat (first | (with_reducible first | exact HB.out | apply below_drew1))⟩⟩
     · rw [if_neg c5] at H
       exact absurd H (by simp)
   · rw [if_neg c4] at H
     have c4b0 : decide (x5_1 < (t265.length : Int)) = false := decide_eq_false c4
     clear c4
     obtain rfl := Option.some.inj H
     simp only [Option.some.injEq, Prod.mk.injEq] at H
     obtain ⟨rfl⟩ := H
     obtain ⟨Ao12, co12, eo12⟩ := Kd.R_slice HO_4.out
     subst eo12
     go_wp2
     go_ret
     exact ⟨_, by first | rfl | (simp [*, errW_none, errW_some] <;> rfl), by exact HO_3.out, by repeat (first | (with_reducible first | exact HB.out | apply below_drew1))⟩

end Go.Proofs.Ytmkjgiejnlmncaa.QTableTells
