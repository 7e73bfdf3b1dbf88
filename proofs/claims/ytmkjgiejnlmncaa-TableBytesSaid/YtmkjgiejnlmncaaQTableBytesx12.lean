-- Lines by a program of this session, for this claim.
import Derived.Test.YtmkjgiejnlmncaaQTableBytesx0
import Derived.Test.YtmkjgiejnlmncaaQTableBytesx9
import Derived.Test.YtmkjgiejnlmncaaQTableBytesx11
namespace Go.Proofs.Ytmkjgiejnlmncaa.QTableBytes
open Go.RowKit Go.Proofs.YtmkjgiejnlmncaaW.PrintWords Go.Proofs.YtmkjgiejnlmncaaW.PrintLast Go.Proofs.YtmkjgiejnlmncaaW.PrintMore
attribute [local go_sem] max2_int min2_int max_two min_two max_three min_three max_four min_four   -- for this text's walks alone
set_option linter.unusedVariables false
set_option maxRecDepth 100000
set_option maxHeartbeats 8000000
set_option linter.unusedSimpArgs false

/-! ### gb_Rows: function 15 -/
def gb_Rows.l0 : Nat → List (S38) → List (S43) → List (S33) → Int → Option ((List (S43)))
 | 0, _, _, _, _ => none
 | k + 1, x0, x3, x4, x5 => if x5 < (x4.length : Int) then (if 0 ≤ x5 then ((gb_Row.f k x0 ((rd_T33 x4 x5).f0) ((rd_T33 x4 x5).f1)).bind fun bt248 => (if bt248.2.2.2.2.2.2.2.2.2.2 = true then (if x3.length < 2932031007402 then (gb_Rows.l0 k x0 (x3 ++ [(⟨(⟨bt248.1, bt248.2.1⟩ : S33), bt248.2.2.1, (⟨(⟨bt248.2.2.2.1, bt248.2.2.2.2.1⟩ : S33), bt248.2.2.2.2.2.1, bt248.2.2.2.2.2.2.1, bt248.2.2.2.2.2.2.2.1⟩ : S36), (⟨bt248.2.2.2.2.2.2.2.2.1, bt248.2.2.2.2.2.2.2.2.2.1⟩ : S41)⟩ : S43)]) x4 (wrap64 (x5 + 1))) else (none)) else (gb_Rows.l0 k x0 x3 x4 (wrap64 (x5 + 1))))) else (none)) else (some x3)
def gb_Rows.f (k : Nat) (l0 : List (S38)) : Option ((List (S43))) := (gb_Prefixes.f k l0).bind fun t244 => (gb_Rows.l0 k l0 ([] : List (S43)) t244 0)
theorem gb_Rows.mono_l : ∀ k, (∀ y0 y1 y2 y3, LeO (gb_Rows.l0 k y0 y1 y2 y3) (gb_Rows.l0 (k + 1) y0 y1 y2 y3))
 | 0 => fun _ _ _ _ r h => by simp [gb_Rows.l0] at h
 | k + 1 => by
  have ih0 := gb_Rows.mono_l k
  · intro y0 y1 y2 y3
    unfold gb_Rows.l0
    repeat' first
    | (with_reducible exact ih0 ..)
    | (with_reducible exact gb_Prefixes.mono ..)
    | (with_reducible exact gb_Row.mono ..)
    | (with_reducible exact LeO.refl ..)
    | (with_reducible exact LeO.none ..)
    | (with_reducible refine LeO.ite ?_ ?_)
    | (with_reducible refine LeO.bind ?_ (fun _ => ?_))
theorem gb_Rows.mono : ∀ a0 k, LeO (gb_Rows.f k a0) (gb_Rows.f (k + 1) a0) := by
 intro a0 k; have ih0 := gb_Rows.mono_l k
 unfold gb_Rows.f
 repeat' first
  | (with_reducible exact ih0 ..)
  | (with_reducible exact gb_Prefixes.mono ..)
  | (with_reducible exact gb_Row.mono ..)
  | (with_reducible exact LeO.refl ..)
  | (with_reducible exact LeO.none ..)
  | (with_reducible refine LeO.ite ?_ ?_)
  | (with_reducible refine LeO.bind ?_ (fun _ => ?_))
theorem gb_Rows.calls (k : Nat) (A0 : Option Addr) (c0 : Nat) (l0 : List (S38)) (r : List (S43)) (w : World) (hr0 : Kd.C k38 w A0 l0.length l0) (hc0 : l0.length ≤ c0) (h : gb_Rows.f k l0 = some r) :
 Calls Try.prog 15 #[.slice A0 l0.length c0] w fun e w' => ∃ v0_ : Value, e = .returned (v0_) ∧ Kd.R k43 43 w' w.heap.size (fun _ => True) v0_ r ∧ Below w.heap.size w w' := by
 have hu33 := Try.underlying33; have hu43 := Try.underlying43; have HR0 := Ad hr0; have HC0 := Ad hc0; clear hr0 hc0; have HB := Ad (Below.refl w.heap.size w); have H : ((gb_Prefixes.f k l0).bind fun t244 => (gb_Rows.l0 k l0 ([] : List (S43)) t244 0)) = some r := h; clear h; replace H := Option.bind_eq_some_iff.mp H; obtain ⟨t244, A20, H⟩ := H; replace H : (gb_Rows.l0 k l0 ([] : List (S43)) t244 0) = some r := H; have A2 := Ad A20; clear A20; have H' := Ad H; clear H
 go_enter Try.func15, Try.ntmps15
 go_wp2_with (first | ((with_reducible refine gate_callee (f := 28) rfl ?_); refine goesL_ (some 9) rfl rfl Try.func28 (by kernel_rfl) rfl #[.slice A0 l0.length c0] rfl (by (try simp only [List.map_toArray, List.map_cons, List.map_nil]); first | rfl) ?_; (with_reducible refine (gb_Prefixes.calls k _ _ l0 t244 _ ?side1 ?side2 A2.out).mono ?_); (case side1 => repeat (first | exact HR0.out)); (case side2 => exact HC0.out); rintro e w3 ⟨v245, rfl, ho0, hb⟩; refine ⟨_, rfl, ?_⟩; have HO246 := Ad (Kd.R_lower ho0 (below_size HB.out)); replace HB := Ad (below_step HB.out hb); (try clear hb); (try clear hb2); (try clear hk); (try clear hi); (try clear ho0)))
 go_loopg [3, 5] k (fun kq v3 v5 w' => ∃ (x3_1 : List (S43)) (x5_1 : Int), v5 = .int .i64 x5_1 ∧ Aside0 (gb_Rows.l0 kq l0 x3_1 t244 x5_1 = some r) ∧ Aside0 (kq ≤ k) ∧ Aside0 (Kd.R k43 43 w' w.heap.size (fun _ => True) v3 x3_1) ∧ Aside0 (Kd.R k33 33 w' w.heap.size (fun _ => True) v245 t244) ∧ Aside0 (Below w.heap.size w w'))
 case atStart => exact ⟨(([] : List (S43))), (0), (by first | rfl), H', ⟨Nat.le_refl _⟩, ⟨by first | exact Kd.R_nil _ _ _ _ _⟩, ⟨by exact HO246.out⟩, ⟨by repeat (first | (with_reducible first | exact HB.out))⟩⟩
 case round =>
  clear H'
  try clear c1
  try clear c2
  try clear p2
  obtain ⟨x3_1, x5_1, rfl, HA, HK1, HO_3, HO_4, HB⟩ := hrel
  cases gk with
  | zero => exact absurd HA.out (by simp [gb_Rows.l0])
  | succ k1 =>
   have H := HA.out; clear HA
   simp only [gb_Rows.l0] at H
   by_cases c4 : x5_1 < (t244.length : Int)
   · rw [if_pos c4] at H
     have c4b0 : decide (x5_1 < (t244.length : Int)) = true := decide_eq_true c4; clear c4
     by_cases c5 : 0 ≤ x5_1
     · rw [if_pos c5] at H
       have c5b0 : decide (0 ≤ x5_1) = true := decide_eq_true c5; clear c5; replace H := Option.bind_eq_some_iff.mp H; obtain ⟨⟨t248, t249, t250, t251, t252, t253, t254, t255, t256, t257, t258⟩, A60, H⟩ := H; replace H : (if t258 = true then (if x3_1.length < 2932031007402 then (gb_Rows.l0 k1 l0 (x3_1 ++ [(⟨(⟨t248, t249⟩ : S33), t250, (⟨(⟨t251, t252⟩ : S33), t253, t254, t255⟩ : S36), (⟨t256, t257⟩ : S41)⟩ : S43)]) t244 (wrap64 (x5_1 + 1))) else (none)) else (gb_Rows.l0 k1 l0 x3_1 t244 (wrap64 (x5_1 + 1)))) = some r := H; have A6 := Ad A60; clear A60
       by_cases c7 : t258 = true
       · subst c7
         have H1 : (if x3_1.length < 2932031007402 then (gb_Rows.l0 k1 l0 (x3_1 ++ [(⟨(⟨t248, t249⟩ : S33), t250, (⟨(⟨t251, t252⟩ : S33), t253, t254, t255⟩ : S36), (⟨t256, t257⟩ : S41)⟩ : S43)]) t244 (wrap64 (x5_1 + 1))) else (none)) = some r := by rw [if_pos rfl] at H; exact H
         clear H; have H := H1; clear H1
         by_cases c8 : x3_1.length < 2932031007402
         · rw [if_pos c8] at H
           have LMc8 := Ad c8; clear c8
           obtain ⟨y260, hy260⟩ : ∃ y_ : List (S43), y_ = (x3_1 ++ [(⟨(⟨t248, t249⟩ : S33), t250, (⟨(⟨t251, t252⟩ : S33), t253, t254, t255⟩ : S36), (⟨t256, t257⟩ : S41)⟩ : S43)]) := ⟨_, rfl⟩
           replace H : (gb_Rows.l0 k1 l0 y260 t244 (wrap64 (x5_1 + 1))) = some r := by first | (rw [hy260]; with_reducible exact H)
           have Ny260 := Ad hy260; clear hy260; have H' := Ad H; clear H; obtain ⟨Ao9, co9, eo9⟩ := Kd.R_slice HO_4.out; subst eo9; have p247 : 0 ≤ (x5_1 : Int) := of_decide_eq_true (by first | (with_reducible assumption)); have q247 : x5_1 < (t244.length : Int) := of_decide_eq_true (by first | (with_reducible assumption)); obtain ⟨ad247, e247, hx247_0, hx247_1⟩ := at_T33 (Kd.R_reads' HO_4.out).2.2 x5_1 p247 q247; cases e247; replace p247 := eq_true p247; replace q247 := eq_true q247
           go_wp2_with (first | ((with_reducible refine gate_callee (f := 12) rfl ?_); refine goesL_ (some 22) rfl rfl Try.func12 (by kernel_rfl) rfl #[.slice A0 l0.length c0, .agg #[.int .u32 ((rd_T33 t244 x5_1).f0), .int .u8 ((rd_T33 t244 x5_1).f1)]] rfl (by (try simp only [List.map_toArray, List.map_cons, List.map_nil]); first | rfl) ?_; (with_reducible refine (gb_Row.calls k1 _ _ l0 ((rd_T33 t244 x5_1).f0) ((rd_T33 t244 x5_1).f1) t248 t249 t250 t251 t252 t253 t254 t255 t256 t257 true _ ?side1 ?side2 A6.out).mono ?_); (case side1 => repeat (first | exact (Kd.C_below HR0.out HB.out))); (case side2 => exact HC0.out); rintro e w10 ⟨rfl, hb⟩; refine ⟨_, rfl, ?_⟩; replace HO_3 := Ad (Kd.R_below (by exact HO_3.out) hb); replace HO_4 := Ad (Kd.R_below (by exact HO_4.out) hb); replace HB := Ad (below_step HB.out hb); (try clear hb); (try clear hb2); (try clear hk); (try clear hi)) | ((with_reducible refine gate_dst (N := 6) rfl ?_); refine box_event ?hg (N := 6) ?hd (cs := #[.int .u32 0, .int .u8 0, .bool false, .int .u32 0, .int .u8 0, .int .i64 0, .int .u16 0, .int .u16 0, .int .u16 0, .int .u16 0]) (t := 43) ?hr ?_; (case hd => rfl); (case hg => rfl); (case hr => first | (go_simp; done)); intro gb259 hg w11 hbox hb; replace HO_3 := Ad (Kd.R_below (Kd.R_elderB (by exact HO_3.out) gb259 (Nat.le_of_eq hg.symm)) hb); replace HO_4 := Ad (Kd.R_below (by exact HO_4.out) hb); have BK259 := Ad (hbox); have GW259 := Ad ((by rw [hg]; exact (below_size HB.out) : w.heap.size ≤ gb259)); have GE259 := GW259; replace HB := Ad (below_step HB.out hb); clear hb hbox hg; have hcz12_0 : w11.cell? ⟨gb259, 0, none⟩ = some (.int .u32 0) := (blk_cell BK259.out 0).trans rfl; have hcz12_1 : w11.cell? ⟨gb259, 1, none⟩ = some (.int .u8 0) := (blk_cell BK259.out 1).trans rfl; have hcz12_2 : w11.cell? ⟨gb259, 2, none⟩ = some (.bool false) := (blk_cell BK259.out 2).trans rfl; have hcz12_3 : w11.cell? ⟨gb259, 3, none⟩ = some (.int .u32 0) := (blk_cell BK259.out 3).trans rfl; have hcz12_4 : w11.cell? ⟨gb259, 4, none⟩ = some (.int .u8 0) := (blk_cell BK259.out 4).trans rfl; have hcz12_5 : w11.cell? ⟨gb259, 5, none⟩ = some (.int .i64 0) := (blk_cell BK259.out 5).trans rfl; have hcz12_6 : w11.cell? ⟨gb259, 6, none⟩ = some (.int .u16 0) := (blk_cell BK259.out 6).trans rfl; have hcz12_7 : w11.cell? ⟨gb259, 7, none⟩ = some (.int .u16 0) := (blk_cell BK259.out 7).trans rfl; have hcz12_8 : w11.cell? ⟨gb259, 8, none⟩ = some (.int .u16 0) := (blk_cell BK259.out 8).trans rfl; have hcz12_9 : w11.cell? ⟨gb259, 9, none⟩ = some (.int .u16 0) := (blk_cell BK259.out 9).trans rfl; have hfz12_0 := blk_frozen BK259.out 0; have hfz12_1 := blk_frozen BK259.out 1; have hfz12_2 := blk_frozen BK259.out 2; have hfz12_3 := blk_frozen BK259.out 3; have hfz12_4 := blk_frozen BK259.out 4; have hfz12_5 := blk_frozen BK259.out 5; have hfz12_6 := blk_frozen BK259.out 6; have hfz12_7 := blk_frozen BK259.out 7; have hfz12_8 := blk_frozen BK259.out 8; have hfz12_9 := blk_frozen BK259.out 9) | ((with_reducible refine gate_builtin (b := .append) (xs := #[.tmp 26, .tmp 28]) rfl ?_); at_builtin; refine Kd.R_append k43 (w0 := w) w.heap.size rfl (.tmp 26) (.tmp 28) 48 43 (.agg #[(.int .u32 0), (.int .u8 0), (.bool false), (.int .u32 0), (.int .u8 0), (.int .i64 0), (.int .u16 0), (.int .u16 0), (.int .u16 0), (.int .u16 0)]) 48 rfl Try.underlying48 info43 rfl (by decide) (by omega) u3 x3_1 (⟨(⟨t248, t249⟩ : S33), t250, (⟨(⟨t251, t252⟩ : S33), t253, t254, t255⟩ : S36), (⟨t256, t257⟩ : S41)⟩ : S43) [.int .u32 t248, .int .u8 t249, .bool t250, .int .u32 t251, .int .u8 t252, .int .i64 t253, .int .u16 t254, .int .u16 t255, .int .u16 t256, .int .u16 t257] (fun k_ => k_ ≠ gb259) (fun _ => False) rfl (by first | (go_simp; done)) ?aP (fun _ hk => hk.elim) ?aF ?aO ?aB ?aS ?aL ?_; (case aP => exact k43_mkM _ _ _ (⟨(⟨t248, t249⟩ : S33), t250, (⟨(⟨t251, t252⟩ : S33), t253, t254, t255⟩ : S36), (⟨t256, t257⟩ : S41)⟩ : S43)); (case aB => exact (by repeat (first | (with_reducible first | exact HB.out | refine below_set ?_ GE259.out)))); (case aF => exact (fun k_ hk => Kd.freshB (g := gb259) (o := .cells #[.int .u32 t248, .int .u8 t249, .bool t250, .int .u32 t251, .int .u8 t252, .int .i64 t253, .int .u16 t254, .int .u16 t255, .int .u16 t256, .int .u16 t257] 43 (0, 0)) (by refine blk_put (cs := #[.int .u32 t248, .int .u8 t249, .bool t250, .int .u32 t251, .int .u8 t252, .int .i64 t253, .int .u16 t254, .int .u16 t255, .int .u16 t256, .int .u16 0]) ?_ 9 _ rfl; refine blk_put (cs := #[.int .u32 t248, .int .u8 t249, .bool t250, .int .u32 t251, .int .u8 t252, .int .i64 t253, .int .u16 t254, .int .u16 t255, .int .u16 0, .int .u16 0]) ?_ 8 _ rfl; refine blk_put (cs := #[.int .u32 t248, .int .u8 t249, .bool t250, .int .u32 t251, .int .u8 t252, .int .i64 t253, .int .u16 t254, .int .u16 0, .int .u16 0, .int .u16 0]) ?_ 7 _ rfl; refine blk_put (cs := #[.int .u32 t248, .int .u8 t249, .bool t250, .int .u32 t251, .int .u8 t252, .int .i64 t253, .int .u16 0, .int .u16 0, .int .u16 0, .int .u16 0]) ?_ 6 _ rfl; refine blk_put (cs := #[.int .u32 t248, .int .u8 t249, .bool t250, .int .u32 t251, .int .u8 t252, .int .i64 0, .int .u16 0, .int .u16 0, .int .u16 0, .int .u16 0]) ?_ 5 _ rfl; refine blk_put (cs := #[.int .u32 t248, .int .u8 t249, .bool t250, .int .u32 t251, .int .u8 0, .int .i64 0, .int .u16 0, .int .u16 0, .int .u16 0, .int .u16 0]) ?_ 4 _ rfl; refine blk_put (cs := #[.int .u32 t248, .int .u8 t249, .bool t250, .int .u32 0, .int .u8 0, .int .i64 0, .int .u16 0, .int .u16 0, .int .u16 0, .int .u16 0]) ?_ 3 _ rfl; refine blk_put (cs := #[.int .u32 t248, .int .u8 t249, .bool false, .int .u32 0, .int .u8 0, .int .i64 0, .int .u16 0, .int .u16 0, .int .u16 0, .int .u16 0]) ?_ 2 _ rfl; refine blk_put (cs := #[.int .u32 t248, .int .u8 0, .bool false, .int .u32 0, .int .u8 0, .int .i64 0, .int .u16 0, .int .u16 0, .int .u16 0, .int .u16 0]) ?_ 1 _ rfl; refine blk_put (cs := #[.int .u32 0, .int .u8 0, .bool false, .int .u32 0, .int .u8 0, .int .i64 0, .int .u16 0, .int .u16 0, .int .u16 0, .int .u16 0]) ?_ 0 _ rfl; exact BK259.out) k_ hk)); (case aO => exact (by exact Kd.R_mono (Kd.R_far (p := ⟨gb259, 9, none⟩) (Kd.R_far (p := ⟨gb259, 8, none⟩) (Kd.R_far (p := ⟨gb259, 7, none⟩) (Kd.R_far (p := ⟨gb259, 6, none⟩) (Kd.R_far (p := ⟨gb259, 5, none⟩) (Kd.R_far (p := ⟨gb259, 4, none⟩) (Kd.R_far (p := ⟨gb259, 3, none⟩) (Kd.R_far (p := ⟨gb259, 2, none⟩) (Kd.R_far (p := ⟨gb259, 1, none⟩) (Kd.R_far (p := ⟨gb259, 0, none⟩) (Kd.R_mono HO_3.out (fun k_ hk => (⟨hk, hk.2⟩ : _ ∧ k_ ≠ gb259))) (fun _ hk => hk.2) (.int .u32 t248)) (fun _ hk => hk.2) (.int .u8 t249)) (fun _ hk => hk.2) (.bool t250)) (fun _ hk => hk.2) (.int .u32 t251)) (fun _ hk => hk.2) (.int .u8 t252)) (fun _ hk => hk.2) (.int .i64 t253)) (fun _ hk => hk.2) (.int .u16 t254)) (fun _ hk => hk.2) (.int .u16 t255)) (fun _ hk => hk.2) (.int .u16 t256)) (fun _ hk => hk.2) (.int .u16 t257)) (fun _ hk => hk.1.2))); (case aS => exact (below_size (by repeat (first | (with_reducible first | exact HB.out | refine below_set ?_ GE259.out))))); (case aL => have := LMc8.out; omega); intro v261 w13 ho hb hg hat; rw [← Ny260.out] at ho; replace HO_4 := Ad (Kd.R_over' (by exact (Kd.R_mono (Kd.R_far (p := ⟨gb259, 9, none⟩) (Kd.R_far (p := ⟨gb259, 8, none⟩) (Kd.R_far (p := ⟨gb259, 7, none⟩) (Kd.R_far (p := ⟨gb259, 6, none⟩) (Kd.R_far (p := ⟨gb259, 5, none⟩) (Kd.R_far (p := ⟨gb259, 4, none⟩) (Kd.R_far (p := ⟨gb259, 3, none⟩) (Kd.R_far (p := ⟨gb259, 2, none⟩) (Kd.R_far (p := ⟨gb259, 1, none⟩) (Kd.R_far (p := ⟨gb259, 0, none⟩) (Kd.R_types HO_4.out BK259.out (by decide)) (fun _ hk => hk.2) (.int .u32 t248)) (fun _ hk => hk.2) (.int .u8 t249)) (fun _ hk => hk.2) (.bool t250)) (fun _ hk => hk.2) (.int .u32 t251)) (fun _ hk => hk.2) (.int .u8 t252)) (fun _ hk => hk.2) (.int .i64 t253)) (fun _ hk => hk.2) (.int .u16 t254)) (fun _ hk => hk.2) (.int .u16 t255)) (fun _ hk => hk.2) (.int .u16 t256)) (fun _ hk => hk.2) (.int .u16 t257)) (fun _ h_ => h_.1))) (Kd.R_typed (by exact (Kd.R_mono (Kd.R_far (p := ⟨gb259, 9, none⟩) (Kd.R_far (p := ⟨gb259, 8, none⟩) (Kd.R_far (p := ⟨gb259, 7, none⟩) (Kd.R_far (p := ⟨gb259, 6, none⟩) (Kd.R_far (p := ⟨gb259, 5, none⟩) (Kd.R_far (p := ⟨gb259, 4, none⟩) (Kd.R_far (p := ⟨gb259, 3, none⟩) (Kd.R_far (p := ⟨gb259, 2, none⟩) (Kd.R_far (p := ⟨gb259, 1, none⟩) (Kd.R_far (p := ⟨gb259, 0, none⟩) (Kd.R_mono HO_3.out (fun k_ hk => (⟨hk, hk.2⟩ : _ ∧ k_ ≠ gb259))) (fun _ hk => hk.2) (.int .u32 t248)) (fun _ hk => hk.2) (.int .u8 t249)) (fun _ hk => hk.2) (.bool t250)) (fun _ hk => hk.2) (.int .u32 t251)) (fun _ hk => hk.2) (.int .u8 t252)) (fun _ hk => hk.2) (.int .i64 t253)) (fun _ hk => hk.2) (.int .u16 t254)) (fun _ hk => hk.2) (.int .u16 t255)) (fun _ hk => hk.2) (.int .u16 t256)) (fun _ hk => hk.2) (.int .u16 t257)) (fun _ h_ => h_.1)))) (by decide) hg); replace BK259 := Ad (blk_grown (g := gb259) (o := .cells #[.int .u32 t248, .int .u8 t249, .bool t250, .int .u32 t251, .int .u8 t252, .int .i64 t253, .int .u16 t254, .int .u16 t255, .int .u16 t256, .int .u16 t257] 43 (0, 0)) (by refine blk_put (cs := #[.int .u32 t248, .int .u8 t249, .bool t250, .int .u32 t251, .int .u8 t252, .int .i64 t253, .int .u16 t254, .int .u16 t255, .int .u16 t256, .int .u16 0]) ?_ 9 _ rfl; refine blk_put (cs := #[.int .u32 t248, .int .u8 t249, .bool t250, .int .u32 t251, .int .u8 t252, .int .i64 t253, .int .u16 t254, .int .u16 t255, .int .u16 0, .int .u16 0]) ?_ 8 _ rfl; refine blk_put (cs := #[.int .u32 t248, .int .u8 t249, .bool t250, .int .u32 t251, .int .u8 t252, .int .i64 t253, .int .u16 t254, .int .u16 0, .int .u16 0, .int .u16 0]) ?_ 7 _ rfl; refine blk_put (cs := #[.int .u32 t248, .int .u8 t249, .bool t250, .int .u32 t251, .int .u8 t252, .int .i64 t253, .int .u16 0, .int .u16 0, .int .u16 0, .int .u16 0]) ?_ 6 _ rfl; refine blk_put (cs := #[.int .u32 t248, .int .u8 t249, .bool t250, .int .u32 t251, .int .u8 t252, .int .i64 0, .int .u16 0, .int .u16 0, .int .u16 0, .int .u16 0]) ?_ 5 _ rfl; refine blk_put (cs := #[.int .u32 t248, .int .u8 t249, .bool t250, .int .u32 t251, .int .u8 0, .int .i64 0, .int .u16 0, .int .u16 0, .int .u16 0, .int .u16 0]) ?_ 4 _ rfl; refine blk_put (cs := #[.int .u32 t248, .int .u8 t249, .bool t250, .int .u32 0, .int .u8 0, .int .i64 0, .int .u16 0, .int .u16 0, .int .u16 0, .int .u16 0]) ?_ 3 _ rfl; refine blk_put (cs := #[.int .u32 t248, .int .u8 t249, .bool false, .int .u32 0, .int .u8 0, .int .i64 0, .int .u16 0, .int .u16 0, .int .u16 0, .int .u16 0]) ?_ 2 _ rfl; refine blk_put (cs := #[.int .u32 t248, .int .u8 0, .bool false, .int .u32 0, .int .u8 0, .int .i64 0, .int .u16 0, .int .u16 0, .int .u16 0, .int .u16 0]) ?_ 1 _ rfl; refine blk_put (cs := #[.int .u32 0, .int .u8 0, .bool false, .int .u32 0, .int .u8 0, .int .i64 0, .int .u16 0, .int .u16 0, .int .u16 0, .int .u16 0]) ?_ 0 _ rfl; exact BK259.out) hg (Kd.R_away HO_3.out (fun _ hk => hk.2))); replace HB := Ad (hb); have HO262 := Ad (ho); clear HO_3; clear ho hb hg hat))
           go_roundg k1
           case measure => have := HK1.out; omega
           case rel => exact ⟨(y260), (wrap64 (x5_1 + 1)), (by first | rfl), H', ⟨by have := HK1.out; omega⟩, ⟨by exact Kd.R_mono HO262.out (fun _ hk => trivial)⟩, ⟨by exact HO_4.out⟩, ⟨by repeat (first | (with_reducible first | exact HB.out))⟩⟩
         · rw [if_neg c8] at H; exact absurd H (by simp)
       · replace c7 := Bool.eq_false_iff.mpr c7
         subst c7
         have H1 : (gb_Rows.l0 k1 l0 x3_1 t244 (wrap64 (x5_1 + 1))) = some r := by rw [if_neg (show ¬ (false = true) by decide)] at H; exact H
         clear H; have H := H1; clear H1; have H' := Ad H; clear H; obtain ⟨Ao14, co14, eo14⟩ := Kd.R_slice HO_4.out; subst eo14; have p247 : 0 ≤ (x5_1 : Int) := of_decide_eq_true (by first | (with_reducible assumption)); have q247 : x5_1 < (t244.length : Int) := of_decide_eq_true (by first | (with_reducible assumption)); obtain ⟨ad247, e247, hx247_0, hx247_1⟩ := at_T33 (Kd.R_reads' HO_4.out).2.2 x5_1 p247 q247; cases e247; replace p247 := eq_true p247; replace q247 := eq_true q247
         go_wp2_with (first | ((with_reducible refine gate_callee (f := 12) rfl ?_); refine goesL_ (some 22) rfl rfl Try.func12 (by kernel_rfl) rfl #[.slice A0 l0.length c0, .agg #[.int .u32 ((rd_T33 t244 x5_1).f0), .int .u8 ((rd_T33 t244 x5_1).f1)]] rfl (by (try simp only [List.map_toArray, List.map_cons, List.map_nil]); first | rfl) ?_; (with_reducible refine (gb_Row.calls k1 _ _ l0 ((rd_T33 t244 x5_1).f0) ((rd_T33 t244 x5_1).f1) t248 t249 t250 t251 t252 t253 t254 t255 t256 t257 false _ ?side1 ?side2 A6.out).mono ?_); (case side1 => repeat (first | exact (Kd.C_below HR0.out HB.out))); (case side2 => exact HC0.out); rintro e w15 ⟨rfl, hb⟩; refine ⟨_, rfl, ?_⟩; replace HO_3 := Ad (Kd.R_below (by exact HO_3.out) hb); replace HO_4 := Ad (Kd.R_below (by exact HO_4.out) hb); replace HB := Ad (below_step HB.out hb); (try clear hb); (try clear hb2); (try clear hk); (try clear hi)) | ((with_reducible refine gate_dst (N := 6) rfl ?_); refine box_event ?hg (N := 6) ?hd (cs := #[.int .u32 0, .int .u8 0, .bool false, .int .u32 0, .int .u8 0, .int .i64 0, .int .u16 0, .int .u16 0, .int .u16 0, .int .u16 0]) (t := 43) ?hr ?_; (case hd => rfl); (case hg => rfl); (case hr => first | (go_simp; done)); intro gb259 hg w16 hbox hb; replace HO_3 := Ad (Kd.R_below (Kd.R_elderB (by exact HO_3.out) gb259 (Nat.le_of_eq hg.symm)) hb); replace HO_4 := Ad (Kd.R_below (by exact HO_4.out) hb); have BK259 := Ad (hbox); have GW259 := Ad ((by rw [hg]; exact (below_size HB.out) : w.heap.size ≤ gb259)); have GE259 := GW259; replace HB := Ad (below_step HB.out hb); clear hb hbox hg; have hcz17_0 : w16.cell? ⟨gb259, 0, none⟩ = some (.int .u32 0) := (blk_cell BK259.out 0).trans rfl; have hcz17_1 : w16.cell? ⟨gb259, 1, none⟩ = some (.int .u8 0) := (blk_cell BK259.out 1).trans rfl; have hcz17_2 : w16.cell? ⟨gb259, 2, none⟩ = some (.bool false) := (blk_cell BK259.out 2).trans rfl; have hcz17_3 : w16.cell? ⟨gb259, 3, none⟩ = some (.int .u32 0) := (blk_cell BK259.out 3).trans rfl; have hcz17_4 : w16.cell? ⟨gb259, 4, none⟩ = some (.int .u8 0) := (blk_cell BK259.out 4).trans rfl; have hcz17_5 : w16.cell? ⟨gb259, 5, none⟩ = some (.int .i64 0) := (blk_cell BK259.out 5).trans rfl; have hcz17_6 : w16.cell? ⟨gb259, 6, none⟩ = some (.int .u16 0) := (blk_cell BK259.out 6).trans rfl; have hcz17_7 : w16.cell? ⟨gb259, 7, none⟩ = some (.int .u16 0) := (blk_cell BK259.out 7).trans rfl; have hcz17_8 : w16.cell? ⟨gb259, 8, none⟩ = some (.int .u16 0) := (blk_cell BK259.out 8).trans rfl; have hcz17_9 : w16.cell? ⟨gb259, 9, none⟩ = some (.int .u16 0) := (blk_cell BK259.out 9).trans rfl; have hfz17_0 := blk_frozen BK259.out 0; have hfz17_1 := blk_frozen BK259.out 1; have hfz17_2 := blk_frozen BK259.out 2; have hfz17_3 := blk_frozen BK259.out 3; have hfz17_4 := blk_frozen BK259.out 4; have hfz17_5 := blk_frozen BK259.out 5; have hfz17_6 := blk_frozen BK259.out 6; have hfz17_7 := blk_frozen BK259.out 7; have hfz17_8 := blk_frozen BK259.out 8; have hfz17_9 := blk_frozen BK259.out 9))
         go_roundg k1
         case measure => have := HK1.out; omega
         case rel => exact ⟨(x3_1), (wrap64 (x5_1 + 1)), (by first | rfl), H', ⟨by have := HK1.out; omega⟩, ⟨by exact Kd.R_mono (Kd.R_far (p := ⟨gb259, 9, none⟩) (Kd.R_far (p := ⟨gb259, 8, none⟩) (Kd.R_far (p := ⟨gb259, 7, none⟩) (Kd.R_far (p := ⟨gb259, 6, none⟩) (Kd.R_far (p := ⟨gb259, 5, none⟩) (Kd.R_far (p := ⟨gb259, 4, none⟩) (Kd.R_far (p := ⟨gb259, 3, none⟩) (Kd.R_far (p := ⟨gb259, 2, none⟩) (Kd.R_far (p := ⟨gb259, 1, none⟩) (Kd.R_far (p := ⟨gb259, 0, none⟩) (Kd.R_mono HO_3.out (fun k_ hk => (⟨hk, hk.2⟩ : _ ∧ k_ ≠ gb259))) (fun _ hk => hk.2) (.int .u32 t248)) (fun _ hk => hk.2) (.int .u8 t249)) (fun _ hk => hk.2) (.bool t250)) (fun _ hk => hk.2) (.int .u32 t251)) (fun _ hk => hk.2) (.int .u8 t252)) (fun _ hk => hk.2) (.int .i64 t253)) (fun _ hk => hk.2) (.int .u16 t254)) (fun _ hk => hk.2) (.int .u16 t255)) (fun _ hk => hk.2) (.int .u16 t256)) (fun _ hk => hk.2) (.int .u16 t257)) (fun _ hk => trivial)⟩, ⟨by exact Kd.R_mono (Kd.R_far (p := ⟨gb259, 9, none⟩) (Kd.R_far (p := ⟨gb259, 8, none⟩) (Kd.R_far (p := ⟨gb259, 7, none⟩) (Kd.R_far (p := ⟨gb259, 6, none⟩) (Kd.R_far (p := ⟨gb259, 5, none⟩) (Kd.R_far (p := ⟨gb259, 4, none⟩) (Kd.R_far (p := ⟨gb259, 3, none⟩) (Kd.R_far (p := ⟨gb259, 2, none⟩) (Kd.R_far (p := ⟨gb259, 1, none⟩) (Kd.R_far (p := ⟨gb259, 0, none⟩) (Kd.R_types HO_4.out BK259.out (by decide)) (fun _ hk => hk.2) (.int .u32 t248)) (fun _ hk => hk.2) (.int .u8 t249)) (fun _ hk => hk.2) (.bool t250)) (fun _ hk => hk.2) (.int .u32 t251)) (fun _ hk => hk.2) (.int .u8 t252)) (fun _ hk => hk.2) (.int .i64 t253)) (fun _ hk => hk.2) (.int .u16 t254)) (fun _ hk => hk.2) (.int .u16 t255)) (fun _ hk => hk.2) (.int .u16 t256)) (fun _ hk => hk.2) (.int .u16 t257)) (fun _ hk => trivial)⟩, ⟨by repeat (first | (with_reducible first | exact HB.out | refine below_set ?_ GE259.out))⟩⟩
     · rw [if_neg c5] at H; exact absurd H (by simp)
   · rw [if_neg c4] at H
     have c4b0 : decide (x5_1 < (t244.length : Int)) = false := decide_eq_false c4; clear c4; obtain rfl := Option.some.inj H
     simp only [Option.some.injEq, Prod.mk.injEq] at H
     obtain ⟨rfl⟩ := H; obtain ⟨Ao18, co18, eo18⟩ := Kd.R_slice HO_4.out; subst eo18; go_wp2; go_ret; exact ⟨_, by first | rfl, by exact HO_3.out, by repeat (first | (with_reducible first | exact HB.out))⟩


/-- A state of type 96 at block g of W; what its slices lead to came in by w0. -/
def IsS96 (w0 W : World) (g : Nat) (f0 : List Int) (f1 : Int) : Prop := ∃ A0 c0, W.heap[g]? = some (.cells #[.slice A0 f0.length c0, .int .i64 f1] 96 (0, 0)) ∧ w0.heap.size ≤ g ∧ (f0.length ≤ c0 ∧ Kd.C (Kd.int .u8) w0 A0 f0.length f0)
theorem IsS96.grown {w0 W : World} {g : Nat} {f0 : List Int} {f1 : Int} {W1 : World} {row : Option Nat} (h : IsS96 w0 W g f0 f1) (hw : W.grownBy W1 row) (hne : some g ≠ row) : IsS96 w0 W1 g f0 f1 := by
 obtain ⟨A0, c0, hb, hg, hr0⟩ := h; exact ⟨A0, c0, blk_grown hb hw hne, hg, hr0⟩
theorem IsS96.own_neN {w0 W : World} {g : Nat} {f0 : List Int} {f1 : Int} {α : Type} {d : Kd α} {e : Nat} {base : Nat} {ok : Nat → Prop} {v : Value} {xs : List α} (h : IsS96 w0 W g f0 f1) (ho : Kd.N d e W base ok v xs) (ht : e ≠ 96) : some g ≠ v.ownBlock := by
 obtain ⟨A0, c0, hb, hg, hr0⟩ := h; exact Kd.N_ne ho hb ht
theorem IsS96.fresh {w0 W : World} {g : Nat} {f0 : List Int} {f1 : Int} (h : IsS96 w0 W g f0 f1) : ∀ k, W.heap.size ≤ k → k ≠ g := by
 obtain ⟨A0, c0, hb, hg, hr0⟩ := h; exact Kd.freshB hb
theorem IsS96.kept {w0 W : World} {g : Nat} {f0 : List Int} {f1 : Int} {W1 : World} {S : Nat → Prop} (h : IsS96 w0 W g f0 f1) (hk : Kept W W1 S) (hne : ¬ S g) : IsS96 w0 W1 g f0 f1 := by
 obtain ⟨A0, c0, hb, hg, hr0⟩ := h; exact ⟨A0, c0, blk_kept hb hk hne, hg, hr0⟩
theorem IsS96.below {w0 W : World} {g : Nat} {f0 : List Int} {f1 : Int} {W1 : World} (h : IsS96 w0 W g f0 f1) (hw : Below W.heap.size W W1) : IsS96 w0 W1 g f0 f1 := h.grown (grown_of_below hw none) (by simp)
theorem IsS96.alloc {w0 W : World} {g : Nat} {f0 : List Int} {f1 : Int} (h : IsS96 w0 W g f0 f1) (o : Obj) : IsS96 w0 (W.alloc o) g f0 f1 := h.below (below_alloc (Below.refl _ _) o)
theorem IsS96.drewN {w0 W : World} {g : Nat} {f0 : List Int} {f1 : Int} (h : IsS96 w0 W g f0 f1) (m : Nat) : IsS96 w0 (W.drewN m) g f0 f1 := h
theorem IsS96.drew {w0 W : World} {g : Nat} {f0 : List Int} {f1 : Int} (h : IsS96 w0 W g f0 f1) : IsS96 w0 W.drew g f0 f1 := h
theorem IsS96.at_ {w0 W : World} {g : Nat} {f0 : List Int} {f1 : Int} {w' : World} {m : Nat} (hq : W.drewN m = w') (h : IsS96 w0 W g f0 f1) : IsS96 w0 w' g f0 f1 := by subst hq; exact IsS96.drewN h m
theorem IsS96.apart {w0 W : World} {g : Nat} {f0 : List Int} {f1 : Int} {α : Type} {d : Kd α} {e : Nat} {base : Nat} {ok : Nat → Prop} {v : Value} {xs : List α} (h : IsS96 w0 W g f0 f1) (ho : d.R e W base ok v xs) (ht : ∀ q, q ∈ e :: d.E → q ≠ 96) : d.R e W base (fun k => ok k ∧ k ≠ g) v xs := by
 obtain ⟨A0, c0, hb, hg, hr0⟩ := h; exact Kd.R_types ho hb ht
theorem IsS96.own_ne {w0 W : World} {g : Nat} {f0 : List Int} {f1 : Int} {α : Type} {d : Kd α} {e : Nat} {base : Nat} {ok : Nat → Prop} {v : Value} {xs : List α} (h : IsS96 w0 W g f0 f1) (ho : d.R e W base ok v xs) (ht : e ≠ 96) : some g ≠ v.ownBlock := by
 obtain ⟨A0, c0, hb, hg, hr0⟩ := h; exact Kd.R_ne ho hb ht
theorem IsS96.apartQ {w0 W : World} {g : Nat} {f0 : List Int} {f1 : Int} {α : Type} {d : Kd α} {e : Nat} {base : Nat} {ok : Nat → Prop} {v : Value} {xs : List α} (h : IsS96 w0 W g f0 f1) (ho : d.Q e W base ok v xs) (ht : ∀ q, q ∈ e :: d.E → q ≠ 96) : d.Q e W base (fun k => ok k ∧ k ≠ g) v xs := by
 obtain ⟨A0, c0, hb, hg, hr0⟩ := h; exact Kd.Q_types ho hb ht
theorem IsS96.own_neQ {w0 W : World} {g : Nat} {f0 : List Int} {f1 : Int} {α : Type} {d : Kd α} {e : Nat} {base : Nat} {ok : Nat → Prop} {v : Value} {xs : List α} (h : IsS96 w0 W g f0 f1) (ho : d.Q e W base ok v xs) (ht : e ≠ 96) : some g ≠ v.ownBlock := by
 obtain ⟨A0, c0, hb, hg, hr0⟩ := h; exact Kd.Q_ne ho hb ht
theorem IsS96.apartS {w0 W : World} {g : Nat} {f0 : List Int} {f1 : Int} {α : Type} {d : Kd α} {e : Nat} {base : Nat} {ok : Nat → Prop} {v : Value} {xs : List α} (h : IsS96 w0 W g f0 f1) (ho : d.S e W base ok v xs) (ht : ∀ q, q ∈ e :: d.E → q ≠ 96) : d.S e W base (fun k => ok k ∧ k ≠ g) v xs := by
 obtain ⟨A0, c0, hb, hg, hr0⟩ := h; exact Kd.S_types ho hb ht
theorem IsS96.own_neS {w0 W : World} {g : Nat} {f0 : List Int} {f1 : Int} {α : Type} {d : Kd α} {e : Nat} {base : Nat} {ok : Nat → Prop} {v : Value} {xs : List α} (h : IsS96 w0 W g f0 f1) (ho : d.S e W base ok v xs) (ht : e ≠ 96) : some g ≠ v.ownBlock := by
 obtain ⟨A0, c0, hb, hg, hr0⟩ := h; exact Kd.S_ne ho hb ht
theorem IsS96.lt {w0 W : World} {g : Nat} {f0 : List Int} {f1 : Int} (h : IsS96 w0 W g f0 f1) : g < W.heap.size := by
 obtain ⟨A0, c0, hb, hg, hr0⟩ := h; exact blk_lt hb
theorem IsS96.ge {w0 W : World} {g : Nat} {f0 : List Int} {f1 : Int} (h : IsS96 w0 W g f0 f1) : w0.heap.size ≤ g := by
 obtain ⟨A0, c0, hb, hg, hr0⟩ := h; exact hg
theorem IsS96.ne_blk {w0 W : World} {g : Nat} {f0 : List Int} {f1 : Int} {a : Nat} {cs : Array Value} {t : TypeId} {fr : Nat × Nat} (h : IsS96 w0 W g f0 f1) (hb2 : W.heap[a]? = some (.cells cs t fr)) (ht : t ≠ 96) : g ≠ a := by
 obtain ⟨A0, c0, hb, hg, hr0⟩ := h; rintro rfl; rw [hb] at hb2
 injection hb2 with hb2
 injection hb2 with _ ht2
 exact ht ht2.symm
theorem IsS96.far {w0 W : World} {g : Nat} {f0 : List Int} {f1 : Int} {p : Addr} (h : IsS96 w0 W g f0 f1) (hne : g ≠ p.block) (u : Value) : IsS96 w0 (W.setCell p u) g f0 f1 := by
 obtain ⟨A0, c0, hb, hg, hr0⟩ := h; exact ⟨A0, c0, blk_far hb hne u, hg, hr0⟩
theorem cellS96_0 {W : World} {g : Nat} {A0 : Option Addr} {c0 : Nat} {f0 : List Int} {f1 : Int} (h : W.heap[g]? = some (.cells #[.slice A0 f0.length c0, .int .i64 f1] 96 (0, 0))) : W.cell? ⟨g, 0, none⟩ = some (.slice A0 f0.length c0) := (blk_cell h 0).trans rfl
theorem cellS96_1 {W : World} {g : Nat} {A0 : Option Addr} {c0 : Nat} {f0 : List Int} {f1 : Int} (h : W.heap[g]? = some (.cells #[.slice A0 f0.length c0, .int .i64 f1] 96 (0, 0))) : W.cell? ⟨g, 1, none⟩ = some (.int .i64 f1) := (blk_cell h 1).trans rfl
theorem IsS96.set_1 {w0 W : World} {g : Nat} {f0 : List Int} {f1 : Int} (h : IsS96 w0 W g f0 f1) (x : Int) : IsS96 w0 (W.setCell ⟨g, 1, none⟩ (.int .i64 x)) g f0 x := by
 obtain ⟨A0, c0, hb, hg, hr0⟩ := h; exact ⟨A0, c0, by simpa using blk_set hb 1 (.int .i64 x), hg, hr0⟩
theorem IsS96.new (w0 W : World) (A0 : Option Addr) (c0 : Nat) (f0 : List Int) (f1 : Int) (hB : Below w0.heap.size w0 W) (hr0 : (f0.length ≤ c0 ∧ Kd.C (Kd.int .u8) w0 A0 f0.length f0)) : IsS96 w0 (W.alloc (.cells #[.slice A0 f0.length c0, .int .i64 f1] 96)) W.heap.size f0 f1 := ⟨A0, c0, by simpa using heap_alloc_new W _, hB.size, hr0⟩

/-! ### coin_NewPurse: function 29 -/
def coin_NewPurse.f (l0 : List Int) : Option (List Int × Int) := some (l0, 0)
theorem coin_NewPurse.calls (A0 : Option Addr) (c0 : Nat) (l0 : List Int) (r1 : List Int) (r2 : Int) (w0 w : World) (hB : Below w0.heap.size w0 w) (hr0 : Kd.C (Kd.int .u8) w0 A0 l0.length l0) (hc0 : l0.length ≤ c0) (h : coin_NewPurse.f l0 = some (r1, r2)) :
 Calls Try.prog 29 #[.slice A0 l0.length c0] w fun e w' => ∃ g_ : Nat, e = .returned (.pointer (some ⟨g_, 0, none⟩)) ∧ IsS96 w0 w' g_ r1 r2 ∧ Below w0.heap.size w0 w' ∧ Below w.heap.size w w' := by
 unfold coin_NewPurse.f at h
 simp only [Option.some.injEq, Prod.mk.injEq] at h
 obtain ⟨rfl, rfl⟩ := h; have HB := Ad hB; have HC := Ad hr0; have HL := Ad hc0; clear hB hr0 hc0
 go_enter Try.func29, Try.ntmps29
 go_wp2; go_ret; exact ⟨_, rfl, IsS96.new w0 w A0 c0 l0 0 HB.out ⟨HL.out, HC.out⟩, below_alloc HB.out _, below_alloc (Below.refl _ _) _⟩

/-! ### bits_Len64: function 58 -/
def bits_Len64.j0 : Nat → Int → Int → Option (Int)
 | 0, _, _ => none
 | k + 1, x0, x2 => if x0 ≥ 65536 then (if (x0 / 65536) ≥ 256 then (if 0 ≤ (((x0 / 65536) / 256) % 256) then (if (((x0 / 65536) / 256) % 256) < 256 then (some (wrap64 ((wrap64 ((wrap64 (x2 + 16)) + 8)) + (wrap64 (bt T8 (((x0 / 65536) / 256) % 256)))))) else (none)) else (none)) else (if 0 ≤ ((x0 / 65536) % 256) then (if ((x0 / 65536) % 256) < 256 then (some (wrap64 ((wrap64 (x2 + 16)) + (wrap64 (bt T8 ((x0 / 65536) % 256)))))) else (none)) else (none))) else (if x0 ≥ 256 then (if 0 ≤ ((x0 / 256) % 256) then (if ((x0 / 256) % 256) < 256 then (some (wrap64 ((wrap64 (x2 + 8)) + (wrap64 (bt T8 ((x0 / 256) % 256)))))) else (none)) else (none)) else (if 0 ≤ ((x0) % 256) then (if ((x0) % 256) < 256 then (some (wrap64 (x2 + (wrap64 (bt T8 ((x0) % 256)))))) else (none)) else (none)))
def bits_Len64.f (k : Nat) (a0 : Int) : Option (Int) := if a0 ≥ 4294967296 then (bits_Len64.j0 k (a0 / 4294967296) 32) else (bits_Len64.j0 k a0 0)
theorem bits_Len64.mono_l : ∀ k, (∀ y0 y1, LeO (bits_Len64.j0 k y0 y1) (bits_Len64.j0 (k + 1) y0 y1))
 | 0 => fun _ _ r h => by simp [bits_Len64.j0] at h
 | k + 1 => by
  have ih0 := bits_Len64.mono_l k
  · intro y0 y1
    unfold bits_Len64.j0
    repeat' first
    | (with_reducible exact ih0 ..)
    | (with_reducible exact LeO.refl ..)
    | (with_reducible exact LeO.none ..)
    | (with_reducible refine LeO.ite ?_ ?_)
    | (with_reducible refine LeO.bind ?_ (fun _ => ?_))
theorem bits_Len64.mono : ∀ a0 k, LeO (bits_Len64.f k a0) (bits_Len64.f (k + 1) a0) := by
 intro a0 k; have ih0 := bits_Len64.mono_l k
 unfold bits_Len64.f
 repeat' first
  | (with_reducible exact ih0 ..)
  | (with_reducible exact LeO.refl ..)
  | (with_reducible exact LeO.none ..)
  | (with_reducible refine LeO.ite ?_ ?_)
  | (with_reducible refine LeO.bind ?_ (fun _ => ?_))
theorem bits_Len64.calls (k : Nat) (a0 : Int) (r : Int) (w : World) (h : bits_Len64.f k a0 = some r) :
 Calls Try.prog 58 #[.int .u64 a0] w fun e w' => e = .returned (.int .i64 r) ∧ Drawn0 w w' := by
 have H : (if a0 ≥ 4294967296 then (bits_Len64.j0 k (a0 / 4294967296) 32) else (bits_Len64.j0 k a0 0)) = some r := h; clear h; have HC2 := Ad H; clear H
 go_enter Try.func58, Try.ntmps58
 go_upto_if 4 with (fail)
 go_cut [0, 2] (fun v0 v2 wc => ∃ (kq : Nat) (x0_1 : Int) (x2_1 : Int), v0 = .int .u64 x0_1 ∧ v2 = .int .i64 x2_1 ∧ Aside0 (bits_Len64.j0 kq x0_1 x2_1 = some r) ∧ Aside0 (kq ≤ k) ∧ Drawn0 w wc)
 case first =>
  have H := HC2.out; clear HC2
  by_cases c3 : a0 ≥ 4294967296
  · rw [if_pos c3] at H
    have c3b0 : decide (4294967296 ≤ a0) = true := decide_eq_true c3; clear c3
    (first | rw [c3b0] | skip)
    have H' := Ad H; clear H; go_wp2; go_meet
    case rel => exact ⟨_, (a0 / 4294967296), (32), (by first | rfl | (refine qa_int ?_; simp <;> omega)), (by first | rfl | (refine qa_int ?_; simp <;> omega)), H', ⟨by first | omega⟩, by repeat (first | exact Drawn0.refl _)⟩
  · rw [if_neg c3] at H
    have c3b0 : decide (4294967296 ≤ a0) = false := decide_eq_false c3; clear c3
    (first | rw [c3b0] | skip)
    have H' := Ad H; clear H; go_wp2; go_meet
    case rel => exact ⟨_, (a0), (0), (by first | rfl | (refine qa_int ?_; simp <;> omega)), (by first | rfl | (refine qa_int ?_; simp <;> omega)), H', ⟨by first | omega⟩, by repeat (first | exact Drawn0.refl _)⟩
 case rest =>
  clear HC2
  try clear p2
  try clear c3
  try clear c3b0
  obtain ⟨kq, x0_1, x2_1, rfl, rfl, HA, HJ1, ⟨mc1, rfl⟩⟩ := hcut
  cases kq with
  | zero => exact absurd HA.out (by simp [bits_Len64.j0])
  | succ kj1 =>
   have H := HA.out; clear HA
   simp only [bits_Len64.j0] at H
   by_cases c4 : x0_1 ≥ 65536
   · rw [if_pos c4] at H
     have c4b0 : decide (65536 ≤ x0_1) = true := decide_eq_true c4; clear c4
     by_cases c5 : (x0_1 / 65536) ≥ 256
     · rw [if_pos c5] at H
       have c5b0 : decide (256 ≤ (x0_1 / 65536)) = true := decide_eq_true c5; clear c5
       obtain ⟨ji6, hji6⟩ : ∃ j_ : Int, (((x0_1 / 65536) / 256) % 256) = j_ := ⟨_, rfl⟩
       replace H : (if 0 ≤ (ji6) then (if (ji6) < 256 then (some (wrap64 ((wrap64 ((wrap64 (x2_1 + 16)) + 8)) + (wrap64 (bt T8 (ji6)))))) else (none)) else (none)) = some r := by first | (rw [hji6] at H; exact H)
       by_cases c7 : 0 ≤ (ji6)
       · rw [if_pos c7] at H
         have c7b0 : decide (0 ≤ (ji6)) = true := decide_eq_true c7; clear c7
         by_cases c8 : (ji6) < 256
         · rw [if_pos c8] at H
           have c8b0 : decide ((ji6) < 256) = true := decide_eq_true c8; clear c8; obtain rfl := Option.some.inj H
           simp only [Option.some.injEq, Prod.mk.injEq] at H
           obtain ⟨rfl⟩ := H; have p9 : 0 ≤ ((ji6) : Int) := of_decide_eq_true (by first | (with_reducible assumption)); have q9 : (ji6) < (256 : Int) := of_decide_eq_true (by first | (with_reducible assumption)); have hx9 := bt_at T8 (ji6); replace p9 := eq_true p9; replace q9 := eq_true q9; go_wp2; go_ret; exact ⟨by first | rfl | (refine qa_int ?_; simp <;> omega), by repeat (first | exact Drawn0.refl _ | apply Drawn0.step)⟩
         · rw [if_neg c8] at H; exact absurd H (by simp)
       · rw [if_neg c7] at H; exact absurd H (by simp)
     · rw [if_neg c5] at H
       have c5b0 : decide (256 ≤ (x0_1 / 65536)) = false := decide_eq_false c5; clear c5
       obtain ⟨ji10, hji10⟩ : ∃ j_ : Int, ((x0_1 / 65536) % 256) = j_ := ⟨_, rfl⟩
       replace H : (if 0 ≤ (ji10) then (if (ji10) < 256 then (some (wrap64 ((wrap64 (x2_1 + 16)) + (wrap64 (bt T8 (ji10)))))) else (none)) else (none)) = some r := by first | (rw [hji10] at H; exact H)
       by_cases c11 : 0 ≤ (ji10)
       · rw [if_pos c11] at H
         have c11b0 : decide (0 ≤ (ji10)) = true := decide_eq_true c11; clear c11
         by_cases c12 : (ji10) < 256
         · rw [if_pos c12] at H
           have c12b0 : decide ((ji10) < 256) = true := decide_eq_true c12; clear c12; obtain rfl := Option.some.inj H
           simp only [Option.some.injEq, Prod.mk.injEq] at H
           obtain ⟨rfl⟩ := H; have p13 : 0 ≤ ((ji10) : Int) := of_decide_eq_true (by first | (with_reducible assumption)); have q13 : (ji10) < (256 : Int) := of_decide_eq_true (by first | (with_reducible assumption)); have hx13 := bt_at T8 (ji10); replace p13 := eq_true p13; replace q13 := eq_true q13; go_wp2; go_ret; exact ⟨by first | rfl | (refine qa_int ?_; simp <;> omega), by repeat (first | exact Drawn0.refl _ | apply Drawn0.step)⟩
         · rw [if_neg c12] at H; exact absurd H (by simp)
       · rw [if_neg c11] at H; exact absurd H (by simp)
   · rw [if_neg c4] at H
     have c4b0 : decide (65536 ≤ x0_1) = false := decide_eq_false c4; clear c4
     by_cases c14 : x0_1 ≥ 256
     · rw [if_pos c14] at H
       have c14b0 : decide (256 ≤ x0_1) = true := decide_eq_true c14; clear c14
       obtain ⟨ji15, hji15⟩ : ∃ j_ : Int, ((x0_1 / 256) % 256) = j_ := ⟨_, rfl⟩
       replace H : (if 0 ≤ (ji15) then (if (ji15) < 256 then (some (wrap64 ((wrap64 (x2_1 + 8)) + (wrap64 (bt T8 (ji15)))))) else (none)) else (none)) = some r := by first | (rw [hji15] at H; exact H)
       by_cases c16 : 0 ≤ (ji15)
       · rw [if_pos c16] at H
         have c16b0 : decide (0 ≤ (ji15)) = true := decide_eq_true c16; clear c16
         by_cases c17 : (ji15) < 256
         · rw [if_pos c17] at H
           have c17b0 : decide ((ji15) < 256) = true := decide_eq_true c17; clear c17; obtain rfl := Option.some.inj H
           simp only [Option.some.injEq, Prod.mk.injEq] at H
           obtain ⟨rfl⟩ := H; have p18 : 0 ≤ ((ji15) : Int) := of_decide_eq_true (by first | (with_reducible assumption)); have q18 : (ji15) < (256 : Int) := of_decide_eq_true (by first | (with_reducible assumption)); have hx18 := bt_at T8 (ji15); replace p18 := eq_true p18; replace q18 := eq_true q18; go_wp2; go_ret; exact ⟨by first | rfl | (refine qa_int ?_; simp <;> omega), by repeat (first | exact Drawn0.refl _ | apply Drawn0.step)⟩
         · rw [if_neg c17] at H; exact absurd H (by simp)
       · rw [if_neg c16] at H; exact absurd H (by simp)
     · rw [if_neg c14] at H
       have c14b0 : decide (256 ≤ x0_1) = false := decide_eq_false c14; clear c14
       obtain ⟨ji19, hji19⟩ : ∃ j_ : Int, ((x0_1) % 256) = j_ := ⟨_, rfl⟩
       replace H : (if 0 ≤ (ji19) then (if (ji19) < 256 then (some (wrap64 (x2_1 + (wrap64 (bt T8 (ji19)))))) else (none)) else (none)) = some r := by first | (rw [hji19] at H; exact H)
       by_cases c20 : 0 ≤ (ji19)
       · rw [if_pos c20] at H
         have c20b0 : decide (0 ≤ (ji19)) = true := decide_eq_true c20; clear c20
         by_cases c21 : (ji19) < 256
         · rw [if_pos c21] at H
           have c21b0 : decide ((ji19) < 256) = true := decide_eq_true c21; clear c21; obtain rfl := Option.some.inj H
           simp only [Option.some.injEq, Prod.mk.injEq] at H
           obtain ⟨rfl⟩ := H; have p22 : 0 ≤ ((ji19) : Int) := of_decide_eq_true (by first | (with_reducible assumption)); have q22 : (ji19) < (256 : Int) := of_decide_eq_true (by first | (with_reducible assumption)); have hx22 := bt_at T8 (ji19); replace p22 := eq_true p22; replace q22 := eq_true q22; go_wp2; go_ret; exact ⟨by first | rfl | (refine qa_int ?_; simp <;> omega), by repeat (first | exact Drawn0.refl _ | apply Drawn0.step)⟩
         · rw [if_neg c21] at H; exact absurd H (by simp)
       · rw [if_neg c20] at H; exact absurd H (by simp)

/-! ### coin_Size: function 50 -/
def coin_Size.f (k : Nat) (a0 : Int) : Option (Int) := (bits_Len64.f k a0).bind fun t263 => (some (mn (mx (wrap64 (Int.tdiv (wrap64 (t263 + 6)) 7)) 1) 9))
theorem coin_Size.mono : ∀ a0 k, LeO (coin_Size.f k a0) (coin_Size.f (k + 1) a0) := by
 intro a0 k
 unfold coin_Size.f
 repeat' first
  | (with_reducible exact bits_Len64.mono ..)
  | (with_reducible exact LeO.refl ..)
  | (with_reducible exact LeO.none ..)
  | (with_reducible refine LeO.ite ?_ ?_)
  | (with_reducible refine LeO.bind ?_ (fun _ => ?_))
theorem coin_Size.calls (k : Nat) (a0 : Int) (r : Int) (w : World) (h : coin_Size.f k a0 = some r) :
 Calls Try.prog 50 #[.int .u64 a0] w fun e w' => e = .returned (.int .i64 r) ∧ Below w.heap.size w w' := by
 have HB := Ad (Below.refl w.heap.size w); have H : ((bits_Len64.f k a0).bind fun t263 => (some (mn (mx (wrap64 (Int.tdiv (wrap64 (t263 + 6)) 7)) 1) 9))) = some r := h; clear h; replace H := Option.bind_eq_some_iff.mp H; obtain ⟨t263, A20, H⟩ := H; replace H : (some (mn (mx (wrap64 (Int.tdiv (wrap64 (t263 + 6)) 7)) 1) 9)) = some r := H; have A2 := Ad A20; clear A20
 obtain ⟨ji3, hji3⟩ : ∃ j_ : Int, (mx (wrap64 (Int.tdiv (wrap64 (t263 + 6)) 7)) 1) = j_ := ⟨_, rfl⟩
 replace H : (some (mn (ji3) 9)) = some r := by first | (rw [hji3] at H; exact H)
 (try rw [hji3] at A2)
 (try (have hji3l : 1 ≤ ji3 := by (rw [← hji3]; unfold mx; (repeat' split) <;> omega)))
 (try (have hji3m : 0 ≤ ji3 := by omega))
 have hji3_ : (if (wrap64 (Int.tdiv (wrap64 (t263 + 6)) 7)) < 1 then 1 else (wrap64 (Int.tdiv (wrap64 (t263 + 6)) 7))) = ji3 := hji3
 obtain ⟨ji4, hji4⟩ : ∃ j_ : Int, (mn (ji3) 9) = j_ := ⟨_, rfl⟩
 replace H : (some ji4) = some r := by first | (rw [hji4] at H; exact H)
 (try rw [hji4] at A2)
 have hji4_ : (if 9 < (ji3) then 9 else (ji3)) = ji4 := hji4; obtain rfl := Option.some.inj H
 simp only [Option.some.injEq, Prod.mk.injEq] at H
 obtain ⟨rfl⟩ := H
 go_enter Try.func50, Try.ntmps50
 go_wp2_with (first | ((with_reducible refine gate_callee (f := 58) rfl ?_); refine goesL_ (some 5) rfl rfl Try.func58 (by kernel_rfl) rfl #[.int .u64 a0] rfl (by (try simp only [List.map_toArray, List.map_cons, List.map_nil]); first | rfl | (refine qa_arr ?_; (repeat' (first | rfl | refine qa_cons ?_ ?_ | refine qa_int ?_ | refine qa_agg ?_ | refine qa_arr ?_ | omega)); done)) ?_; (with_reducible refine (bits_Len64.calls k a0 t263 _ A2.out).mono ?_); rintro e w' ⟨rfl, ⟨nd, rfl⟩⟩; refine ⟨_, rfl, ?_⟩))
 go_ret; exact ⟨by first | rfl | (simp [*, errW_none, errW_some] <;> rfl), by repeat (first | (with_reducible first | exact HB.out | apply pw_below_drewN))⟩

/-! ### bits_Len8: function 61 -/
def bits_Len8.f (a0 : Int) : Option (Int) := if 0 ≤ a0 then (if a0 < 256 then (some (wrap64 (bt T8 a0))) else (none)) else (none)
theorem bits_Len8.calls (a0 : Int) (r : Int) (w : World) (h : bits_Len8.f a0 = some r) :
 Calls Try.prog 61 #[.int .u8 a0] w fun e w' => e = .returned (.int .i64 r) ∧ Drawn0 w w' := by
 have H : (if 0 ≤ a0 then (if a0 < 256 then (some (wrap64 (bt T8 a0))) else (none)) else (none)) = some r := h; clear h
 by_cases c2 : 0 ≤ a0
 · rw [if_pos c2] at H
   have c2b0 : decide (0 ≤ a0) = true := decide_eq_true c2; clear c2
   by_cases c3 : a0 < 256
   · rw [if_pos c3] at H
     have c3b0 : decide (a0 < 256) = true := decide_eq_true c3; clear c3; obtain rfl := Option.some.inj H
     simp only [Option.some.injEq, Prod.mk.injEq] at H
     obtain ⟨rfl⟩ := H; have p4 : 0 ≤ (a0 : Int) := of_decide_eq_true (by first | (with_reducible assumption)); have q4 : a0 < (256 : Int) := of_decide_eq_true (by first | (with_reducible assumption)); have hx4 := bt_at T8 a0; replace p4 := eq_true p4; replace q4 := eq_true q4
     go_enter Try.func61, Try.ntmps61
     go_wp2; go_ret; exact ⟨by first | rfl | (refine qa_int ?_; simp <;> omega), by repeat (first | exact Drawn0.refl _)⟩
   · rw [if_neg c3] at H; exact absurd H (by simp)
 · rw [if_neg c2] at H; exact absurd H (by simp)

/-! ### bits_LeadingZeros8: function 55 -/
def bits_LeadingZeros8.f (a0 : Int) : Option (Int) := (bits_Len8.f a0).bind fun t264 => (some (wrap64 (8 - t264)))
theorem bits_LeadingZeros8.calls (a0 : Int) (r : Int) (w : World) (h : bits_LeadingZeros8.f a0 = some r) :
 Calls Try.prog 55 #[.int .u8 a0] w fun e w' => e = .returned (.int .i64 r) ∧ Drawn0 w w' := by
 have H : ((bits_Len8.f a0).bind fun t264 => (some (wrap64 (8 - t264)))) = some r := h; clear h; replace H := Option.bind_eq_some_iff.mp H; obtain ⟨t264, A20, H⟩ := H; replace H : (some (wrap64 (8 - t264))) = some r := H; have A2 := Ad A20; clear A20; obtain rfl := Option.some.inj H
 simp only [Option.some.injEq, Prod.mk.injEq] at H
 obtain ⟨rfl⟩ := H
 go_enter Try.func55, Try.ntmps55
 go_wp2_with (first | ((with_reducible refine gate_callee (f := 61) rfl ?_); refine goesL_ (some 4) rfl rfl Try.func61 (by kernel_rfl) rfl #[.int .u8 a0] rfl (by (try simp only [List.map_toArray, List.map_cons, List.map_nil]); first | rfl | (refine qa_arr ?_; (repeat' (first | rfl | refine qa_cons ?_ ?_ | refine qa_int ?_ | refine qa_agg ?_ | refine qa_arr ?_ | omega)); done)) ?_; (with_reducible refine (bits_Len8.calls a0 t264 _ A2.out).mono ?_); rintro e w' ⟨rfl, ⟨nd, rfl⟩⟩; refine ⟨_, rfl, ?_⟩))
 go_ret; exact ⟨by first | rfl | (refine qa_int ?_; simp <;> omega), by repeat (first | exact Drawn0.refl _ | apply Drawn0.step)⟩

/-! ### coin_Get: function 45 -/
mutual
def coin_Get.j0 : Nat → List Int → Int → Int → Option (Int × Int × Int)
 | 0, _, _, _ => none
 | k + 1, x0, x5, x6 => if 1 ≤ x5 then (if x5 ≤ (x0.length : Int) then (coin_Get.l0 k x5 x6 ((x0.take (x5 : Int).toNat).drop 1) (((x0.take (x5 : Int).toNat).drop 1).length : Int) 0) else (none)) else (none)
def coin_Get.l0 : Nat → Int → Int → List Int → Int → Int → Option (Int × Int × Int)
 | 0, _, _, _, _, _ => none
 | k + 1, x5, x6, x33, x34, x35 => if x35 < x34 then (if 0 ≤ x35 then (if x35 < (x33.length : Int) then (coin_Get.l0 k x5 (Go.bits .or .u64 (IntKind.u64.wrap (x6 * 256)) (IntKind.u64.wrap (rd x33 x35))) x33 x34 (wrap64 (x35 + 1))) else (none)) else (none)) else ((coin_Size.f k x6).bind fun t270 => (if t270 = x5 then (some (x6, x5, 0)) else (some (0, 0, 4))))
end
def coin_Get.f (k : Nat) (l0 : List Int) : Option (Int × Int × Int) := if (l0.length : Int) = 0 then (some (0, 0, 5)) else (if 0 < (l0.length : Int) then ((bits_LeadingZeros8.f (Go.bits .xor .u8 IntKind.u8.max (rd l0 0))).bind fun t266 => (if (l0.length : Int) < (wrap64 (t266 + 1)) then (some (0, 0, 5)) else (if (wrap64 (t266 + 1)) < 9 then (if 0 ≤ (wrap64 (t266 + 1)) then (coin_Get.j0 k l0 (wrap64 (t266 + 1)) (IntKind.u64.wrap (Go.bits .and .u8 (rd l0 0) (shr .u8 255 (wrap64 (t266 + 1)))))) else (none)) else (coin_Get.j0 k l0 (wrap64 (t266 + 1)) 0)))) else (none))
theorem coin_Get.mono_l : ∀ k, (∀ y0 y1 y2, LeO (coin_Get.j0 k y0 y1 y2) (coin_Get.j0 (k + 1) y0 y1 y2)) ∧ (∀ y0 y1 y2 y3 y4, LeO (coin_Get.l0 k y0 y1 y2 y3 y4) (coin_Get.l0 (k + 1) y0 y1 y2 y3 y4))
 | 0 => ⟨fun _ _ _ r h => by simp [coin_Get.j0] at h, fun _ _ _ _ _ r h => by simp [coin_Get.l0] at h⟩
 | k + 1 => by
  obtain ⟨ih0, ih1⟩ := coin_Get.mono_l k; refine ⟨?_, ?_⟩
  · intro y0 y1 y2
    unfold coin_Get.j0
    repeat' first
    | (with_reducible exact ih0 ..)
    | (with_reducible exact ih1 ..)
    | (with_reducible exact coin_Size.mono ..)
    | (with_reducible exact LeO.refl ..)
    | (with_reducible exact LeO.none ..)
    | (with_reducible refine LeO.ite ?_ ?_)
    | (with_reducible refine LeO.bind ?_ (fun _ => ?_))
  · intro y0 y1 y2 y3 y4
    unfold coin_Get.l0
    repeat' first
    | (with_reducible exact ih0 ..)
    | (with_reducible exact ih1 ..)
    | (with_reducible exact coin_Size.mono ..)
    | (with_reducible exact LeO.refl ..)
    | (with_reducible exact LeO.none ..)
    | (with_reducible refine LeO.ite ?_ ?_)
    | (with_reducible refine LeO.bind ?_ (fun _ => ?_))
theorem coin_Get.mono : ∀ a0 k, LeO (coin_Get.f k a0) (coin_Get.f (k + 1) a0) := by
 intro a0 k; obtain ⟨ih0, ih1⟩ := coin_Get.mono_l k
 unfold coin_Get.f
 repeat' first
  | (with_reducible exact ih0 ..)
  | (with_reducible exact ih1 ..)
  | (with_reducible exact coin_Size.mono ..)
  | (with_reducible exact LeO.refl ..)
  | (with_reducible exact LeO.none ..)
  | (with_reducible refine LeO.ite ?_ ?_)
  | (with_reducible refine LeO.bind ?_ (fun _ => ?_))
theorem coin_Get.calls (k : Nat) (A0 : Option Addr) (c0 : Nat) (l0 : List Int) (r1 : Int) (r2 : Int) (r3 : Int) (w : World) (hr0 : Kd.C (Kd.int .u8) w A0 l0.length l0) (hc0 : l0.length ≤ c0) (h : coin_Get.f k l0 = some (r1, r2, r3)) :
 Calls Try.prog 45 #[.slice A0 l0.length c0] w fun e w' => e = .returned (.tuple #[.int .u64 r1, .int .i64 r2, .int .i64 r3]) ∧ Below w.heap.size w w' := by
 have HR0 := Ad hr0; have HC0 := Ad hc0; clear hr0 hc0; have HB := Ad (Below.refl w.heap.size w); have H : (if (l0.length : Int) = 0 then (some (0, 0, 5)) else (if 0 < (l0.length : Int) then ((bits_LeadingZeros8.f (Go.bits .xor .u8 IntKind.u8.max (rd l0 0))).bind fun t266 => (if (l0.length : Int) < (wrap64 (t266 + 1)) then (some (0, 0, 5)) else (if (wrap64 (t266 + 1)) < 9 then (if 0 ≤ (wrap64 (t266 + 1)) then (coin_Get.j0 k l0 (wrap64 (t266 + 1)) (IntKind.u64.wrap (Go.bits .and .u8 (rd l0 0) (shr .u8 255 (wrap64 (t266 + 1)))))) else (none)) else (coin_Get.j0 k l0 (wrap64 (t266 + 1)) 0)))) else (none))) = some (r1, r2, r3) := h; clear h
 by_cases c2 : (l0.length : Int) = 0
 · rw [if_pos c2] at H
   have c2b0 : ((l0.length : Int) == 0) = true := beq_iff_eq.mpr c2; have c2b1 : ((l0.length : Int) != 0) = false := bne_eq_false_iff_eq.mpr c2; clear c2
   simp only [Option.some.injEq, Prod.mk.injEq] at H
   obtain ⟨rfl, rfl, rfl⟩ := H
   go_enter Try.func45, Try.ntmps45
   go_wp2
   repeat (go_quiet (fail); try go_wp2)
   go_ret3
   exact ⟨by first | rfl | (simp [*, errW_none, errW_some] <;> rfl), by repeat (first | (with_reducible first | exact HB.out | apply below_drew1))⟩
 · rw [if_neg c2] at H
   have c2b0 : ((l0.length : Int) == 0) = false := beq_eq_false_iff_ne.mpr c2; have c2b1 : ((l0.length : Int) != 0) = true := bne_iff_ne.mpr c2
   have c2b2 : ¬ (l0 = []) := fun h_ => c2 (by rw [h_]; rfl)
   by_cases c3 : 0 < (l0.length : Int)
   · rw [if_pos c3] at H
     have c3b0 : decide (0 < (l0.length : Int)) = true := decide_eq_true c3; have c3b1 : decide (0 < l0.length) = true := decide_eq_true (by omega); clear c3; replace H := Option.bind_eq_some_iff.mp H; obtain ⟨t266, A40, H⟩ := H; replace H : (if (l0.length : Int) < (wrap64 (t266 + 1)) then (some (0, 0, 5)) else (if (wrap64 (t266 + 1)) < 9 then (if 0 ≤ (wrap64 (t266 + 1)) then (coin_Get.j0 k l0 (wrap64 (t266 + 1)) (IntKind.u64.wrap (Go.bits .and .u8 (rd l0 0) (shr .u8 255 (wrap64 (t266 + 1)))))) else (none)) else (coin_Get.j0 k l0 (wrap64 (t266 + 1)) 0))) = some (r1, r2, r3) := H; have A4 := Ad A40; clear A40
     by_cases c5 : (l0.length : Int) < (wrap64 (t266 + 1))
     · rw [if_pos c5] at H
       have c5b0 : decide ((l0.length : Int) < (wrap64 (t266 + 1))) = true := decide_eq_true c5; clear c5
       simp only [Option.some.injEq, Prod.mk.injEq] at H
       obtain ⟨rfl, rfl, rfl⟩ := H; have p265 : 0 ≤ (0 : Int) := (by omega); have q265 : 0 < (l0.length : Int) := of_decide_eq_true (by first | (with_reducible assumption)); obtain ⟨ad265, e265, hx265_0⟩ := Kd.at_int HR0.out 0 p265 q265; cases e265; have qi265 : (0 < l0.length) = True := eq_true (by omega)
       (try rw [show ((0 : Int)).toNat = 0 from rfl] at hx265_0)
       (try rw [Addr.add_zero'] at hx265_0)
       replace p265 := eq_true p265; replace q265 := eq_true q265
       go_enter Try.func45, Try.ntmps45
       go_wp2_with (first | (go_at_call 55; (with_reducible refine (bits_LeadingZeros8.calls (Go.bits .xor .u8 IntKind.u8.max (rd l0 0)) t266 _ A4.out).mono ?_); rintro e w' ⟨rfl, ⟨nd, rfl⟩⟩; (try first | exact ⟨rfl, _, World.drewN_drewN _ _ _⟩ | exact ⟨rfl, _, Eq.trans (World.drewN_drewN _ _ _) (congrArg (World.drewN _) (Nat.add_assoc _ _ _))⟩)))
       repeat (go_quiet (first | (go_at_call 55; (with_reducible refine (bits_LeadingZeros8.calls (Go.bits .xor .u8 IntKind.u8.max (rd l0 0)) t266 _ A4.out).mono ?_); rintro e w' ⟨rfl, ⟨nd, rfl⟩⟩; (try first | exact ⟨rfl, _, World.drewN_drewN _ _ _⟩ | exact ⟨rfl, _, Eq.trans (World.drewN_drewN _ _ _) (congrArg (World.drewN _) (Nat.add_assoc _ _ _))⟩)) | (go_at_call 55; (refine calls_of_args (args' := #[.int .u8 (Go.bits .xor .u8 IntKind.u8.max (rd l0 0))]) ?_ ?_; focus (first | rfl | (simp; done) | (refine qa_arr ?_; (repeat' (first | rfl | refine qa_cons ?_ ?_ | refine qa_int ?_ | refine qa_agg ?_ | refine qa_arr ?_ | omega)); done)); (with_reducible refine (bits_LeadingZeros8.calls (Go.bits .xor .u8 IntKind.u8.max (rd l0 0)) t266 _ A4.out).mono ?_)); rintro e w' ⟨rfl, ⟨nd, rfl⟩⟩; (try first | exact ⟨rfl, _, World.drewN_drewN _ _ _⟩ | exact ⟨rfl, _, Eq.trans (World.drewN_drewN _ _ _) (congrArg (World.drewN _) (Nat.add_assoc _ _ _))⟩))); try go_wp2_with (first | (go_at_call 55; (with_reducible refine (bits_LeadingZeros8.calls (Go.bits .xor .u8 IntKind.u8.max (rd l0 0)) t266 _ A4.out).mono ?_); rintro e w' ⟨rfl, ⟨nd, rfl⟩⟩; (try first | exact ⟨rfl, _, World.drewN_drewN _ _ _⟩ | exact ⟨rfl, _, Eq.trans (World.drewN_drewN _ _ _) (congrArg (World.drewN _) (Nat.add_assoc _ _ _))⟩)) | (go_at_call 55; (refine calls_of_args (args' := #[.int .u8 (Go.bits .xor .u8 IntKind.u8.max (rd l0 0))]) ?_ ?_; focus (first | rfl | (simp; done) | (refine qa_arr ?_; (repeat' (first | rfl | refine qa_cons ?_ ?_ | refine qa_int ?_ | refine qa_agg ?_ | refine qa_arr ?_ | omega)); done)); (with_reducible refine (bits_LeadingZeros8.calls (Go.bits .xor .u8 IntKind.u8.max (rd l0 0)) t266 _ A4.out).mono ?_)); rintro e w' ⟨rfl, ⟨nd, rfl⟩⟩; (try first | exact ⟨rfl, _, World.drewN_drewN _ _ _⟩ | exact ⟨rfl, _, Eq.trans (World.drewN_drewN _ _ _) (congrArg (World.drewN _) (Nat.add_assoc _ _ _))⟩))))
       go_ret3
       exact ⟨by first | rfl | (simp [*, errW_none, errW_some] <;> rfl), by repeat (first | (with_reducible first | exact HB.out | apply pw_below_drewN))⟩
     · rw [if_neg c5] at H
       have c5b0 : decide ((l0.length : Int) < (wrap64 (t266 + 1))) = false := decide_eq_false c5; clear c5; have HC6 := Ad H; clear H; have p265 : 0 ≤ (0 : Int) := (by omega); have q265 : 0 < (l0.length : Int) := of_decide_eq_true (by first | (with_reducible assumption)); obtain ⟨ad265, e265, hx265_0⟩ := Kd.at_int HR0.out 0 p265 q265; cases e265; have qi265 : (0 < l0.length) = True := eq_true (by omega)
       (try rw [show ((0 : Int)).toNat = 0 from rfl] at hx265_0)
       (try rw [Addr.add_zero'] at hx265_0)
       replace p265 := eq_true p265; replace q265 := eq_true q265
       go_enter Try.func45, Try.ntmps45
       go_upto_if 23 with (first | (go_at_call 55; (first | (with_reducible refine (bits_LeadingZeros8.calls (Go.bits .xor .u8 IntKind.u8.max (rd l0 0)) t266 _ A4.out).mono ?_)); rintro e w' ⟨rfl, ⟨nd, rfl⟩⟩; (try first | exact ⟨rfl, _, World.drewN_drewN _ _ _⟩ | exact ⟨rfl, _, Eq.trans (World.drewN_drewN _ _ _) (congrArg (World.drewN _) (Nat.add_assoc _ _ _))⟩)))
       repeat (go_quiet (first | (go_at_call 55; (first | (with_reducible refine (bits_LeadingZeros8.calls (Go.bits .xor .u8 IntKind.u8.max (rd l0 0)) t266 _ A4.out).mono ?_) | (refine calls_of_args (args' := #[.int .u8 (Go.bits .xor .u8 IntKind.u8.max (rd l0 0))]) ?_ ?_; focus (first | rfl | (simp; done) | (refine qa_arr ?_; (repeat' (first | rfl | refine qa_cons ?_ ?_ | refine qa_int ?_ | refine qa_agg ?_ | refine qa_arr ?_ | omega)); done)); (with_reducible refine (bits_LeadingZeros8.calls (Go.bits .xor .u8 IntKind.u8.max (rd l0 0)) t266 _ A4.out).mono ?_))); rintro e w' ⟨rfl, ⟨nd, rfl⟩⟩; (try first | exact ⟨rfl, _, World.drewN_drewN _ _ _⟩ | exact ⟨rfl, _, Eq.trans (World.drewN_drewN _ _ _) (congrArg (World.drewN _) (Nat.add_assoc _ _ _))⟩))); go_upto_if 23 with (first | (go_at_call 55; (first | (with_reducible refine (bits_LeadingZeros8.calls (Go.bits .xor .u8 IntKind.u8.max (rd l0 0)) t266 _ A4.out).mono ?_) | (refine calls_of_args (args' := #[.int .u8 (Go.bits .xor .u8 IntKind.u8.max (rd l0 0))]) ?_ ?_; focus (first | rfl | (simp; done) | (refine qa_arr ?_; (repeat' (first | rfl | refine qa_cons ?_ ?_ | refine qa_int ?_ | refine qa_agg ?_ | refine qa_arr ?_ | omega)); done)); (with_reducible refine (bits_LeadingZeros8.calls (Go.bits .xor .u8 IntKind.u8.max (rd l0 0)) t266 _ A4.out).mono ?_))); rintro e w' ⟨rfl, ⟨nd, rfl⟩⟩; (try first | exact ⟨rfl, _, World.drewN_drewN _ _ _⟩ | exact ⟨rfl, _, Eq.trans (World.drewN_drewN _ _ _) (congrArg (World.drewN _) (Nat.add_assoc _ _ _))⟩))))
       (try simp only [Act.put, la0, la1, la2])
       go_cut [6] (fun v6 wc => ∃ (kq : Nat) (x6_5 : Int), v6 = .int .u64 x6_5 ∧ Aside0 (coin_Get.j0 kq l0 (wrap64 (t266 + 1)) x6_5 = some (r1, r2, r3)) ∧ Aside0 (kq ≤ k) ∧ Aside0 (Below w.heap.size w wc))
       case first =>
        have H := HC6.out; clear HC6
        by_cases c7 : (wrap64 (t266 + 1)) < 9
        · rw [if_pos c7] at H
          have c7b0 : decide ((wrap64 (t266 + 1)) < 9) = true := decide_eq_true c7; clear c7
          (first | rw [c7b0] | skip)
          obtain ⟨ji8, hji8⟩ : ∃ j_ : Int, (wrap64 (t266 + 1)) = j_ := ⟨_, rfl⟩
          replace H : (if 0 ≤ (ji8) then (coin_Get.j0 k l0 ji8 (IntKind.u64.wrap (Go.bits .and .u8 (rd l0 0) (shr .u8 255 (ji8))))) else (none)) = some (r1, r2, r3) := by first | (rw [hji8] at H; exact H)
          (try rw [hji8] at c5b0)
          (try rw [hji8] at c7b0)
          have hji8w : (IntKind.i64.wrap (t266 + 1)) = ji8 := (i64_w _).trans hji8
          by_cases c9 : 0 ≤ (ji8)
          · rw [if_pos c9] at H
            have c9b0 := eq_true c9; have c9b1 : decide (0 ≤ (ji8)) = true := decide_eq_true c9; clear c9
            obtain ⟨ji10, hji10⟩ : ∃ j_ : Int, (shr .u8 255 (ji8)) = j_ := ⟨_, rfl⟩
            replace H : (coin_Get.j0 k l0 ji8 (IntKind.u64.wrap (Go.bits .and .u8 (rd l0 0) (ji10)))) = some (r1, r2, r3) := by first | (rw [hji10] at H; exact H)
            have hji10_ : (255 / 2 ^ min (ji8).toNat 8) = ji10 := hji10; have hji10z : (ji8) ≤ 8 → (255 / 2 ^ (ji8).toNat) = ji10 := shr_small hji10
            (try (have hji10y : 0 ≤ (ji8) := by omega))
            have H' := Ad H; clear H; have p267 : 0 ≤ (0 : Int) := (by omega); have q267 : 0 < (l0.length : Int) := of_decide_eq_true (by first | (with_reducible assumption)); obtain ⟨ad267, e267, hx267_0⟩ := Kd.at_int HR0.out 0 p267 q267; obtain rfl : ad265 = ad267 := (by injection e267); have qi267 : (0 < l0.length) = True := eq_true (by omega)
            (try rw [show ((0 : Int)).toNat = 0 from rfl] at hx267_0)
            (try rw [Addr.add_zero'] at hx267_0)
            replace hx267_0 := (HB.out.cell (World.block_lt_of_cell? w _ hx267_0)).trans hx267_0; replace p267 := eq_true p267; replace q267 := eq_true q267; go_wp2
            repeat (go_quiet (fail); try go_wp2)
            (try simp only [← hji8] at H' ⊢)
            go_meet
            case rel => exact ⟨_, (IntKind.u64.wrap (Go.bits .and .u8 (rd l0 0) (ji10))), (by first | rfl | (refine qa_int ?_; simp <;> omega)), H', ⟨by first | omega⟩, ⟨by repeat (first | (with_reducible first | exact HB.out | apply pw_below_drewN))⟩⟩
          · rw [if_neg c9] at H; exact absurd H (by simp)
        · rw [if_neg c7] at H
          have c7b0 : decide ((wrap64 (t266 + 1)) < 9) = false := decide_eq_false c7; clear c7
          (first | rw [c7b0] | skip)
          have H' := Ad H; clear H; go_wp2
          repeat (go_quiet (fail); try go_wp2)
          go_meet
          case rel => exact ⟨_, (0), (by first | rfl | (refine qa_int ?_; simp <;> omega)), H', ⟨by first | omega⟩, ⟨by repeat (first | (with_reducible first | exact HB.out | apply pw_below_drewN))⟩⟩
       case rest =>
        clear HC6
        try clear c2
        try clear c2b0
        try clear c2b1
        try clear c2b2
        try clear p2
        try clear q2
        try clear hx2
        try clear qi2
        try clear c3
        try clear c3b0
        try clear c3b1
        try clear c4
        try clear c5
        try clear c5b0
        try clear p6
        try clear c7
        try clear c7b0
        try clear c9
        try clear c9b0
        try clear c9b1
        try clear hx265_0
        try clear hx267_0
        try clear p265
        try clear p267
        try clear q265
        try clear q267
        obtain ⟨kq, x6_5, rfl, HA, HJ5, HB⟩ := hcut
        cases kq with
        | zero => exact absurd HA.out (by simp [coin_Get.j0])
        | succ kj5 =>
         have H := HA.out; clear HA
         simp only [coin_Get.j0] at H
         by_cases c11 : 1 ≤ (wrap64 (t266 + 1))
         · rw [if_pos c11] at H
           have c11b0 := eq_true c11; have c11b1 : decide (1 ≤ (wrap64 (t266 + 1))) = true := decide_eq_true c11
           by_cases c12 : (wrap64 (t266 + 1)) ≤ (l0.length : Int)
           · rw [if_pos c12] at H
             have c12b0 := eq_true c12; have c12b1 : decide ((wrap64 (t266 + 1)) ≤ (l0.length : Int)) = true := decide_eq_true c12; have H' := Ad H; clear H; obtain ⟨i013, hi013, _, hsz13, _⟩ := info_parts info5; obtain ⟨A13, hcut13, hA13, hC13⟩ := print_mid_of (P := Try.prog) (Value.int .u8) 0 59 5 .i64 .i64 Try.underlying59 hi013 hsz13 (some ad265) c0 l0 1 (wrap64 (t266 + 1)) (by omega) (by first | omega) (of_decide_eq_true (by first | (with_reducible assumption))) HC0.out; have HR268 := Ad (Kd.C_of_reads (h1 := fun _ => rfl) (hA13 _ (Kd.reads_of_C HR0.out))); have HC268 := Ad hC13; clear hA13 hC13 hi013 hsz13; have hSL13 := Ad (show ((l0.take ((wrap64 (t266 + 1)) : Int).toNat).drop 1).length = ((wrap64 (t266 + 1)).toNat - 1) from (by rw [List.length_drop, List.length_take]; have h_ : ((wrap64 (t266 + 1)) : Int) ≤ (l0.length : Int) := of_decide_eq_true (by first | (with_reducible assumption)); omega)); go_wp2
             repeat (go_quiet (fail); try go_wp2)
             go_loopg [6, 35] kj5 (fun kq v6 v35 w' => ∃ (x6_2 : Int) (x35_2 : Int), v6 = .int .u64 x6_2 ∧ v35 = .int .i64 x35_2 ∧ Aside0 (coin_Get.l0 kq (wrap64 (t266 + 1)) x6_2 ((l0.take ((wrap64 (t266 + 1)) : Int).toNat).drop 1) (((l0.take ((wrap64 (t266 + 1)) : Int).toNat).drop 1).length : Int) x35_2 = some (r1, r2, r3)) ∧ Aside0 (kq ≤ kj5) ∧ Aside0 (Below w.heap.size w w'))
             case atStart => exact ⟨(x6_5), (0), (by first | rfl | (refine qa_int ?_; simp <;> omega)), (by first | rfl | (refine qa_int ?_; simp <;> omega)), H', ⟨Nat.le_refl _⟩, ⟨by repeat (first | (with_reducible first | exact HB.out | apply below_drew1))⟩⟩
             case round =>
              clear H'
              try clear c1
              try clear c2
              try clear c2b0
              try clear c2b1
              try clear c2b2
              try clear p2
              try clear q2
              try clear hx2
              try clear qi2
              try clear c3
              try clear c3b0
              try clear c3b1
              try clear c4
              try clear c5
              try clear c5b0
              try clear p6
              try clear c7
              try clear c7b0
              try clear c9
              try clear c9b0
              try clear c9b1
              try clear c11
              try clear c11b0
              try clear c11b1
              try clear c12
              try clear c12b0
              try clear c12b1
              try clear hx265_0
              try clear hx267_0
              try clear p2
              try clear p265
              try clear p267
              try clear p6
              try clear q2
              try clear q265
              try clear q267
              obtain ⟨x6_2, x35_2, rfl, rfl, HA, HK2, HB⟩ := hrel
              cases gk with
              | zero => exact absurd HA.out (by simp [coin_Get.l0])
              | succ k2 =>
               have H := HA.out; clear HA
               simp only [coin_Get.l0] at H
               by_cases c14 : x35_2 < (((l0.take ((wrap64 (t266 + 1)) : Int).toNat).drop 1).length : Int)
               · rw [if_pos c14] at H
                 have c14b0 : decide (x35_2 < (((l0.take ((wrap64 (t266 + 1)) : Int).toNat).drop 1).length : Int)) = true := decide_eq_true c14
                 (try (have c14b0s0 := c14b0; rw [show ((l0.take ((wrap64 (t266 + 1)) : Int).toNat).drop 1).length = ((wrap64 (t266 + 1)).toNat - 1) from hSL13.out] at c14b0s0))
                 clear c14
                 by_cases c15 : 0 ≤ x35_2
                 · rw [if_pos c15] at H
                   have c15b0 : decide (0 ≤ x35_2) = true := decide_eq_true c15; clear c15
                   by_cases c16 : x35_2 < (((l0.take ((wrap64 (t266 + 1)) : Int).toNat).drop 1).length : Int)
                   · rw [if_pos c16] at H
                     have c16b0 : decide (x35_2 < (((l0.take ((wrap64 (t266 + 1)) : Int).toNat).drop 1).length : Int)) = true := decide_eq_true c16
                     (try (have c16b0s0 := c16b0; rw [show ((l0.take ((wrap64 (t266 + 1)) : Int).toNat).drop 1).length = ((wrap64 (t266 + 1)).toNat - 1) from hSL13.out] at c16b0s0))
                     clear c16; have H' := Ad H; clear H; have p269 : 0 ≤ (x35_2 : Int) := of_decide_eq_true (by first | (with_reducible assumption)); have q269 : x35_2 < (((l0.take ((wrap64 (t266 + 1)) : Int).toNat).drop 1).length : Int) := of_decide_eq_true (by first | (with_reducible assumption)); obtain ⟨ad269, e269, hx269_0⟩ := Kd.at_int HR268.out x35_2 p269 q269; cases e269; replace hx269_0 := (HB.out.cell (World.block_lt_of_cell? w _ hx269_0)).trans hx269_0; replace p269 := eq_true p269; replace q269 := eq_true q269
                     (try (have q269s := q269; rw [hSL13.out] at q269s))
                     go_wp2
                     repeat (go_quiet (fail); try go_wp2)
                     go_roundg k2
                     case measure => have := HJ5.out; have := HK2.out; omega
                     case rel => exact ⟨(Go.bits .or .u64 (IntKind.u64.wrap (x6_2 * 256)) (IntKind.u64.wrap (rd ((l0.take ((wrap64 (t266 + 1)) : Int).toNat).drop 1) x35_2))), (wrap64 (x35_2 + 1)), (by first | (simp; done) | (refine qa_int ?_; simp <;> omega)), (by first | rfl | (refine qa_int ?_; simp <;> omega)), H', ⟨by have := HJ5.out; have := HK2.out; omega⟩, ⟨by repeat (first | (with_reducible first | exact HB.out | apply below_drew1))⟩⟩
                   · rw [if_neg c16] at H; exact absurd H (by simp)
                 · rw [if_neg c15] at H; exact absurd H (by simp)
               · rw [if_neg c14] at H
                 have c14b0 : decide (x35_2 < (((l0.take ((wrap64 (t266 + 1)) : Int).toNat).drop 1).length : Int)) = false := decide_eq_false c14
                 (try (have c14b0s0 := c14b0; rw [show ((l0.take ((wrap64 (t266 + 1)) : Int).toNat).drop 1).length = ((wrap64 (t266 + 1)).toNat - 1) from hSL13.out] at c14b0s0))
                 clear c14; replace H := Option.bind_eq_some_iff.mp H; obtain ⟨t270, A170, H⟩ := H; replace H : (if t270 = (wrap64 (t266 + 1)) then (some (x6_2, (wrap64 (t266 + 1)), 0)) else (some (0, 0, 4))) = some (r1, r2, r3) := H; have A17 := Ad A170; clear A170
                 by_cases c18 : t270 = (wrap64 (t266 + 1))
                 · rw [if_pos c18] at H
                   have c18b0 : (t270 == (wrap64 (t266 + 1))) = true := beq_iff_eq.mpr c18; have c18b1 : (t270 != (wrap64 (t266 + 1))) = false := bne_eq_false_iff_eq.mpr c18; clear c18
                   simp only [Option.some.injEq, Prod.mk.injEq] at H
                   obtain ⟨rfl, rfl, rfl⟩ := H
                   go_wp2_with (first | (go_at_call 50; (with_reducible refine (coin_Size.calls k2 x6_2 t270 _ A17.out).mono ?_); rintro e w19 ⟨rfl, hb⟩; replace HB := Ad (below_step (by repeat (first | (with_reducible first | exact HB.out | apply below_drew1))) hb); (try clear hb); (try clear hb2); (try clear hk); (try clear hi)))
                   repeat (go_quiet (first | (go_at_call 50; (with_reducible refine (coin_Size.calls k2 x6_2 t270 _ A17.out).mono ?_); rintro e w19 ⟨rfl, hb⟩; replace HB := Ad (below_step (by repeat (first | (with_reducible first | exact HB.out | apply below_alloc | apply pw_below_drewN | apply below_drew1) | exact HB.out)) hb); (try clear hb); (try clear hb2); (try clear hk); (try clear hi)) | (go_at_call 50; (refine calls_of_args (args' := #[.int .u64 x6_2]) ?_ ?_; focus (first | rfl | (simp; done) | (refine qa_arr ?_; (repeat' (first | rfl | refine qa_cons ?_ ?_ | refine qa_int ?_ | refine qa_agg ?_ | refine qa_arr ?_ | omega)); done)); (with_reducible refine (coin_Size.calls k2 x6_2 t270 _ A17.out).mono ?_)); rintro e w19 ⟨rfl, hb⟩; replace HB := Ad (below_step (by repeat (first | (with_reducible first | exact HB.out | apply below_alloc | apply pw_below_drewN | apply below_drew1) | exact HB.out)) hb); (try clear hb); (try clear hb2); (try clear hk); (try clear hi))); try go_wp2_with (first | (go_at_call 50; (with_reducible refine (coin_Size.calls k2 x6_2 t270 _ A17.out).mono ?_); rintro e w19 ⟨rfl, hb⟩; replace HB := Ad (below_step (by repeat (first | (with_reducible first | exact HB.out | apply below_alloc | apply pw_below_drewN | apply below_drew1) | exact HB.out)) hb); (try clear hb); (try clear hb2); (try clear hk); (try clear hi)) | (go_at_call 50; (refine calls_of_args (args' := #[.int .u64 x6_2]) ?_ ?_; focus (first | rfl | (simp; done) | (refine qa_arr ?_; (repeat' (first | rfl | refine qa_cons ?_ ?_ | refine qa_int ?_ | refine qa_agg ?_ | refine qa_arr ?_ | omega)); done)); (with_reducible refine (coin_Size.calls k2 x6_2 t270 _ A17.out).mono ?_)); rintro e w19 ⟨rfl, hb⟩; replace HB := Ad (below_step (by repeat (first | (with_reducible first | exact HB.out | apply below_alloc | apply pw_below_drewN | apply below_drew1) | exact HB.out)) hb); (try clear hb); (try clear hb2); (try clear hk); (try clear hi))))
                   go_ret3
                   exact ⟨by first | rfl | (simp [*, errW_none, errW_some] <;> rfl), by repeat (first | (with_reducible first | exact HB.out | apply below_drew1))⟩
                 · rw [if_neg c18] at H
                   have c18b0 : (t270 == (wrap64 (t266 + 1))) = false := beq_eq_false_iff_ne.mpr c18; have c18b1 : (t270 != (wrap64 (t266 + 1))) = true := bne_iff_ne.mpr c18
                   simp only [Option.some.injEq, Prod.mk.injEq] at H
                   obtain ⟨rfl, rfl, rfl⟩ := H
                   go_wp2_with (first | (go_at_call 50; (with_reducible refine (coin_Size.calls k2 x6_2 t270 _ A17.out).mono ?_); rintro e w20 ⟨rfl, hb⟩; replace HB := Ad (below_step (by repeat (first | (with_reducible first | exact HB.out | apply below_drew1))) hb); (try clear hb); (try clear hb2); (try clear hk); (try clear hi)))
                   repeat (go_quiet (first | (go_at_call 50; (with_reducible refine (coin_Size.calls k2 x6_2 t270 _ A17.out).mono ?_); rintro e w20 ⟨rfl, hb⟩; replace HB := Ad (below_step (by repeat (first | (with_reducible first | exact HB.out | apply below_alloc | apply pw_below_drewN | apply below_drew1) | exact HB.out)) hb); (try clear hb); (try clear hb2); (try clear hk); (try clear hi)) | (go_at_call 50; (refine calls_of_args (args' := #[.int .u64 x6_2]) ?_ ?_; focus (first | rfl | (simp; done) | (refine qa_arr ?_; (repeat' (first | rfl | refine qa_cons ?_ ?_ | refine qa_int ?_ | refine qa_agg ?_ | refine qa_arr ?_ | omega)); done)); (with_reducible refine (coin_Size.calls k2 x6_2 t270 _ A17.out).mono ?_)); rintro e w20 ⟨rfl, hb⟩; replace HB := Ad (below_step (by repeat (first | (with_reducible first | exact HB.out | apply below_alloc | apply pw_below_drewN | apply below_drew1) | exact HB.out)) hb); (try clear hb); (try clear hb2); (try clear hk); (try clear hi))); try go_wp2_with (first | (go_at_call 50; (with_reducible refine (coin_Size.calls k2 x6_2 t270 _ A17.out).mono ?_); rintro e w20 ⟨rfl, hb⟩; replace HB := Ad (below_step (by repeat (first | (with_reducible first | exact HB.out | apply below_alloc | apply pw_below_drewN | apply below_drew1) | exact HB.out)) hb); (try clear hb); (try clear hb2); (try clear hk); (try clear hi)) | (go_at_call 50; (refine calls_of_args (args' := #[.int .u64 x6_2]) ?_ ?_; focus (first | rfl | (simp; done) | (refine qa_arr ?_; (repeat' (first | rfl | refine qa_cons ?_ ?_ | refine qa_int ?_ | refine qa_agg ?_ | refine qa_arr ?_ | omega)); done)); (with_reducible refine (coin_Size.calls k2 x6_2 t270 _ A17.out).mono ?_)); rintro e w20 ⟨rfl, hb⟩; replace HB := Ad (below_step (by repeat (first | (with_reducible first | exact HB.out | apply below_alloc | apply pw_below_drewN | apply below_drew1) | exact HB.out)) hb); (try clear hb); (try clear hb2); (try clear hk); (try clear hi))))
                   go_ret3
                   exact ⟨by first | rfl | (simp [*, errW_none, errW_some] <;> rfl), by repeat (first | (with_reducible first | exact HB.out | apply below_drew1))⟩
           · rw [if_neg c12] at H; exact absurd H (by simp)
         · rw [if_neg c11] at H; exact absurd H (by simp)
   · rw [if_neg c3] at H; exact absurd H (by simp)

end Go.Proofs.Ytmkjgiejnlmncaa.QTableBytes
