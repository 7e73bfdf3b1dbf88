-- Lines by a program of this session, for this claim.
import Derived.Test.YtmkjgiejnlmncaaQTableBytesx0
import Derived.Test.YtmkjgiejnlmncaaQTableBytesx12
namespace Go.Proofs.Ytmkjgiejnlmncaa.QTableBytes
open Go.RowKit Go.Proofs.YtmkjgiejnlmncaaW.PrintWords Go.Proofs.YtmkjgiejnlmncaaW.PrintLast Go.Proofs.YtmkjgiejnlmncaaW.PrintMore
attribute [local go_sem] max2_int min2_int max_two min_two max_three min_three max_four min_four   -- for this text's walks alone
set_option linter.unusedVariables false
set_option linter.unusedSimpArgs false

/-! ### coin_Put: function 35 -/
mutual
def coin_Put.j0 : Nat → List Int → Int → Int → Option (List Int)
 | 0, _, _, _ => none
 | k + 1, x0, x1, x5 => coin_Put.l0 k x0 x1 (wrap64 (x5 - 2))
def coin_Put.l0 : Nat → List Int → Int → Int → Option (List Int)
 | 0, _, _, _ => none
 | k + 1, x0, x1, x7 => if x7 ≥ 0 then (if 0 ≤ (wrap64 (8 * x7)) then (if x0.length < 140737488355328 then (coin_Put.l0 k (x0 ++ [(shr .u64 x1 (wrap64 (8 * x7))) % 256]) x1 (wrap64 (x7 - 1))) else (none)) else (none)) else (some x0)
end
def coin_Put.f (k : Nat) (l0 : List Int) (a1 : Int) : Option (List Int) := (coin_Size.f k a1).bind fun t271 => (if t271 = 9 then (if l0.length < 140737488355328 then (coin_Put.j0 k (l0 ++ [255]) a1 t271) else (none)) else (if 0 ≤ (wrap64 (9 - t271)) then (if 0 ≤ (wrap64 (8 * (wrap64 (t271 - 1)))) then (if l0.length < 140737488355328 then (coin_Put.j0 k (l0 ++ [Go.bits .or .u8 (shl .u8 255 (wrap64 (9 - t271))) ((shr .u64 a1 (wrap64 (8 * (wrap64 (t271 - 1))))) % 256)]) a1 t271) else (none)) else (none)) else (none)))
theorem coin_Put.mono_l : ∀ k, (∀ y0 y1 y2, LeO (coin_Put.j0 k y0 y1 y2) (coin_Put.j0 (k + 1) y0 y1 y2)) ∧ (∀ y0 y1 y2, LeO (coin_Put.l0 k y0 y1 y2) (coin_Put.l0 (k + 1) y0 y1 y2))
 | 0 => ⟨fun _ _ _ r h => by simp [coin_Put.j0] at h, fun _ _ _ r h => by simp [coin_Put.l0] at h⟩
 | k + 1 => by
  obtain ⟨ih0, ih1⟩ := coin_Put.mono_l k; refine ⟨?_, ?_⟩
  · intro y0 y1 y2
    unfold coin_Put.j0
    repeat' first
    | (with_reducible exact ih0 ..)
    | (with_reducible exact ih1 ..)
    | (with_reducible exact coin_Size.mono ..)
    | (with_reducible exact LeO.refl ..)
    | (with_reducible exact LeO.none ..)
    | (with_reducible refine LeO.ite ?_ ?_)
    | (with_reducible refine LeO.bind ?_ (fun _ => ?_))
  · intro y0 y1 y2
    unfold coin_Put.l0
    repeat' first
    | (with_reducible exact ih0 ..)
    | (with_reducible exact ih1 ..)
    | (with_reducible exact coin_Size.mono ..)
    | (with_reducible exact LeO.refl ..)
    | (with_reducible exact LeO.none ..)
    | (with_reducible refine LeO.ite ?_ ?_)
    | (with_reducible refine LeO.bind ?_ (fun _ => ?_))
theorem coin_Put.mono : ∀ a0 a1 k, LeO (coin_Put.f k a0 a1) (coin_Put.f (k + 1) a0 a1) := by
 intro a0 a1 k; obtain ⟨ih0, ih1⟩ := coin_Put.mono_l k
 unfold coin_Put.f
 repeat' first
  | (with_reducible exact ih0 ..)
  | (with_reducible exact ih1 ..)
  | (with_reducible exact coin_Size.mono ..)
  | (with_reducible exact LeO.refl ..)
  | (with_reducible exact LeO.none ..)
  | (with_reducible refine LeO.ite ?_ ?_)
  | (with_reducible refine LeO.bind ?_ (fun _ => ?_))
set_option maxHeartbeats 8000000 in
set_option maxRecDepth 100000 in
theorem coin_Put.calls (k : Nat) (P0_ : Nat → Prop) (u9000_ : Value) (l0 : List Int) (a1 : Int) (r : List Int) (w0 w : World) (hB : Below w0.heap.size w0 w) (ho0 : Kd.R (Kd.int .u8) 5 w w0.heap.size P0_ u9000_ l0) (h : coin_Put.f k l0 a1 = some r) :
 Calls Try.prog 35 #[u9000_, .int .u64 a1] w fun e w' => ∃ v0_ : Value, e = .returned (v0_) ∧ Kd.R (Kd.int .u8) 5 w' w0.heap.size (fun k_ => (P0_ k_ ∨ w.heap.size ≤ k_)) v0_ r ∧ Below w0.heap.size w0 w' ∧ Kept w w' (fun k_ => P0_ k_) := by
 have HO0 := Ad (show Kd.R (Kd.int .u8) 5 w w0.heap.size (fun k_ => (P0_ k_ ∨ w.heap.size ≤ k_)) u9000_ l0 from Kd.R_mono ho0 (fun k_ hk => (.inl hk))); have HK := Ad (Kept.refl w (fun k_ => P0_ k_)); have HW0 := Ad hB.size; have HB := Ad hB; clear hB; have H : ((coin_Size.f k a1).bind fun t271 => (if t271 = 9 then (if l0.length < 140737488355328 then (coin_Put.j0 k (l0 ++ [255]) a1 t271) else (none)) else (if 0 ≤ (wrap64 (9 - t271)) then (if 0 ≤ (wrap64 (8 * (wrap64 (t271 - 1)))) then (if l0.length < 140737488355328 then (coin_Put.j0 k (l0 ++ [Go.bits .or .u8 (shl .u8 255 (wrap64 (9 - t271))) ((shr .u64 a1 (wrap64 (8 * (wrap64 (t271 - 1))))) % 256)]) a1 t271) else (none)) else (none)) else (none)))) = some r := h; clear h; replace H := Option.bind_eq_some_iff.mp H; obtain ⟨t271, A30, H⟩ := H; replace H : (if t271 = 9 then (if l0.length < 140737488355328 then (coin_Put.j0 k (l0 ++ [255]) a1 t271) else (none)) else (if 0 ≤ (wrap64 (9 - t271)) then (if 0 ≤ (wrap64 (8 * (wrap64 (t271 - 1)))) then (if l0.length < 140737488355328 then (coin_Put.j0 k (l0 ++ [Go.bits .or .u8 (shl .u8 255 (wrap64 (9 - t271))) ((shr .u64 a1 (wrap64 (8 * (wrap64 (t271 - 1))))) % 256)]) a1 t271) else (none)) else (none)) else (none))) = some r := H; have A3 := Ad A30; clear A30; have HC4 := Ad H; clear H
 go_enter Try.func35, Try.ntmps35
 go_upto_if 11 with (first | ((with_reducible refine gate_callee (f := 50) rfl ?_); refine goesL_ (some 9) rfl rfl Try.func50 (by kernel_rfl) rfl #[.int .u64 a1] rfl (by (try simp only [List.map_toArray, List.map_cons, List.map_nil]); first | rfl | (refine qa_arr ?_; (repeat' (first | rfl | refine qa_cons ?_ ?_ | refine qa_int ?_ | refine qa_agg ?_ | refine qa_arr ?_ | omega)); done)) ?_; (with_reducible refine (coin_Size.calls k a1 t271 _ A3.out).mono ?_); rintro e w5 ⟨rfl, hb⟩; refine ⟨_, rfl, ?_⟩; replace HO0 := Ad (Kd.R_below (by exact HO0.out) hb); replace HK := Ad (Kept.below (S := (fun k_ => P0_ k_)) (by repeat (first | (with_reducible first | exact HK.out | apply Kept.drew))) hb); replace HB := Ad (below_step (by repeat (first | (with_reducible first | exact HB.out | apply below_drew1))) hb); (try clear hb); (try clear hb2); (try clear hk); (try clear hi)))
 (try simp only [Act.put, la0, la1, la2])
 go_cut [0] (fun v0 wc => ∃ (kq : Nat) (x0_3 : List Int), Aside0 (coin_Put.j0 kq x0_3 a1 t271 = some r) ∧ Aside0 (kq ≤ k) ∧ Aside0 (Kd.R (Kd.int .u8) 5 wc w0.heap.size (fun k_ => (P0_ k_ ∨ w.heap.size ≤ k_)) v0 x0_3) ∧ Aside0 (Kept w wc (fun k_ => P0_ k_)) ∧ Aside0 (Below w0.heap.size w0 wc))
 case first =>
  have H := HC4.out; clear HC4
  by_cases c6 : t271 = 9
  · rw [if_pos c6] at H
    have c6b0 : (t271 == 9) = true := beq_iff_eq.mpr c6; have c6b1 : (t271 != 9) = false := bne_eq_false_iff_eq.mpr c6; clear c6
    (first | rw [c6b0] | skip)
    by_cases c7 : l0.length < 140737488355328
    · rw [if_pos c7] at H
      have LMc7 := Ad c7; clear c7
      obtain ⟨y272, hy272⟩ : ∃ y_ : List Int, y_ = (l0 ++ [255]) := ⟨_, rfl⟩
      replace H : (coin_Put.j0 k y272 a1 t271) = some r := by first | (rw [hy272]; with_reducible exact H) | exact H
      have Ny272 := Ad hy272; clear hy272; have H' := Ad H; clear H
      go_wp2_with (first | ((with_reducible refine gate_builtin (b := .append) (xs := #[.tmp 12, .tmp 13]) rfl ?_); at_builtin; refine Kd.R_append (Kd.int .u8) (w0 := w0) w0.heap.size rfl (.tmp 12) (.tmp 13) 59 5 (.int .u8 0) 1 rfl Try.underlying59 info5 rfl (by decide) (by omega) u9000_ l0 255 [.int .u8 255] (fun k_ => (P0_ k_ ∨ w.heap.size ≤ k_)) (fun _ => False) rfl rfl ?aP (fun _ hk => hk.elim) ?aF ?aO ?aB ?aS ?aL ?_; (case aP => exact rfl); (case aB => exact (by repeat (first | (with_reducible first | exact HB.out | apply below_drew1)))); (case aF => exact (fun k_ hk => (.inr (Nat.le_trans (by first | exact HK.out.1) hk)))); (case aO => exact (by exact HO0.out)); (case aS => exact (below_size (by repeat (first | (with_reducible first | exact HB.out | apply below_drew1))))); (case aL => have := LMc7.out; omega); intro v273 w8 ho hb hg hat; rw [← Ny272.out] at ho; replace HB := Ad (hb); replace HK := Ad (Kept.of_grown (S := (fun k_ => P0_ k_)) hg (by repeat (first | (with_reducible first | exact HK.out | apply Kept.drew))) (fun k_ e_ => (HO0.out.1 k_ e_))); have HO274 := Ad (ho); clear HO0; clear ho hb hg hat))
      go_meet
      case rel => exact ⟨_, (y272), H', ⟨by first | omega⟩, ⟨by exact HO274.out⟩, ⟨by repeat (first | (with_reducible first | exact HK.out | apply Kept.drew))⟩, ⟨by repeat (first | (with_reducible first | exact HB.out | apply below_drew1))⟩⟩
    · rw [if_neg c7] at H; exact absurd H (by simp)
  · rw [if_neg c6] at H
    have c6b0 : (t271 == 9) = false := beq_eq_false_iff_ne.mpr c6; have c6b1 : (t271 != 9) = true := bne_iff_ne.mpr c6
    (first | rw [c6b0] | skip)
    obtain ⟨ji9, hji9⟩ : ∃ j_ : Int, (wrap64 (9 - t271)) = j_ := ⟨_, rfl⟩
    replace H : (if 0 ≤ (ji9) then (if 0 ≤ (wrap64 (8 * (wrap64 (t271 - 1)))) then (if l0.length < 140737488355328 then (coin_Put.j0 k (l0 ++ [Go.bits .or .u8 (shl .u8 255 (ji9)) ((shr .u64 a1 (wrap64 (8 * (wrap64 (t271 - 1))))) % 256)]) a1 t271) else (none)) else (none)) else (none)) = some r := by first | (rw [hji9] at H; exact H)
    have hji9w : (IntKind.i64.wrap (9 - t271)) = ji9 := (i64_w _).trans hji9
    by_cases c10 : 0 ≤ (ji9)
    · rw [if_pos c10] at H
      have c10b0 := eq_true c10; have c10b1 : decide (0 ≤ (ji9)) = true := decide_eq_true c10; clear c10
      obtain ⟨ji11, hji11⟩ : ∃ j_ : Int, (shl .u8 255 (ji9)) = j_ := ⟨_, rfl⟩
      replace H : (if 0 ≤ (wrap64 (8 * (wrap64 (t271 - 1)))) then (if l0.length < 140737488355328 then (coin_Put.j0 k (l0 ++ [Go.bits .or .u8 (ji11) ((shr .u64 a1 (wrap64 (8 * (wrap64 (t271 - 1))))) % 256)]) a1 t271) else (none)) else (none)) = some r := by first | (rw [hji11] at H; exact H)
      have hji11_ : (IntKind.u8.wrap (255 * 2 ^ min (ji9).toNat 8)) = ji11 := hji11; have hji11z : (ji9) ≤ 8 → (IntKind.u8.wrap (255 * 2 ^ (ji9).toNat)) = ji11 := shl_small hji11
      (try (have hji11y : 0 ≤ (ji9) := by omega))
      obtain ⟨ji12, hji12⟩ : ∃ j_ : Int, (wrap64 (8 * (wrap64 (t271 - 1)))) = j_ := ⟨_, rfl⟩
      replace H : (if 0 ≤ (ji12) then (if l0.length < 140737488355328 then (coin_Put.j0 k (l0 ++ [Go.bits .or .u8 (ji11) ((shr .u64 a1 (ji12)) % 256)]) a1 t271) else (none)) else (none)) = some r := by first | (rw [hji12] at H; exact H)
      have hji12w : (IntKind.i64.wrap (8 * (wrap64 (t271 - 1)))) = ji12 := (i64_w _).trans hji12
      by_cases c13 : 0 ≤ (ji12)
      · rw [if_pos c13] at H
        have c13b0 := eq_true c13; have c13b1 : decide (0 ≤ (ji12)) = true := decide_eq_true c13; clear c13
        obtain ⟨ji14, hji14⟩ : ∃ j_ : Int, (shr .u64 a1 (ji12)) = j_ := ⟨_, rfl⟩
        replace H : (if l0.length < 140737488355328 then (coin_Put.j0 k (l0 ++ [Go.bits .or .u8 (ji11) ((ji14) % 256)]) a1 t271) else (none)) = some r := by first | (rw [hji14] at H; exact H)
        have hji14_ : (a1 / 2 ^ min (ji12).toNat 64) = ji14 := hji14; have hji14z : (ji12) ≤ 64 → (a1 / 2 ^ (ji12).toNat) = ji14 := shr_small hji14
        (try (have hji14y : 0 ≤ (ji12) := by omega))
        by_cases c15 : l0.length < 140737488355328
        · rw [if_pos c15] at H
          have LMc15 := Ad c15; clear c15
          obtain ⟨y275, hy275⟩ : ∃ y_ : List Int, y_ = (l0 ++ [Go.bits .or .u8 (ji11) ((ji14) % 256)]) := ⟨_, rfl⟩
          replace H : (coin_Put.j0 k y275 a1 t271) = some r := by first | (rw [hy275]; with_reducible exact H) | exact H
          have Ny275 := Ad hy275; clear hy275; have H' := Ad H; clear H
          go_wp2_with (first | ((with_reducible refine gate_builtin (b := .append) (xs := #[.tmp 18, .tmp 27]) rfl ?_); at_builtin; refine Kd.R_append (Kd.int .u8) (w0 := w0) w0.heap.size rfl (.tmp 18) (.tmp 27) 59 5 (.int .u8 0) 1 rfl Try.underlying59 info5 rfl (by decide) (by omega) u9000_ l0 (Go.bits .or .u8 (ji11) ((ji14) % 256)) [.int .u8 (Go.bits .or .u8 (ji11) ((ji14) % 256))] (fun k_ => (P0_ k_ ∨ w.heap.size ≤ k_)) (fun _ => False) rfl rfl ?aP (fun _ hk => hk.elim) ?aF ?aO ?aB ?aS ?aL ?_; (case aP => exact rfl); (case aB => exact (by repeat (first | (with_reducible first | exact HB.out | apply below_drew1)))); (case aF => exact (fun k_ hk => (.inr (Nat.le_trans (by first | exact HK.out.1) hk)))); (case aO => exact (by exact HO0.out)); (case aS => exact (below_size (by repeat (first | (with_reducible first | exact HB.out | apply below_drew1))))); (case aL => have := LMc15.out; omega); intro v276 w16 ho hb hg hat; rw [← Ny275.out] at ho; replace HB := Ad (hb); replace HK := Ad (Kept.of_grown (S := (fun k_ => P0_ k_)) hg (by repeat (first | (with_reducible first | exact HK.out | apply Kept.drew))) (fun k_ e_ => (HO0.out.1 k_ e_))); have HO277 := Ad (ho); clear HO0; clear ho hb hg hat))
          (try simp only [← hji9, ← hji12] at H' ⊢)
          go_meet
          case rel => exact ⟨_, (y275), H', ⟨by first | omega⟩, ⟨by exact HO277.out⟩, ⟨by repeat (first | (with_reducible first | exact HK.out | apply Kept.drew))⟩, ⟨by repeat (first | (with_reducible first | exact HB.out | apply below_drew1))⟩⟩
        · rw [if_neg c15] at H; exact absurd H (by simp)
      · rw [if_neg c13] at H; exact absurd H (by simp)
    · rw [if_neg c10] at H; exact absurd H (by simp)
 case rest =>
  clear HC4
  try clear c1
  try clear p2
  try clear c3
  try clear c5
  try clear c6
  try clear c6b0
  try clear c6b1
  try clear p6
  try clear c7
  try clear c10
  try clear c10b0
  try clear c10b1
  try clear c13
  try clear c13b0
  try clear c13b1
  try clear c15
  obtain ⟨kq, x0_3, HA, HJ3, HO_0, HK, HB⟩ := hcut
  cases kq with
  | zero => exact absurd HA.out (by simp [coin_Put.j0])
  | succ kj3 =>
   have H := HA.out; clear HA
   simp only [coin_Put.j0] at H
   have H' := Ad H; clear H; go_wp2
   go_loopg [0, 7] kj3 (fun kq v0 v7 w' => ∃ (x0_2 : List Int) (x7_2 : Int), v7 = .int .i64 x7_2 ∧ Aside0 (coin_Put.l0 kq x0_2 a1 x7_2 = some r) ∧ Aside0 (kq ≤ kj3) ∧ Aside0 (Kd.R (Kd.int .u8) 5 w' w0.heap.size (fun k_ => (P0_ k_ ∨ w.heap.size ≤ k_)) v0 x0_2) ∧ Aside0 (Kept w w' (fun k_ => P0_ k_)) ∧ Aside0 (Below w0.heap.size w0 w'))
   case atStart => exact ⟨(x0_3), (wrap64 (t271 - 2)), (by first | rfl | (refine qa_int ?_; simp <;> omega)), H', ⟨Nat.le_refl _⟩, ⟨by exact HO_0.out⟩, ⟨by repeat (first | (with_reducible first | exact HK.out | apply Kept.drew))⟩, ⟨by repeat (first | (with_reducible first | exact HB.out | apply below_drew1))⟩⟩
   case round =>
    clear H'
    try clear c1
    try clear p2
    try clear c3
    try clear c5
    try clear c6
    try clear c6b0
    try clear c6b1
    try clear p6
    try clear c7
    try clear c10
    try clear c10b0
    try clear c10b1
    try clear c13
    try clear c13b0
    try clear c13b1
    try clear c15
    try clear p2
    try clear p6
    obtain ⟨x0_2, x7_2, rfl, HA, HK2, HO_0, HK, HB⟩ := hrel
    cases gk with
    | zero => exact absurd HA.out (by simp [coin_Put.l0])
    | succ k2 =>
     have H := HA.out; clear HA
     simp only [coin_Put.l0] at H
     by_cases c17 : x7_2 ≥ 0
     · rw [if_pos c17] at H
       have c17b0 : decide (0 ≤ x7_2) = true := decide_eq_true c17; clear c17
       obtain ⟨ji18, hji18⟩ : ∃ j_ : Int, (wrap64 (8 * x7_2)) = j_ := ⟨_, rfl⟩
       replace H : (if 0 ≤ (ji18) then (if x0_2.length < 140737488355328 then (coin_Put.l0 k2 (x0_2 ++ [(shr .u64 a1 (ji18)) % 256]) a1 (wrap64 (x7_2 - 1))) else (none)) else (none)) = some r := by first | (rw [hji18] at H; exact H)
       have hji18w : (IntKind.i64.wrap (8 * x7_2)) = ji18 := (i64_w _).trans hji18
       by_cases c19 : 0 ≤ (ji18)
       · rw [if_pos c19] at H
         have c19b0 := eq_true c19; have c19b1 : decide (0 ≤ (ji18)) = true := decide_eq_true c19; clear c19
         obtain ⟨ji20, hji20⟩ : ∃ j_ : Int, (shr .u64 a1 (ji18)) = j_ := ⟨_, rfl⟩
         replace H : (if x0_2.length < 140737488355328 then (coin_Put.l0 k2 (x0_2 ++ [(ji20) % 256]) a1 (wrap64 (x7_2 - 1))) else (none)) = some r := by first | (rw [hji20] at H; exact H)
         have hji20_ : (a1 / 2 ^ min (ji18).toNat 64) = ji20 := hji20; have hji20z : (ji18) ≤ 64 → (a1 / 2 ^ (ji18).toNat) = ji20 := shr_small hji20
         (try (have hji20y : 0 ≤ (ji18) := by omega))
         by_cases c21 : x0_2.length < 140737488355328
         · rw [if_pos c21] at H
           have LMc21 := Ad c21; clear c21
           obtain ⟨y278, hy278⟩ : ∃ y_ : List Int, y_ = (x0_2 ++ [(ji20) % 256]) := ⟨_, rfl⟩
           replace H : (coin_Put.l0 k2 y278 a1 (wrap64 (x7_2 - 1))) = some r := by first | (rw [hy278]; with_reducible exact H) | exact H
           have Ny278 := Ad hy278; clear hy278; have H' := Ad H; clear H
           go_wp2_with (first | ((with_reducible refine gate_builtin (b := .append) (xs := #[.tmp 35, .tmp 41]) rfl ?_); at_builtin; refine Kd.R_append (Kd.int .u8) (w0 := w0) w0.heap.size rfl (.tmp 35) (.tmp 41) 59 5 (.int .u8 0) 1 rfl Try.underlying59 info5 rfl (by decide) (by omega) u0 x0_2 ((ji20) % 256) [.int .u8 ((ji20) % 256)] (fun k_ => (P0_ k_ ∨ w.heap.size ≤ k_)) (fun _ => False) rfl rfl ?aP (fun _ hk => hk.elim) ?aF ?aO ?aB ?aS ?aL ?_; (case aP => exact rfl); (case aB => exact (by repeat (first | (with_reducible first | exact HB.out | apply below_drew1)))); (case aF => exact (fun k_ hk => (.inr (Nat.le_trans (by first | exact HK.out.1) hk)))); (case aO => exact (by exact HO_0.out)); (case aS => exact (below_size (by repeat (first | (with_reducible first | exact HB.out | apply below_drew1))))); (case aL => have := LMc21.out; omega); intro v279 w22 ho hb hg hat; rw [← Ny278.out] at ho; replace HB := Ad (hb); replace HK := Ad (Kept.of_grown (S := (fun k_ => P0_ k_)) hg (by repeat (first | (with_reducible first | exact HK.out | apply Kept.drew))) (fun k_ e_ => (HO_0.out.1 k_ e_))); have HO280 := Ad (ho); clear HO_0; clear ho hb hg hat))
           go_roundg k2
           case measure => have := HJ3.out; have := HK2.out; omega
           case rel => exact ⟨(y278), (wrap64 (x7_2 - 1)), (by first | rfl | (refine qa_int ?_; simp <;> omega)), H', ⟨by have := HJ3.out; have := HK2.out; omega⟩, ⟨by exact HO280.out⟩, ⟨by repeat (first | (with_reducible first | exact HK.out | apply Kept.drew))⟩, ⟨by repeat (first | (with_reducible first | exact HB.out | apply below_drew1))⟩⟩
         · rw [if_neg c21] at H; exact absurd H (by simp)
       · rw [if_neg c19] at H; exact absurd H (by simp)
     · rw [if_neg c17] at H
       have c17b0 : decide (0 ≤ x7_2) = false := decide_eq_false c17; clear c17; obtain rfl := Option.some.inj H
       simp only [Option.some.injEq, Prod.mk.injEq] at H
       obtain ⟨rfl⟩ := H; go_wp2; go_ret; exact ⟨_, by first | rfl | (simp [*, errW_none, errW_some] <;> rfl), by exact HO_0.out, by repeat (first | (with_reducible first | exact HB.out | apply below_drew1)), by repeat (first | (with_reducible first | exact HK.out | apply Kept.drew))⟩

end Go.Proofs.Ytmkjgiejnlmncaa.QTableBytes
