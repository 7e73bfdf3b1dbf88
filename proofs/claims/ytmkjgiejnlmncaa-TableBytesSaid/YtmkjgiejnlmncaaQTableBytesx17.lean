-- Lines by a program of this session, for this claim.
import Derived.Test.YtmkjgiejnlmncaaQTableBytesx0
import Derived.Test.YtmkjgiejnlmncaaQTableBytesx16
namespace Go.Proofs.Ytmkjgiejnlmncaa.QTableBytes
open Go.RowKit Go.Proofs.YtmkjgiejnlmncaaW.PrintWords Go.Proofs.YtmkjgiejnlmncaaW.PrintLast Go.Proofs.YtmkjgiejnlmncaaW.PrintMore
attribute [local go_sem] max2_int min2_int max_two min_two max_three min_three max_four min_four   -- for this text's walks alone
set_option linter.unusedVariables false
set_option maxRecDepth 100000
set_option maxHeartbeats 8000000
set_option linter.unusedSimpArgs false

/-! ### ga_Coin: function 39 -/
mutual
def ga_Coin.j1 : Nat → Int → Int → Option (List Int)
 | 0, _, _ => none
 | k + 1, x0, x3 => if x3 = 9 then (ga_Coin.l1 k x0 (([255] : List Int)) 7) else (if 0 ≤ x3 then (if (x3 : Int).toNat ≤ 281474976710656 then (ga_Coin.l2 k x0 x3 (List.replicate (x3 : Int).toNat 0) (wrap64 (x3 - 1))) else (none)) else (none))
def ga_Coin.l1 : Nat → Int → List Int → Int → Option (List Int)
 | 0, _, _, _ => none
 | k + 1, x0, x4, x5 => if x5 ≥ 0 then (if 0 ≤ (wrap64 (8 * x5)) then (if x4.length < 140737488355328 then (ga_Coin.l1 k x0 (x4 ++ [(shr .u64 x0 (wrap64 (8 * x5))) % 256]) (wrap64 (x5 - 1))) else (none)) else (none)) else (some x4)
def ga_Coin.l2 : Nat → Int → Int → List Int → Int → Option (List Int)
 | 0, _, _, _, _ => none
 | k + 1, x0, x3, x6, x7 => if x7 ≥ 0 then (if 0 ≤ x7 then (if x7 < (x6.length : Int) then (ga_Coin.l2 k (IntKind.u64.wrap (Int.tdiv x0 256)) x3 (x6.set (x7 : Int).toNat ((Int.tmod x0 256) % 256)) (wrap64 (x7 - 1))) else (none)) else (none)) else (ga_Coin.l3 k x3 x6 128 1)
def ga_Coin.l3 : Nat → Int → List Int → Int → Int → Option (List Int)
 | 0, _, _, _, _ => none
 | k + 1, x3, x6, x8, x9 => if x9 < x3 then (if 0 < (x6.length : Int) then (ga_Coin.l3 k x3 (x6.set (0 : Int).toNat (((rd x6 0) + (x8)) % 256)) (wrap64 (Int.tdiv x8 2)) (wrap64 (x9 + 1))) else (none)) else (some x6)
def ga_Coin.l0 : Nat → Int → Int → Option (List Int)
 | 0, _, _ => none
 | k + 1, x0, x3 => if x3 < 9 then ((ga_bits.f k x0).bind fun t281 => (if t281 > (wrap64 (7 * x3)) then (ga_Coin.l0 k x0 (wrap64 (x3 + 1))) else (ga_Coin.j1 k x0 x3))) else (ga_Coin.j1 k x0 x3)
end
def ga_Coin.f (k : Nat) (a0 : Int) : Option (List Int) := ga_Coin.l0 k a0 1
theorem ga_Coin.mono_l : ∀ k, (∀ y0 y1, LeO (ga_Coin.j1 k y0 y1) (ga_Coin.j1 (k + 1) y0 y1)) ∧ (∀ y0 y1 y2, LeO (ga_Coin.l1 k y0 y1 y2) (ga_Coin.l1 (k + 1) y0 y1 y2)) ∧ (∀ y0 y1 y2 y3, LeO (ga_Coin.l2 k y0 y1 y2 y3) (ga_Coin.l2 (k + 1) y0 y1 y2 y3)) ∧ (∀ y0 y1 y2 y3, LeO (ga_Coin.l3 k y0 y1 y2 y3) (ga_Coin.l3 (k + 1) y0 y1 y2 y3)) ∧ (∀ y0 y1, LeO (ga_Coin.l0 k y0 y1) (ga_Coin.l0 (k + 1) y0 y1))
 | 0 => ⟨fun _ _ r h => by simp [ga_Coin.j1] at h, fun _ _ _ r h => by simp [ga_Coin.l1] at h, fun _ _ _ _ r h => by simp [ga_Coin.l2] at h, fun _ _ _ _ r h => by simp [ga_Coin.l3] at h, fun _ _ r h => by simp [ga_Coin.l0] at h⟩
 | k + 1 => by
  obtain ⟨ih0, ih1, ih2, ih3, ih4⟩ := ga_Coin.mono_l k; refine ⟨?_, ?_, ?_, ?_, ?_⟩
  · intro y0 y1
    unfold ga_Coin.j1
    repeat' first
    | (with_reducible exact ih0 ..)
    | (with_reducible exact ih1 ..)
    | (with_reducible exact ih2 ..)
    | (with_reducible exact ih3 ..)
    | (with_reducible exact ih4 ..)
    | (with_reducible exact ga_bits.mono ..)
    | (with_reducible exact LeO.refl ..)
    | (with_reducible exact LeO.none ..)
    | (with_reducible refine LeO.ite ?_ ?_)
    | (with_reducible refine LeO.bind ?_ (fun _ => ?_))
  · intro y0 y1 y2
    unfold ga_Coin.l1
    repeat' first
    | (with_reducible exact ih0 ..)
    | (with_reducible exact ih1 ..)
    | (with_reducible exact ih2 ..)
    | (with_reducible exact ih3 ..)
    | (with_reducible exact ih4 ..)
    | (with_reducible exact ga_bits.mono ..)
    | (with_reducible exact LeO.refl ..)
    | (with_reducible exact LeO.none ..)
    | (with_reducible refine LeO.ite ?_ ?_)
    | (with_reducible refine LeO.bind ?_ (fun _ => ?_))
  · intro y0 y1 y2 y3
    unfold ga_Coin.l2
    repeat' first
    | (with_reducible exact ih0 ..)
    | (with_reducible exact ih1 ..)
    | (with_reducible exact ih2 ..)
    | (with_reducible exact ih3 ..)
    | (with_reducible exact ih4 ..)
    | (with_reducible exact ga_bits.mono ..)
    | (with_reducible exact LeO.refl ..)
    | (with_reducible exact LeO.none ..)
    | (with_reducible refine LeO.ite ?_ ?_)
    | (with_reducible refine LeO.bind ?_ (fun _ => ?_))
  · intro y0 y1 y2 y3
    unfold ga_Coin.l3
    repeat' first
    | (with_reducible exact ih0 ..)
    | (with_reducible exact ih1 ..)
    | (with_reducible exact ih2 ..)
    | (with_reducible exact ih3 ..)
    | (with_reducible exact ih4 ..)
    | (with_reducible exact ga_bits.mono ..)
    | (with_reducible exact LeO.refl ..)
    | (with_reducible exact LeO.none ..)
    | (with_reducible refine LeO.ite ?_ ?_)
    | (with_reducible refine LeO.bind ?_ (fun _ => ?_))
  · intro y0 y1
    unfold ga_Coin.l0
    repeat' first
    | (with_reducible exact ih0 ..)
    | (with_reducible exact ih1 ..)
    | (with_reducible exact ih2 ..)
    | (with_reducible exact ih3 ..)
    | (with_reducible exact ih4 ..)
    | (with_reducible exact ga_bits.mono ..)
    | (with_reducible exact LeO.refl ..)
    | (with_reducible exact LeO.none ..)
    | (with_reducible refine LeO.ite ?_ ?_)
    | (with_reducible refine LeO.bind ?_ (fun _ => ?_))
theorem ga_Coin.mono : ∀ a0 k, LeO (ga_Coin.f k a0) (ga_Coin.f (k + 1) a0) := by
 intro a0 k; obtain ⟨ih0, ih1, ih2, ih3, ih4⟩ := ga_Coin.mono_l k
 unfold ga_Coin.f
 repeat' first
  | (with_reducible exact ih0 ..)
  | (with_reducible exact ih1 ..)
  | (with_reducible exact ih2 ..)
  | (with_reducible exact ih3 ..)
  | (with_reducible exact ih4 ..)
  | (with_reducible exact ga_bits.mono ..)
  | (with_reducible exact LeO.refl ..)
  | (with_reducible exact LeO.none ..)
  | (with_reducible refine LeO.ite ?_ ?_)
  | (with_reducible refine LeO.bind ?_ (fun _ => ?_))
theorem ga_Coin.calls (k : Nat) (a0 : Int) (r : List Int) (w : World) (h : ga_Coin.f k a0 = some r) :
 Calls Try.prog 39 #[.int .u64 a0] w fun e w' => ∃ v0_ : Value, e = .returned (v0_) ∧ Kd.R (Kd.int .u8) 5 w' w.heap.size (fun _ => True) v0_ r ∧ Below w.heap.size w w' := by
 have HB := Ad (Below.refl w.heap.size w); have H : (ga_Coin.l0 k a0 1) = some r := h; clear h; have HC2 := Ad H; clear H
 go_enter Try.func39, Try.ntmps39
 go_upto_block 0 with (fail)
 go_cut [3] (fun v3 wc => ∃ (kq : Nat) (x3_1 : Int), v3 = .int .i64 x3_1 ∧ Aside0 (ga_Coin.j1 kq a0 x3_1 = some r) ∧ Aside0 (kq ≤ k) ∧ Aside0 (Below w.heap.size w wc))
 case first =>
  have H := HC2.out; clear HC2; have H' := Ad H; clear H; go_wp2
  go_loopg [3] k (fun kq v3 w' => ∃ (x3_1 : Int), v3 = .int .i64 x3_1 ∧ Aside0 (ga_Coin.l0 kq a0 x3_1 = some r) ∧ Aside0 (kq ≤ k) ∧ Aside0 (Below w.heap.size w w'))
  case atStart => exact ⟨(1), (by first | rfl | (refine qa_int ?_; simp <;> omega)), H', ⟨Nat.le_refl _⟩, ⟨by repeat (first | (with_reducible first | exact HB.out | apply below_drew1))⟩⟩
  case round =>
   clear H'
   try clear p2
   obtain ⟨x3_1, rfl, HA, HK1, HB⟩ := hrel
   cases gk with
   | zero => exact absurd HA.out (by simp [ga_Coin.l0])
   | succ k1 =>
    have H := HA.out; clear HA
    simp only [ga_Coin.l0] at H
    by_cases c3 : x3_1 < 9
    · rw [if_pos c3] at H
      have c3b0 : decide (x3_1 < 9) = true := decide_eq_true c3; clear c3
      (first | skip)
      replace H := Option.bind_eq_some_iff.mp H; obtain ⟨t281, A40, H⟩ := H; replace H : (if t281 > (wrap64 (7 * x3_1)) then (ga_Coin.l0 k1 a0 (wrap64 (x3_1 + 1))) else (ga_Coin.j1 k1 a0 x3_1)) = some r := H; have A4 := Ad A40; clear A40
      by_cases c5 : t281 > (wrap64 (7 * x3_1))
      · rw [if_pos c5] at H
        have c5b0 : decide ((wrap64 (7 * x3_1)) < t281) = true := decide_eq_true c5; clear c5; have H' := Ad H; clear H
        go_wp2_with (first | (go_at_call 54; (with_reducible refine (ga_bits.calls k1 a0 t281 _ A4.out).mono ?_); rintro e w' ⟨rfl, ⟨nd, rfl⟩⟩))
        go_roundg k1
        case measure => have := HK1.out; omega
        case rel => exact ⟨(wrap64 (x3_1 + 1)), (by first | rfl | (refine qa_int ?_; simp <;> omega)), H', ⟨by have := HK1.out; omega⟩, ⟨by repeat (first | (with_reducible first | exact HB.out | apply pw_below_drewN))⟩⟩
      · rw [if_neg c5] at H
        have c5b0 : decide ((wrap64 (7 * x3_1)) < t281) = false := decide_eq_false c5; clear c5; have H' := Ad H; clear H
        go_wp2_with (first | (go_at_call 54; (with_reducible refine (ga_bits.calls k1 a0 t281 _ A4.out).mono ?_); rintro e w' ⟨rfl, ⟨nd, rfl⟩⟩))
        go_meet
        case rel => exact ⟨_, (x3_1), (by first | rfl | (refine qa_int ?_; simp <;> omega)), H', ⟨by have := HK1.out; first | omega⟩, ⟨by repeat (first | (with_reducible first | exact HB.out | apply pw_below_drewN))⟩⟩
    · rw [if_neg c3] at H
      have c3b0 : decide (x3_1 < 9) = false := decide_eq_false c3; clear c3
      (first | skip)
      have H' := Ad H; clear H; go_wp2; go_meet
      case rel => exact ⟨_, (x3_1), (by first | rfl | (refine qa_int ?_; simp <;> omega)), H', ⟨by have := HK1.out; first | omega⟩, ⟨by repeat (first | (with_reducible first | exact HB.out | apply below_drew1))⟩⟩
 case rest =>
  clear HC2
  try clear p2
  try clear c3
  try clear c3b0
  try clear c5
  try clear c5b0
  try clear p2
  obtain ⟨kq, x3_1, rfl, HA, HJ1, HB⟩ := hcut
  cases kq with
  | zero => exact absurd HA.out (by simp [ga_Coin.j1])
  | succ kj1 =>
   have H := HA.out; clear HA
   simp only [ga_Coin.j1] at H
   by_cases c6 : x3_1 = 9
   · rw [if_pos c6] at H
     have c6b0 : (x3_1 == 9) = true := beq_iff_eq.mpr c6; have c6b1 : (x3_1 != 9) = false := bne_eq_false_iff_eq.mpr c6; clear c6
     obtain ⟨y282, hy282⟩ : ∃ y_ : List Int, y_ = (([255] : List Int)) := ⟨_, rfl⟩
     replace H : (ga_Coin.l1 kj1 a0 y282 7) = some r := by first | (rw [hy282]; with_reducible exact H) | exact H
     have Ny282 := Ad hy282; clear hy282; have H' := Ad H; clear H
     go_wp2_with (first | ((with_reducible refine gate_dst (N := 23) rfl ?_); refine Kd.R_lit (Kd.int .u8) _ 5 ?hg (N := 23) ?hd (xs := ([255] : List Int)) (inner := [.int .u8 255]) (ok := fun _ => True) (okp := fun _ => True) ?hr ?hp (fun _ hk => hk) trivial (Below.refl _ _) (Nat.le_refl _) (by simp) ?_; (case hd => rfl); (case hg => rfl); (case hr => first | (go_simp; done)); (case hp => exact (Reps.one (show Kd.M (Kd.int .u8) _ _ _ 255 [.int .u8 255] from rfl) (Reps.none _ _))); intro v283 w7 ho8 hb hg_ hnew_; clear hg_ hnew_; (first | rw [← Ny282.out] at ho8); have HO284 := Ad (Kd.R_lower ho8 (below_size (by repeat (first | (with_reducible first | exact HB.out | apply below_drew1))))); replace HB := Ad (below_step (by repeat (first | (with_reducible first | exact HB.out | apply below_drew1))) hb); clear hb ho8))
     go_loopg [4, 5] kj1 (fun kq v4 v5 w' => ∃ (x4_2 : List Int) (x5_2 : Int), v5 = .int .i64 x5_2 ∧ Aside0 (ga_Coin.l1 kq a0 x4_2 x5_2 = some r) ∧ Aside0 (kq ≤ kj1) ∧ Aside0 (Kd.R (Kd.int .u8) 5 w' w.heap.size (fun _ => True) v4 x4_2) ∧ Aside0 (Below w.heap.size w w'))
     case atStart => exact ⟨(y282), (7), (by first | rfl | (refine qa_int ?_; simp <;> omega)), H', ⟨Nat.le_refl _⟩, ⟨by exact HO284.out⟩, ⟨by repeat (first | (with_reducible first | exact HB.out | apply below_drew1))⟩⟩
     case round =>
      clear H'
      try clear p2
      try clear c3
      try clear c3b0
      try clear c5
      try clear c5b0
      try clear c6
      try clear c6b0
      try clear c6b1
      try clear p6
      try clear p2
      obtain ⟨x4_2, x5_2, rfl, HA, HK2, HO_4, HB⟩ := hrel
      cases gk with
      | zero => exact absurd HA.out (by simp [ga_Coin.l1])
      | succ k2 =>
       have H := HA.out; clear HA
       simp only [ga_Coin.l1] at H
       by_cases c9 : x5_2 ≥ 0
       · rw [if_pos c9] at H
         have c9b0 : decide (0 ≤ x5_2) = true := decide_eq_true c9; clear c9
         obtain ⟨ji10, hji10⟩ : ∃ j_ : Int, (wrap64 (8 * x5_2)) = j_ := ⟨_, rfl⟩
         replace H : (if 0 ≤ (ji10) then (if x4_2.length < 140737488355328 then (ga_Coin.l1 k2 a0 (x4_2 ++ [(shr .u64 a0 (ji10)) % 256]) (wrap64 (x5_2 - 1))) else (none)) else (none)) = some r := by first | (rw [hji10] at H; exact H)
         have hji10w : (IntKind.i64.wrap (8 * x5_2)) = ji10 := (i64_w _).trans hji10
         by_cases c11 : 0 ≤ (ji10)
         · rw [if_pos c11] at H
           have c11b0 := eq_true c11; have c11b1 : decide (0 ≤ (ji10)) = true := decide_eq_true c11; clear c11
           obtain ⟨ji12, hji12⟩ : ∃ j_ : Int, (shr .u64 a0 (ji10)) = j_ := ⟨_, rfl⟩
           replace H : (if x4_2.length < 140737488355328 then (ga_Coin.l1 k2 a0 (x4_2 ++ [(ji12) % 256]) (wrap64 (x5_2 - 1))) else (none)) = some r := by first | (rw [hji12] at H; exact H)
           have hji12_ : (a0 / 2 ^ min (ji10).toNat 64) = ji12 := hji12; have hji12z : (ji10) ≤ 64 → (a0 / 2 ^ (ji10).toNat) = ji12 := shr_small hji12
           (try (have hji12y : 0 ≤ (ji10) := by omega))
           by_cases c13 : x4_2.length < 140737488355328
           · rw [if_pos c13] at H
             have LMc13 := Ad c13; clear c13
             obtain ⟨y285, hy285⟩ : ∃ y_ : List Int, y_ = (x4_2 ++ [(ji12) % 256]) := ⟨_, rfl⟩
             replace H : (ga_Coin.l1 k2 a0 y285 (wrap64 (x5_2 - 1))) = some r := by first | (rw [hy285]; with_reducible exact H) | exact H
             have Ny285 := Ad hy285; clear hy285; have H' := Ad H; clear H
             go_wp2_with (first | ((with_reducible refine gate_builtin (b := .append) (xs := #[.tmp 28, .tmp 34]) rfl ?_); at_builtin; refine Kd.R_append (Kd.int .u8) (w0 := w) w.heap.size rfl (.tmp 28) (.tmp 34) 59 5 (.int .u8 0) 1 rfl Try.underlying59 info5 rfl (by decide) (by omega) u4 x4_2 ((ji12) % 256) [.int .u8 ((ji12) % 256)] (fun _ => True) (fun _ => False) rfl rfl ?aP (fun _ hk => hk.elim) ?aF ?aO ?aB ?aS ?aL ?_; (case aP => exact rfl); (case aB => exact (by repeat (first | (with_reducible first | exact HB.out | apply below_drew1)))); (case aF => exact (fun _ _ => trivial)); (case aO => exact (by exact HO_4.out)); (case aS => exact (below_size (by repeat (first | (with_reducible first | exact HB.out | apply below_drew1))))); (case aL => have := LMc13.out; omega); intro v286 w14 ho hb hg hat; rw [← Ny285.out] at ho; replace HB := Ad (hb); have HO287 := Ad (ho); clear HO_4; clear ho hb hg hat))
             go_roundg k2
             case measure => have := HJ1.out; have := HK2.out; omega
             case rel => exact ⟨(y285), (wrap64 (x5_2 - 1)), (by first | rfl | (refine qa_int ?_; simp <;> omega)), H', ⟨by have := HJ1.out; have := HK2.out; omega⟩, ⟨by exact HO287.out⟩, ⟨by repeat (first | (with_reducible first | exact HB.out | apply below_drew1))⟩⟩
           · rw [if_neg c13] at H; exact absurd H (by simp)
         · rw [if_neg c11] at H; exact absurd H (by simp)
       · rw [if_neg c9] at H
         have c9b0 : decide (0 ≤ x5_2) = false := decide_eq_false c9; clear c9; obtain rfl := Option.some.inj H
         simp only [Option.some.injEq, Prod.mk.injEq] at H
         obtain ⟨rfl⟩ := H; go_wp2; go_ret; exact ⟨_, by first | rfl | (simp [*, errW_none, errW_some] <;> rfl), by exact HO_4.out, by repeat (first | (with_reducible first | exact HB.out | apply below_drew1))⟩
   · rw [if_neg c6] at H
     have c6b0 : (x3_1 == 9) = false := beq_eq_false_iff_ne.mpr c6; have c6b1 : (x3_1 != 9) = true := bne_iff_ne.mpr c6
     by_cases c15 : 0 ≤ x3_1
     · rw [if_pos c15] at H
       have c15b0 := eq_true c15; have c15b1 : decide (0 ≤ x3_1) = true := decide_eq_true c15; clear c15
       by_cases c16 : (x3_1 : Int).toNat ≤ 281474976710656
       · rw [if_pos c16] at H
         have c16b0 := eq_true c16; have c16b1 : decide ((x3_1 : Int).toNat ≤ 281474976710656) = true := decide_eq_true c16; clear c16
         obtain ⟨y288, hy288⟩ : ∃ y_ : List Int, y_ = (List.replicate (x3_1 : Int).toNat 0) := ⟨_, rfl⟩
         replace H : (ga_Coin.l2 kj1 a0 x3_1 y288 (wrap64 (x3_1 - 1))) = some r := by first | (rw [hy288]; with_reducible exact H) | exact H
         have Ny288 := Ad hy288; clear hy288; have H' := Ad H; clear H
         go_wp2_with (first | ((with_reducible refine gate_dst (N := 38) rfl ?_); refine Kd.R_make (Kd.int .u8) _ 5 rfl (N := 38) rfl 59 _ _ rfl x3_1 rfl rfl Try.underlying59 (.int .u8 0) 1 info5 rfl (by decide) (by omega) 0 (ok := fun _ => True) (okp := fun _ => True) rfl (fun _ hk => hk) trivial (of_decide_eq_true (by first | (with_reducible assumption))) (Nat.le_trans (Nat.mul_le_mul_right _ (of_decide_eq_true (by first | (with_reducible assumption)) : x3_1.toNat ≤ 281474976710656)) (by omega)) (Below.refl _ _) (Nat.le_refl _) ?_; intro v289 w17 ho18 hb hg_ hnew_; clear hg_ hnew_; (first | rw [← Ny288.out] at ho18); have HO290 := Ad (Kd.R_lower ho18 (below_size (by repeat (first | (with_reducible first | exact HB.out | apply below_drew1))))); replace HB := Ad (below_step (by repeat (first | (with_reducible first | exact HB.out | apply below_drew1))) hb); clear hb ho18))
         go_loopg [0, 7] kj1 (fun kq v0 v7 w' => ∃ (x0_2 : Int) (x6_2 : List Int) (x7_2 : Int), v0 = .int .u64 x0_2 ∧ v7 = .int .i64 x7_2 ∧ Aside0 (ga_Coin.l2 kq x0_2 x3_1 x6_2 x7_2 = some r) ∧ Aside0 (kq ≤ kj1) ∧ Aside0 (Kd.R (Kd.int .u8) 5 w' w.heap.size (fun _ => True) v289 x6_2) ∧ Aside0 (Below w.heap.size w w'))
         case atStart => exact ⟨(a0), (y288), (wrap64 (x3_1 - 1)), (by first | rfl | (refine qa_int ?_; simp <;> omega)), (by first | rfl | (refine qa_int ?_; simp <;> omega)), H', ⟨Nat.le_refl _⟩, ⟨by exact HO290.out⟩, ⟨by repeat (first | (with_reducible first | exact HB.out | apply below_drew1))⟩⟩
         case round =>
          clear H'
          try clear c1
          try clear p2
          try clear c3
          try clear c3b0
          try clear c5
          try clear c5b0
          try clear c6
          try clear c6b0
          try clear c6b1
          try clear p6
          try clear c9
          try clear c9b0
          try clear c11
          try clear c11b0
          try clear c11b1
          try clear c13
          try clear c15
          try clear c15b0
          try clear c15b1
          try clear c16
          try clear c16b0
          try clear c16b1
          try clear p2
          try clear p6
          obtain ⟨x0_2, x6_2, x7_2, rfl, rfl, HA, HK2, HO_6, HB⟩ := hrel
          cases gk with
          | zero => exact absurd HA.out (by simp [ga_Coin.l2])
          | succ k2 =>
           have H := HA.out; clear HA
           simp only [ga_Coin.l2] at H
           by_cases c19 : x7_2 ≥ 0
           · rw [if_pos c19] at H
             have c19b0 : decide (0 ≤ x7_2) = true := decide_eq_true c19; clear c19
             by_cases c20 : 0 ≤ x7_2
             · rw [if_pos c20] at H
               have c20b0 : decide (0 ≤ x7_2) = true := decide_eq_true c20; clear c20
               by_cases c21 : x7_2 < (x6_2.length : Int)
               · rw [if_pos c21] at H
                 have c21b0 : decide (x7_2 < (x6_2.length : Int)) = true := decide_eq_true c21; clear c21
                 obtain ⟨y291, hy291⟩ : ∃ y_ : List Int, y_ = (x6_2.set (x7_2 : Int).toNat ((Int.tmod x0_2 256) % 256)) := ⟨_, rfl⟩
                 replace H : (ga_Coin.l2 k2 (IntKind.u64.wrap (Int.tdiv x0_2 256)) x3_1 y291 (wrap64 (x7_2 - 1))) = some r := by first | (rw [hy291]; with_reducible exact H) | exact H
                 have Ny291 := Ad hy291; clear hy291; have H' := Ad H; clear H; have p22 : 0 ≤ (x7_2 : Int) := of_decide_eq_true (by first | (with_reducible assumption)); have q22 : (x7_2 : Int) < ((x6_2.length : Int) : Int) := of_decide_eq_true (by first | (with_reducible assumption)); obtain ⟨go22, co22, eo22, gb22, gl22, cl22, HG22⟩ := Kd.R_form HO_6.out (by omega)
                 (first | cases eo22)
                 have GB22 := Ad gb22; have GG22 := Ad HG22; clear gb22 gl22 HG22; obtain ⟨hx22_0, hf22_0⟩ := Kd.R_celln 0 HO_6.out (x7_2 : Int) p22 q22; replace p22 := eq_true p22; replace q22 := eq_true q22; have HP23 := Kd.R_putg HO_6.out (x7_2 : Int) ((Int.tmod x0_2 256) % 256)
                 go_wp2_with (first | ((with_reducible refine gate_store (t := 5) (p := 50) rfl ?_); refine store_event (t := 5) (p := 50) (v := ?vo_w24) (w1 := (wr.setCell ⟨go22, (x7_2 : Int).toNat, none⟩ (.int .u8 ((Int.tmod x0_2 256) % 256)))) ?hg ?ho ?hn ?hr ?_; (case ho => rfl); (case hg => rfl); (case hn => rfl); (case hr => first | (go_simp; done)); intro w24 hw; have hg : wr.grownBy w24 (some go22) := (by rw [hw]; exact HP23.2); have hp_ : Kd.R (Kd.int .u8) 5 w24 w.heap.size (fun _ => True) (.slice (some ⟨go22, 0, none⟩) x6_2.length co22) y291 := (by rw [hw, Ny291.out]; exact HP23.1); clear HP23; replace HO_6 := Ad (hp_); replace HB := Ad ((by rw [hw]; exact below_set (HB.out) GB22.out : Below w.heap.size w w24)); clear hg hw hp_))
                 go_roundg k2
                 case measure => have := HJ1.out; have := HK2.out; omega
                 case rel => exact ⟨(IntKind.u64.wrap (Int.tdiv x0_2 256)), (y291), (wrap64 (x7_2 - 1)), (by first | rfl | (refine qa_int ?_; simp <;> omega)), (by first | rfl | (refine qa_int ?_; simp <;> omega)), H', ⟨by have := HJ1.out; have := HK2.out; omega⟩, ⟨by exact HO_6.out⟩, ⟨by repeat (first | (with_reducible first | exact HB.out | apply below_drew1))⟩⟩
               · rw [if_neg c21] at H; exact absurd H (by simp)
             · rw [if_neg c20] at H; exact absurd H (by simp)
           · rw [if_neg c19] at H
             have c19b0 : decide (0 ≤ x7_2) = false := decide_eq_false c19; clear c19; have H' := Ad H; clear H; go_wp2
             go_loopg [8, 9] k2 (fun kq v8 v9 w' => ∃ (x6_3 : List Int) (x8_3 : Int) (x9_3 : Int), v8 = .int .i64 x8_3 ∧ v9 = .int .i64 x9_3 ∧ Aside0 (ga_Coin.l3 kq x3_1 x6_3 x8_3 x9_3 = some r) ∧ Aside0 (kq ≤ k2) ∧ Aside0 (Kd.R (Kd.int .u8) 5 w' w.heap.size (fun _ => True) v289 x6_3) ∧ Aside0 (Below w.heap.size w w'))
             case atStart => exact ⟨(x6_2), (128), (1), (by first | rfl | (refine qa_int ?_; simp <;> omega)), (by first | rfl | (refine qa_int ?_; simp <;> omega)), H', ⟨Nat.le_refl _⟩, ⟨by exact HO_6.out⟩, ⟨by repeat (first | (with_reducible first | exact HB.out | apply below_drew1))⟩⟩
             case round =>
              clear H'
              try clear c1
              try clear c2
              try clear p2
              try clear q2
              try clear hx2
              try clear hf2
              try clear c3
              try clear c3b0
              try clear c5
              try clear c5b0
              try clear c6
              try clear c6b0
              try clear c6b1
              try clear p6
              try clear c9
              try clear c9b0
              try clear c11
              try clear c11b0
              try clear c11b1
              try clear c13
              try clear c15
              try clear c15b0
              try clear c15b1
              try clear c16
              try clear c16b0
              try clear c16b1
              try clear c19
              try clear c19b0
              try clear c20
              try clear c20b0
              try clear c21
              try clear c21b0
              try clear p22
              try clear q22
              try clear hx22
              try clear hf22
              try clear hx22_0
              try clear p2
              try clear p22
              try clear p6
              try clear q22
              obtain ⟨x6_3, x8_3, x9_3, rfl, rfl, HA, HK3, HO_6, HB⟩ := hrel
              cases gk with
              | zero => exact absurd HA.out (by simp [ga_Coin.l3])
              | succ k3 =>
               have H := HA.out; clear HA
               simp only [ga_Coin.l3] at H
               by_cases c25 : x9_3 < x3_1
               · rw [if_pos c25] at H
                 have c25b0 : decide (x9_3 < x3_1) = true := decide_eq_true c25; clear c25
                 by_cases c26 : 0 < (x6_3.length : Int)
                 · rw [if_pos c26] at H
                   have c26b0 : decide (0 < (x6_3.length : Int)) = true := decide_eq_true c26; have c26b1 : decide (0 < x6_3.length) = true := decide_eq_true (by omega); clear c26
                   obtain ⟨y293, hy293⟩ : ∃ y_ : List Int, y_ = (x6_3.set (0 : Int).toNat (((rd x6_3 0) + (x8_3)) % 256)) := ⟨_, rfl⟩
                   replace H : (ga_Coin.l3 k3 x3_1 y293 (wrap64 (Int.tdiv x8_3 2)) (wrap64 (x9_3 + 1))) = some r := by first | (rw [hy293]; with_reducible exact H) | exact H
                   have Ny293 := Ad hy293; clear hy293; have H' := Ad H; clear H; obtain ⟨Ao28, co28, eo28⟩ := Kd.R_slice HO_6.out; subst eo28; have p292 : 0 ≤ (0 : Int) := (by omega); have q292 : 0 < (x6_3.length : Int) := of_decide_eq_true (by first | (with_reducible assumption)); obtain ⟨ad292, e292, hx292_0⟩ := Kd.at_int (Kd.R_reads' HO_6.out).2.2 0 p292 q292; cases e292; have qi292 : (0 < x6_3.length) = True := eq_true (by omega)
                   (try rw [show ((0 : Int)).toNat = 0 from rfl] at hx292_0)
                   (try rw [Addr.add_zero'] at hx292_0)
                   replace p292 := eq_true p292; replace q292 := eq_true q292; have p27 : 0 ≤ (0 : Int) := (by omega); have q27 : (0 : Int) < ((x6_3.length : Int) : Int) := of_decide_eq_true (by first | (with_reducible assumption)); have qi27 : (0 < x6_3.length) = True := eq_true (by omega); obtain ⟨go27, co27, eo27, gb27, gl27, cl27, HG27⟩ := Kd.R_form HO_6.out (by omega)
                   (first | cases eo27)
                   have GB27 := Ad gb27; have GG27 := Ad HG27; clear gb27 gl27 HG27
                   (first | skip)
                   obtain ⟨hx27_0, hf27_0⟩ := Kd.R_celln 0 HO_6.out (0 : Int) p27 q27
                   (try rw [show ((0 : Int)).toNat = 0 from rfl] at hx27_0)
                   (try simp only [Nat.reduceMul, Nat.zero_mul, Nat.zero_add, Nat.reduceAdd] at hx27_0)
                   (try rw [show ((0 : Int)).toNat = 0 from rfl] at hf27_0)
                   (try simp only [Nat.reduceMul, Nat.zero_mul, Nat.zero_add, Nat.reduceAdd] at hf27_0)
                   replace p27 := eq_true p27; replace q27 := eq_true q27; have HP29 := Kd.R_putg HO_6.out (0 : Int) (((rd x6_3 0) + (x8_3)) % 256)
                   go_wp2_with (first | ((with_reducible refine gate_store (t := 5) (p := 64) rfl ?_); refine store_event (t := 5) (p := 64) (v := ?vo_w30) (w1 := (wr.setCell ⟨go27, (0 : Int).toNat, none⟩ (.int .u8 (((rd x6_3 0) + (x8_3)) % 256)))) ?hg ?ho ?hn ?hr ?_; (case ho => rfl); (case hg => rfl); (case hn => rfl); (case hr => first | (go_simp; done)); intro w30 hw; have hg : wr.grownBy w30 (some go27) := (by rw [hw]; exact HP29.2); have hp_ : Kd.R (Kd.int .u8) 5 w30 w.heap.size (fun _ => True) (.slice (some ⟨go27, 0, none⟩) x6_3.length co28) y293 := (by rw [hw, Ny293.out]; exact HP29.1); clear HP29; replace HO_6 := Ad (hp_); replace HB := Ad ((by rw [hw]; exact below_set (HB.out) GB27.out : Below w.heap.size w w30)); clear hg hw hp_))
                   go_roundg k3
                   case measure => have := HJ1.out; have := HK2.out; have := HK3.out; omega
                   case rel => exact ⟨(y293), (wrap64 (Int.tdiv x8_3 2)), (wrap64 (x9_3 + 1)), (by first | rfl | (refine qa_int ?_; simp <;> omega)), (by first | rfl | (refine qa_int ?_; simp <;> omega)), H', ⟨by have := HJ1.out; have := HK2.out; have := HK3.out; omega⟩, ⟨by exact HO_6.out⟩, ⟨by repeat (first | (with_reducible first | exact HB.out | apply below_drew1))⟩⟩
                 · rw [if_neg c26] at H; exact absurd H (by simp)
               · rw [if_neg c25] at H
                 have c25b0 : decide (x9_3 < x3_1) = false := decide_eq_false c25; clear c25; obtain rfl := Option.some.inj H
                 simp only [Option.some.injEq, Prod.mk.injEq] at H
                 obtain ⟨rfl⟩ := H; go_wp2; go_ret; exact ⟨_, by first | rfl | (simp [*, errW_none, errW_some] <;> rfl), by exact HO_6.out, by repeat (first | (with_reducible first | exact HB.out | apply below_drew1))⟩
       · rw [if_neg c16] at H; exact absurd H (by simp)
     · rw [if_neg c15] at H; exact absurd H (by simp)

/-! ### ga_Coins: function 22 -/
def ga_Coins.l0 : Nat → List Int → List Int → Int → Option (List Int)
 | 0, _, _, _ => none
 | k + 1, x0, x3, x4 => if x4 < (x0.length : Int) then (if 0 ≤ x4 then ((ga_Coin.f k (rd x0 x4)).bind fun t295 => (if x3.length + t295.length < 140737488355328 then (ga_Coins.l0 k x0 (x3 ++ t295) (wrap64 (x4 + 1))) else (none))) else (none)) else (some x3)
def ga_Coins.f (k : Nat) (l0 : List Int) : Option (List Int) := ga_Coins.l0 k l0 ([] : List Int) 0
theorem ga_Coins.mono_l : ∀ k, (∀ y0 y1 y2, LeO (ga_Coins.l0 k y0 y1 y2) (ga_Coins.l0 (k + 1) y0 y1 y2))
 | 0 => fun _ _ _ r h => by simp [ga_Coins.l0] at h
 | k + 1 => by
  have ih0 := ga_Coins.mono_l k
  · intro y0 y1 y2
    unfold ga_Coins.l0
    repeat' first
    | (with_reducible exact ih0 ..)
    | (with_reducible exact ga_Coin.mono ..)
    | (with_reducible exact LeO.refl ..)
    | (with_reducible exact LeO.none ..)
    | (with_reducible refine LeO.ite ?_ ?_)
    | (with_reducible refine LeO.bind ?_ (fun _ => ?_))
theorem ga_Coins.mono : ∀ a0 k, LeO (ga_Coins.f k a0) (ga_Coins.f (k + 1) a0) := by
 intro a0 k; have ih0 := ga_Coins.mono_l k
 unfold ga_Coins.f
 repeat' first
  | (with_reducible exact ih0 ..)
  | (with_reducible exact ga_Coin.mono ..)
  | (with_reducible exact LeO.refl ..)
  | (with_reducible exact LeO.none ..)
  | (with_reducible refine LeO.ite ?_ ?_)
  | (with_reducible refine LeO.bind ?_ (fun _ => ?_))
theorem ga_Coins.calls (k : Nat) (A0 : Option Addr) (c0 : Nat) (l0 : List Int) (r : List Int) (w : World) (hr0 : Kd.C (Kd.int .u64) w A0 l0.length l0) (hc0 : l0.length ≤ c0) (h : ga_Coins.f k l0 = some r) :
 Calls Try.prog 22 #[.slice A0 l0.length c0] w fun e w' => ∃ v0_ : Value, e = .returned (v0_) ∧ Kd.R (Kd.int .u8) 5 w' w.heap.size (fun _ => True) v0_ r ∧ Below w.heap.size w w' := by
 have HR0 := Ad hr0; have HC0 := Ad hc0; clear hr0 hc0; have HB := Ad (Below.refl w.heap.size w); have H : (ga_Coins.l0 k l0 ([] : List Int) 0) = some r := h; clear h; have H' := Ad H; clear H
 go_enter Try.func22, Try.ntmps22
 go_wp2
 go_loopg [3, 4] k (fun kq v3 v4 w' => ∃ (x3_1 : List Int) (x4_1 : Int), v4 = .int .i64 x4_1 ∧ Aside0 (ga_Coins.l0 kq l0 x3_1 x4_1 = some r) ∧ Aside0 (kq ≤ k) ∧ Aside0 (Kd.R (Kd.int .u8) 5 w' w.heap.size (fun _ => True) v3 x3_1) ∧ Aside0 (Below w.heap.size w w'))
 case atStart => exact ⟨(([] : List Int)), (0), (by first | rfl | (refine qa_int ?_; simp <;> omega)), H', ⟨Nat.le_refl _⟩, ⟨by first | exact Kd.R_nil _ _ _ _ _ | exact Kd.S_nil _ _ _ _ _⟩, ⟨by repeat (first | (with_reducible first | exact HB.out | apply below_drew1))⟩⟩
 case round =>
  clear H'; obtain ⟨x3_1, x4_1, rfl, HA, HK1, HO_3, HB⟩ := hrel
  cases gk with
  | zero => exact absurd HA.out (by simp [ga_Coins.l0])
  | succ k1 =>
   have H := HA.out; clear HA
   simp only [ga_Coins.l0] at H
   by_cases c2 : x4_1 < (l0.length : Int)
   · rw [if_pos c2] at H
     have c2b0 : decide (x4_1 < (l0.length : Int)) = true := decide_eq_true c2; clear c2
     by_cases c3 : 0 ≤ x4_1
     · rw [if_pos c3] at H
       have c3b0 : decide (0 ≤ x4_1) = true := decide_eq_true c3; clear c3; replace H := Option.bind_eq_some_iff.mp H; obtain ⟨t295, A40, H⟩ := H; replace H : (if x3_1.length + t295.length < 140737488355328 then (ga_Coins.l0 k1 l0 (x3_1 ++ t295) (wrap64 (x4_1 + 1))) else (none)) = some r := H; have A4 := Ad A40; clear A40
       by_cases c5 : x3_1.length + t295.length < 140737488355328
       · rw [if_pos c5] at H
         have LMc5 := Ad c5; clear c5
         obtain ⟨y298, hy298⟩ : ∃ y_ : List Int, y_ = (x3_1 ++ t295) := ⟨_, rfl⟩
         replace H : (ga_Coins.l0 k1 l0 y298 (wrap64 (x4_1 + 1))) = some r := by first | (rw [hy298]; with_reducible exact H) | exact H
         have Ny298 := Ad hy298; clear hy298; have H' := Ad H; clear H; have p294 : 0 ≤ (x4_1 : Int) := of_decide_eq_true (by first | (with_reducible assumption)); have q294 : x4_1 < (l0.length : Int) := of_decide_eq_true (by first | (with_reducible assumption)); obtain ⟨ad294, e294, hx294_0⟩ := Kd.at_int HR0.out x4_1 p294 q294; cases e294; replace hx294_0 := (HB.out.cell (World.block_lt_of_cell? w _ hx294_0)).trans hx294_0; replace p294 := eq_true p294; replace q294 := eq_true q294
         go_wp2_with (first | ((with_reducible refine gate_callee (f := 39) rfl ?_); refine goesL_ (some 16) rfl rfl Try.func39 (by kernel_rfl) rfl #[.int .u64 (rd l0 x4_1)] rfl (by (try simp only [List.map_toArray, List.map_cons, List.map_nil]); first | rfl | (refine qa_arr ?_; (repeat' (first | rfl | refine qa_cons ?_ ?_ | refine qa_int ?_ | refine qa_agg ?_ | refine qa_arr ?_ | omega)); done)) ?_; (with_reducible refine (ga_Coin.calls k1 (rd l0 x4_1) t295 _ A4.out).mono ?_); rintro e w6 ⟨v296, rfl, ho0, hb⟩; refine ⟨_, rfl, ?_⟩; have HO297 := Ad (Kd.R_lower (Kd.R_new' ho0 (Kd.R_lt (by exact HO_3.out))) (below_size (by repeat (first | (with_reducible first | exact HB.out | apply below_drew1))))); replace HO_3 := Ad (Kd.R_elder' (by exact HO_3.out) (Kd.R_base ho0) hb); replace HB := Ad (below_step (by repeat (first | (with_reducible first | exact HB.out | apply below_drew1))) hb); (try clear hb); (try clear hb2); (try clear hk); (try clear hi); (try clear ho0); obtain ⟨Ao8, co8, eo8⟩ := Kd.R_slice HO297.out; subst eo8) | ((with_reducible refine gate_builtin (b := .append) (xs := #[.tmp 11, .tmp 16]) rfl ?_); at_builtin; refine Kd.R_append_rows (Kd.int .u8) (w0 := w) w.heap.size rfl (.tmp 11) (.tmp 16) 59 5 (.int .u8 0) 1 rfl Try.underlying59 info5 rfl (by decide) (by omega) u3 x3_1 t295 _ _ _ (fun k_ => some k_ ≠ (.slice Ao8 t295.length co8 : Value).ownBlock) (fun _ => False) rfl rfl ?aO ?aR (fun _ _ h => h) (fun _ h => h.elim) ?aF ?aB ?aS ?aL ?_; (case aR => repeat (first | exact (Kd.R_reads' HO297.out).2.2 | (with_reducible refine Kd.C_drew ?_))); (case aB => exact (by repeat (first | (with_reducible first | exact HB.out | apply below_drew1)))); (case aF => exact (fun k_ hk => Kd.fresh' (Kd.R_lt (by exact HO297.out)) k_ hk)); (case aO => exact (by exact Kd.R_mono HO_3.out (fun _ hk => hk.2))); (case aS => exact (below_size (by repeat (first | (with_reducible first | exact HB.out | apply below_drew1))))); (case aL => have := LMc5.out; omega); intro v299 w7 ho hb hg hat; rw [← Ny298.out] at ho; replace HO297 := Ad (Kd.R_after (ok := (fun _ => True)) (by exact HO297.out) hg hat); replace HB := Ad (hb); have HO300 := Ad (ho); clear HO_3; clear ho hb hg hat))
         go_roundg k1
         case measure => have := HK1.out; omega
         case rel => exact ⟨(y298), (wrap64 (x4_1 + 1)), (by first | rfl | (refine qa_int ?_; simp <;> omega)), H', ⟨by have := HK1.out; omega⟩, ⟨by exact Kd.R_mono HO300.out (fun _ hk => trivial)⟩, ⟨by repeat (first | (with_reducible first | exact HB.out | apply below_drew1))⟩⟩
       · rw [if_neg c5] at H; exact absurd H (by simp)
     · rw [if_neg c3] at H; exact absurd H (by simp)
   · rw [if_neg c2] at H
     have c2b0 : decide (x4_1 < (l0.length : Int)) = false := decide_eq_false c2; clear c2; obtain rfl := Option.some.inj H
     simp only [Option.some.injEq, Prod.mk.injEq] at H
     obtain ⟨rfl⟩ := H; go_wp2; go_ret; exact ⟨_, by first | rfl | (simp [*, errW_none, errW_some] <;> rfl), by exact HO_3.out, by repeat (first | (with_reducible first | exact HB.out | apply below_drew1))⟩

end Go.Proofs.Ytmkjgiejnlmncaa.QTableBytes
