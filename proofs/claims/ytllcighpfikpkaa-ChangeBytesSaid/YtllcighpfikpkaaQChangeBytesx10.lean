-- Lines by a program of this session, for this claim.
import Derived.Test.YtllcighpfikpkaaQChangeBytesx0
namespace Go.Proofs.Ytllcighpfikpkaa.QChangeBytes
open Go.RowKit Go.Proofs.YtllcighpfikpkaaW.PrintWords Go.Proofs.YtllcighpfikpkaaW.PrintLast Go.Proofs.YtllcighpfikpkaaW.PrintMore
attribute [local go_sem] max2_int min2_int max_two min_two max_three min_three max_four min_four   -- for this text's walks alone
set_option linter.unusedVariables false
set_option maxRecDepth 100000
set_option maxHeartbeats 8000000
set_option linter.unusedSimpArgs false

/-! ### gb_begun: function 45 -/
def gb_begun.f (a0_0 : Int) (a0_1 : Int) : Option (List Int) := (some (([(a0_0 / 16777216) % 256, (a0_0 / 65536) % 256, (a0_0 / 256) % 256, (a0_0) % 256] : List Int) : List Int)).bind fun y245 => (if 0 ≤ (wrap64 (Int.tdiv (wrap64 ((wrap64 (a0_1)) + 7)) 8)) then (if (wrap64 (Int.tdiv (wrap64 ((wrap64 (a0_1)) + 7)) 8)) ≤ (y245.length : Int) then (some (y245.take ((wrap64 (Int.tdiv (wrap64 ((wrap64 (a0_1)) + 7)) 8)) : Int).toNat)) else (none)) else (none))
theorem gb_begun.calls (a0_0 : Int) (a0_1 : Int) (r : List Int) (w : World) (h : gb_begun.f a0_0 a0_1 = some r) :
 Calls Try.prog 45 #[.agg #[.int .u32 a0_0, .int .u8 a0_1]] w fun e w' => ∃ v0_ : Value, e = .returned (v0_) ∧ Kd.R (Kd.int .u8) 5 w' w.heap.size (fun _ => True) v0_ r ∧ Below w.heap.size w w' := by
 have hu25 := Try.underlying25; have HB := Aside0.mk (Below.refl w.heap.size w); have H : ((some (([(a0_0 / 16777216) % 256, (a0_0 / 65536) % 256, (a0_0 / 256) % 256, (a0_0) % 256] : List Int) : List Int)).bind fun y245 => (if 0 ≤ (wrap64 (Int.tdiv (wrap64 ((wrap64 (a0_1)) + 7)) 8)) then (if (wrap64 (Int.tdiv (wrap64 ((wrap64 (a0_1)) + 7)) 8)) ≤ (y245.length : Int) then (some (y245.take ((wrap64 (Int.tdiv (wrap64 ((wrap64 (a0_1)) + 7)) 8)) : Int).toNat)) else (none)) else (none))) = some r := h; clear h
 obtain ⟨y245, hy245⟩ : ∃ y_ : List Int, y_ = (([(a0_0 / 16777216) % 256, (a0_0 / 65536) % 256, (a0_0 / 256) % 256, (a0_0) % 256] : List Int)) := ⟨_, rfl⟩
 replace H : (if 0 ≤ (wrap64 (Int.tdiv (wrap64 ((wrap64 (a0_1)) + 7)) 8)) then (if (wrap64 (Int.tdiv (wrap64 ((wrap64 (a0_1)) + 7)) 8)) ≤ (y245.length : Int) then (some (y245.take ((wrap64 (Int.tdiv (wrap64 ((wrap64 (a0_1)) + 7)) 8)) : Int).toNat)) else (none)) else (none)) = some r := by first | (have H2_ := (Option.bind_some _ _).symm.trans H; rw [hy245]; with_reducible exact H2_) | exact H
 have Ny245 := Aside0.mk hy245; clear hy245
 obtain ⟨ji2, hji2⟩ : ∃ j_ : Int, (wrap64 (Int.tdiv (wrap64 ((wrap64 (a0_1)) + 7)) 8)) = j_ := ⟨_, rfl⟩
 replace H : (if 0 ≤ (ji2) then (if (ji2) ≤ (y245.length : Int) then (some (y245.take ((ji2) : Int).toNat)) else (none)) else (none)) = some r := by first | (rw [hji2] at H; exact H)
 have hji2w : (IntKind.i64.wrap (Int.tdiv (wrap64 ((wrap64 (a0_1)) + 7)) 8)) = ji2 := (i64_w _).trans hji2
 by_cases c3 : 0 ≤ (ji2)
 · rw [if_pos c3] at H
   have c3b0 := eq_true c3; have c3b1 : decide (0 ≤ (ji2)) = true := decide_eq_true c3; clear c3
   by_cases c4 : (ji2) ≤ (y245.length : Int)
   · rw [if_pos c4] at H
     have c4b0 := eq_true c4; have c4b1 : decide ((ji2) ≤ (y245.length : Int)) = true := decide_eq_true c4; clear c4
     obtain ⟨y248, hy248⟩ : ∃ y_ : List Int, y_ = (y245.take ((ji2) : Int).toNat) := ⟨_, rfl⟩
     replace H : (some y248) = some r := by first | (rw [hy248]; with_reducible exact H) | exact H
     have Ny248 := Aside0.mk hy248; clear hy248; obtain rfl := Option.some.inj H
     simp only [Option.some.injEq, Prod.mk.injEq] at H
     obtain ⟨rfl⟩ := H
     go_enter Try.func45, Try.ntmps45
     go_wp2_with (first | ((with_reducible refine gate_dst (N := 1) rfl ?_); refine box_event ?hg (N := 1) ?hd (cs := #[.int .u32 a0_0, .int .u8 a0_1]) (t := 25) ?hr ?_; (case hd => rfl); (case hg => rfl); (case hr => first | (go_simp; done)); intro gb244 hg w5 hbox hb; have n0_ := Aside0.mk (below_step (by repeat (first | (with_reducible first | exact HB.out | apply below_drew1))) hb); have n1_ := Aside0.mk (hbox); have n2_ := Aside0.mk ((by rw [hg]; exact (below_size (by repeat (first | (with_reducible first | exact HB.out | apply below_drew1)))) : w.heap.size ≤ gb244)); have n3_ := Aside0.mk ((by rw [hg]; exact (below_size (by repeat (first | (with_reducible first | exact HB.out | apply below_drew1)))) : w.heap.size ≤ gb244)); clear HB; revert n0_ n1_ n2_ n3_; intro HB BK244 GW244 GE244; clear hb hbox hg; have hcz6_0 : w5.cell? ⟨gb244, 0, none⟩ = some (.int .u32 a0_0) := (blk_cell BK244.out 0).trans rfl; have hcz6_1 : w5.cell? ⟨gb244, 1, none⟩ = some (.int .u8 a0_1) := (blk_cell BK244.out 1).trans rfl; have hfz6_0 := blk_frozen BK244.out 0; have hfz6_1 := blk_frozen BK244.out 1) | ((with_reducible refine gate_dst (N := 19) rfl ?_); refine Kd.R_lit (Kd.int .u8) _ 5 ?hg (N := 19) ?hd (xs := ([(a0_0 / 16777216) % 256, (a0_0 / 65536) % 256, (a0_0 / 256) % 256, (a0_0) % 256] : List Int)) (inner := [.int .u8 ((a0_0 / 16777216) % 256), .int .u8 ((a0_0 / 65536) % 256), .int .u8 ((a0_0 / 256) % 256), .int .u8 ((a0_0) % 256)]) (ok := fun _ => True) (okp := fun _ => True) ?hr ?hp (fun _ hk => hk) trivial (Below.refl _ _) (Nat.le_refl _) (by simp) ?_; (case hd => rfl); (case hg => rfl); (case hr => first | (go_simp; done)); (case hp => exact (Reps.one (show Kd.M (Kd.int .u8) _ _ _ ((a0_0 / 16777216) % 256) [.int .u8 ((a0_0 / 16777216) % 256)] from rfl) (Reps.one (show Kd.M (Kd.int .u8) _ _ _ ((a0_0 / 65536) % 256) [.int .u8 ((a0_0 / 65536) % 256)] from rfl) (Reps.one (show Kd.M (Kd.int .u8) _ _ _ ((a0_0 / 256) % 256) [.int .u8 ((a0_0 / 256) % 256)] from rfl) (Reps.one (show Kd.M (Kd.int .u8) _ _ _ ((a0_0) % 256) [.int .u8 ((a0_0) % 256)] from rfl) (Reps.none _ _)))))); intro v246 w7 ho8 hb hg_ hnew_; clear hg_ hnew_; (first | rw [← Ny245.out] at ho8); have n0_ := Aside0.mk (Kd.R_lower ho8 (below_size (by repeat (first | (with_reducible first | exact HB.out | refine below_set ?_ GE244.out))))); have n1_ := Aside0.mk (blk_below BK244.out hb); have n2_ := Aside0.mk (below_step (by repeat (first | (with_reducible first | exact HB.out | refine below_set ?_ GE244.out))) hb); clear BK244 HB; revert n0_ n1_ n2_; intro HO247 BK244 HB; clear hb ho8; have hcz9_0 : w7.cell? ⟨gb244, 0, none⟩ = some (.int .u32 a0_0) := (blk_cell BK244.out 0).trans rfl; have hcz9_1 : w7.cell? ⟨gb244, 1, none⟩ = some (.int .u8 a0_1) := (blk_cell BK244.out 1).trans rfl; have hfz9_0 := blk_frozen BK244.out 0; have hfz9_1 := blk_frozen BK244.out 1; obtain ⟨Ao10, co10, eo10⟩ := Kd.R_slice HO247.out; subst eo10; have q11 : ((ji2) : Int) ≤ ((y245.length : Int) : Int) := of_decide_eq_true (by with_reducible assumption); obtain ⟨i011, hi011, _, hsz11, _⟩ := info_parts info5; have hcut11 := cut_to (P := Try.prog) 33 5 .i64 Try.underlying33 hi011 Ao10 y245.length co10 (ji2) (of_decide_eq_true (by with_reducible assumption)) q11 (Kd.R_reads' HO247.out).2.1; have hr11 := Kd.R_take (m := ((ji2) : Int).toNat) HO247.out (by omega); have hy11 : y248.length = ((ji2) : Int).toNat := (by rw [Ny248.out, List.length_take]; omega); rw [← Ny248.out] at hr11; rw [← hy11] at hr11 hcut11; clear hy11 hi011 hsz11 HO247; have HO250 := Aside0.mk hr11; clear hr11; replace q11 := eq_true q11))
     go_ret; exact ⟨_, by first | rfl | (simp [*, errW_none, errW_some] <;> rfl), by exact HO250.out, by repeat (first | (with_reducible first | exact HB.out | refine below_set ?_ GE244.out))⟩
   rw [if_neg c4] at H; exact absurd H (by simp)
 rw [if_neg c3] at H; exact absurd H (by simp)

/-! ### ga_bits: function 50 -/
def ga_bits.l0 : Nat → Int → Int → Option (Int)
 | 0, _, _ => none
 | k + 1, x0, x3 => if x0 > 0 then (ga_bits.l0 k (IntKind.u64.wrap (Int.tdiv x0 2)) (wrap64 (x3 + 1))) else (some x3)
def ga_bits.f (k : Nat) (a0 : Int) : Option (Int) := ga_bits.l0 k a0 0
theorem ga_bits.mono_l : ∀ k, (∀ y0 y1, LeO (ga_bits.l0 k y0 y1) (ga_bits.l0 (k + 1) y0 y1))
 | 0 => fun _ _ r h => by simp [ga_bits.l0] at h
 | k + 1 => by
  have ih0 := ga_bits.mono_l k; intro y0 y1
  unfold ga_bits.l0
  repeat' first
  | (with_reducible exact ih0 ..)
  | (with_reducible exact LeO.refl ..)
  | (with_reducible exact LeO.none ..)
  | (with_reducible refine LeO.ite ?_ ?_)
  | (with_reducible refine LeO.bind ?_ (fun _ => ?_))
theorem ga_bits.mono : ∀ a0 k, LeO (ga_bits.f k a0) (ga_bits.f (k + 1) a0) := by
 intro a0 k; have ih0 := ga_bits.mono_l k
 unfold ga_bits.f
 repeat' first
  | (with_reducible exact ih0 ..)
  | (with_reducible exact LeO.refl ..)
  | (with_reducible exact LeO.none ..)
  | (with_reducible refine LeO.ite ?_ ?_)
  | (with_reducible refine LeO.bind ?_ (fun _ => ?_))
theorem ga_bits.calls (k : Nat) (a0 : Int) (r : Int) (w : World) (h : ga_bits.f k a0 = some r) :
 Calls Try.prog 50 #[.int .u64 a0] w fun e w' => e = .returned (.int .i64 r) ∧ Drawn0 w w' := by
 have H : (ga_bits.l0 k a0 0) = some r := h; clear h; have H' := Aside0.mk H; clear H
 go_enter Try.func50, Try.ntmps50
 go_wp2
 go_loopg [0, 3] k (fun kq v0 v3 w' => ∃ (x0_1 : Int) (x3_1 : Int), v0 = .int .u64 x0_1 ∧ v3 = .int .i64 x3_1 ∧ Aside0 (ga_bits.l0 kq x0_1 x3_1 = some r) ∧ Aside0 (kq ≤ k) ∧ Drawn0 w w')
 case atStart => exact ⟨(a0), (0), (by first | rfl | (refine qa_int ?_; simp <;> omega)), (by first | rfl | (refine qa_int ?_; simp <;> omega)), H', ⟨Nat.le_refl _⟩, by repeat (first | exact Drawn0.refl _)⟩
 case round =>
  clear H'; obtain ⟨x0_1, x3_1, rfl, rfl, HA, HK1, ⟨m1, rfl⟩⟩ := hrel
  cases gk with
  | zero => exact absurd HA.out (by simp [ga_bits.l0])
  | succ k1 =>
   have H := HA.out; clear HA
   simp only [ga_bits.l0] at H
   by_cases c2 : x0_1 > 0
   · rw [if_pos c2] at H
     have c2b0 : decide (0 < x0_1) = true := decide_eq_true c2; clear c2; have H' := Aside0.mk H; clear H; go_wp2
     go_roundg k1
     case measure => have := HK1.out; omega
     case rel => exact ⟨(IntKind.u64.wrap (Int.tdiv x0_1 2)), (wrap64 (x3_1 + 1)), (by first | rfl | (refine qa_int ?_; simp <;> omega)), (by first | rfl | (refine qa_int ?_; simp <;> omega)), H', ⟨by have := HK1.out; omega⟩, by repeat (first | exact Drawn0.refl _ | apply Drawn0.step)⟩
   rw [if_neg c2] at H; have c2b0 : decide (0 < x0_1) = false := decide_eq_false c2; clear c2; obtain rfl := Option.some.inj H
   simp only [Option.some.injEq, Prod.mk.injEq] at H
   obtain ⟨rfl⟩ := H; go_wp2; go_ret; exact ⟨by first | rfl | (refine qa_int ?_; simp <;> omega), by repeat (first | exact Drawn0.refl _ | apply Drawn0.step)⟩

/-! ### ga_Coin: function 32 -/
mutual
def ga_Coin.j1 : Nat → Int → Int → Option (List Int)
 | 0, _, _ => none
 | k + 1, x0, x3 => if x3 = 9 then (ga_Coin.l1 k x0 (([255] : List Int)) 7) else (if 0 ≤ x3 then (if (x3 : Int).toNat ≤ 281474976710656 then (ga_Coin.l2 k x0 x3 (List.replicate (x3 : Int).toNat 0) (wrap64 (x3 - 1))) else (none)) else (none))
def ga_Coin.l1 : Nat → Int → List Int → Int → Option (List Int)
 | 0, _, _, _ => none
 | k + 1, x0, x4, x5 => if x5 ≥ 0 then (if 0 ≤ (wrap64 (8 * x5)) then (if x4.length < 140737488355328 then (ga_Coin.l1 k x0 (x4 ++ [(shr .u64 x0 (wrap64 (8 * x5))) % 256]) (wrap64 (x5 - 1))) else (none)) else (none)) else (some x4)
def ga_Coin.l2 : Nat → Int → Int → List Int → Int → Option (List Int)
 | 0, _, _, _, _ => none
 | k + 1, x0, x3, x6, x7 => if x7 ≥ 0 then (if 0 ≤ x7 then (if x7 < (x6.length : Int) then (ga_Coin.l2 k (IntKind.u64.wrap (Int.tdiv x0 256)) x3 (x6.set (x7 : Int).toNat ((Int.tmod x0 256) % 256)) (wrap64 (x7 - 1))) else (none)) else (none)) else (ga_Coin.l3 k x3 x6 128 1)
def ga_Coin.l3 : Nat → Int → List Int → Int → Int → Option (List Int)
 | 0, _, _, _, _ => none
 | k + 1, x3, x6, x8, x9 => if x9 < x3 then (if 0 < (x6.length : Int) then (ga_Coin.l3 k x3 (x6.set (0 : Int).toNat (((rd x6 0) + (x8)) % 256)) (wrap64 (Int.tdiv x8 2)) (wrap64 (x9 + 1))) else (none)) else (some x6)
def ga_Coin.l0 : Nat → Int → Int → Option (List Int)
 | 0, _, _ => none
 | k + 1, x0, x3 => if x3 < 9 then ((ga_bits.f k x0).bind fun t251 => (if t251 > (wrap64 (7 * x3)) then (ga_Coin.l0 k x0 (wrap64 (x3 + 1))) else (ga_Coin.j1 k x0 x3))) else (ga_Coin.j1 k x0 x3)
end
def ga_Coin.f (k : Nat) (a0 : Int) : Option (List Int) := ga_Coin.l0 k a0 1
theorem ga_Coin.mono_l : ∀ k, (∀ y0 y1, LeO (ga_Coin.j1 k y0 y1) (ga_Coin.j1 (k + 1) y0 y1)) ∧ (∀ y0 y1 y2, LeO (ga_Coin.l1 k y0 y1 y2) (ga_Coin.l1 (k + 1) y0 y1 y2)) ∧ (∀ y0 y1 y2 y3, LeO (ga_Coin.l2 k y0 y1 y2 y3) (ga_Coin.l2 (k + 1) y0 y1 y2 y3)) ∧ (∀ y0 y1 y2 y3, LeO (ga_Coin.l3 k y0 y1 y2 y3) (ga_Coin.l3 (k + 1) y0 y1 y2 y3)) ∧ (∀ y0 y1, LeO (ga_Coin.l0 k y0 y1) (ga_Coin.l0 (k + 1) y0 y1))
 | 0 => ⟨fun _ _ r h => by simp [ga_Coin.j1] at h, fun _ _ _ r h => by simp [ga_Coin.l1] at h, fun _ _ _ _ r h => by simp [ga_Coin.l2] at h, fun _ _ _ _ r h => by simp [ga_Coin.l3] at h, fun _ _ r h => by simp [ga_Coin.l0] at h⟩
 | k + 1 => by
  obtain ⟨ih0, ih1, ih2, ih3, ih4⟩ := ga_Coin.mono_l k; refine ⟨?_, ?_, ?_, ?_, ?_⟩
  · intro y0 y1
    unfold ga_Coin.j1
    repeat' first
    | (with_reducible exact ih0 ..)
    | (with_reducible exact ih1 ..)
    | (with_reducible exact ih2 ..)
    | (with_reducible exact ih3 ..)
    | (with_reducible exact ih4 ..)
    | (with_reducible exact ga_bits.mono ..)
    | (with_reducible exact LeO.refl ..)
    | (with_reducible exact LeO.none ..)
    | (with_reducible refine LeO.ite ?_ ?_)
    | (with_reducible refine LeO.bind ?_ (fun _ => ?_))
  · intro y0 y1 y2
    unfold ga_Coin.l1
    repeat' first
    | (with_reducible exact ih0 ..)
    | (with_reducible exact ih1 ..)
    | (with_reducible exact ih2 ..)
    | (with_reducible exact ih3 ..)
    | (with_reducible exact ih4 ..)
    | (with_reducible exact ga_bits.mono ..)
    | (with_reducible exact LeO.refl ..)
    | (with_reducible exact LeO.none ..)
    | (with_reducible refine LeO.ite ?_ ?_)
    | (with_reducible refine LeO.bind ?_ (fun _ => ?_))
  · intro y0 y1 y2 y3
    unfold ga_Coin.l2
    repeat' first
    | (with_reducible exact ih0 ..)
    | (with_reducible exact ih1 ..)
    | (with_reducible exact ih2 ..)
    | (with_reducible exact ih3 ..)
    | (with_reducible exact ih4 ..)
    | (with_reducible exact ga_bits.mono ..)
    | (with_reducible exact LeO.refl ..)
    | (with_reducible exact LeO.none ..)
    | (with_reducible refine LeO.ite ?_ ?_)
    | (with_reducible refine LeO.bind ?_ (fun _ => ?_))
  · intro y0 y1 y2 y3
    unfold ga_Coin.l3
    repeat' first
    | (with_reducible exact ih0 ..)
    | (with_reducible exact ih1 ..)
    | (with_reducible exact ih2 ..)
    | (with_reducible exact ih3 ..)
    | (with_reducible exact ih4 ..)
    | (with_reducible exact ga_bits.mono ..)
    | (with_reducible exact LeO.refl ..)
    | (with_reducible exact LeO.none ..)
    | (with_reducible refine LeO.ite ?_ ?_)
    | (with_reducible refine LeO.bind ?_ (fun _ => ?_))
  intro y0 y1
  unfold ga_Coin.l0
  repeat' first
  | (with_reducible exact ih0 ..)
  | (with_reducible exact ih1 ..)
  | (with_reducible exact ih2 ..)
  | (with_reducible exact ih3 ..)
  | (with_reducible exact ih4 ..)
  | (with_reducible exact ga_bits.mono ..)
  | (with_reducible exact LeO.refl ..)
  | (with_reducible exact LeO.none ..)
  | (with_reducible refine LeO.ite ?_ ?_)
  | (with_reducible refine LeO.bind ?_ (fun _ => ?_))
theorem ga_Coin.mono : ∀ a0 k, LeO (ga_Coin.f k a0) (ga_Coin.f (k + 1) a0) := by
 intro a0 k; obtain ⟨ih0, ih1, ih2, ih3, ih4⟩ := ga_Coin.mono_l k
 unfold ga_Coin.f
 repeat' first
  | (with_reducible exact ih0 ..)
  | (with_reducible exact ih1 ..)
  | (with_reducible exact ih2 ..)
  | (with_reducible exact ih3 ..)
  | (with_reducible exact ih4 ..)
  | (with_reducible exact ga_bits.mono ..)
  | (with_reducible exact LeO.refl ..)
  | (with_reducible exact LeO.none ..)
  | (with_reducible refine LeO.ite ?_ ?_)
  | (with_reducible refine LeO.bind ?_ (fun _ => ?_))
theorem ga_Coin.calls (k : Nat) (a0 : Int) (r : List Int) (w : World) (h : ga_Coin.f k a0 = some r) :
 Calls Try.prog 32 #[.int .u64 a0] w fun e w' => ∃ v0_ : Value, e = .returned (v0_) ∧ Kd.R (Kd.int .u8) 5 w' w.heap.size (fun _ => True) v0_ r ∧ Below w.heap.size w w' := by
 have HB := Aside0.mk (Below.refl w.heap.size w); have H : (ga_Coin.l0 k a0 1) = some r := h; clear h; have HC2 := Aside0.mk H; clear H
 go_enter Try.func32, Try.ntmps32
 go_upto_block 0 with (fail)
 go_cut [3] (fun v3 wc => ∃ (kq : Nat) (x3_1 : Int), v3 = .int .i64 x3_1 ∧ Aside0 (ga_Coin.j1 kq a0 x3_1 = some r) ∧ Aside0 (kq ≤ k) ∧ Aside0 (Below w.heap.size w wc))
 case first =>
  have H := HC2.out; clear HC2; have H' := Aside0.mk H; clear H; go_wp2
  go_loopg [3] k (fun kq v3 w' => ∃ (x3_1 : Int), v3 = .int .i64 x3_1 ∧ Aside0 (ga_Coin.l0 kq a0 x3_1 = some r) ∧ Aside0 (kq ≤ k) ∧ Aside0 (Below w.heap.size w w'))
  case atStart => exact ⟨(1), (by first | rfl | (refine qa_int ?_; simp <;> omega)), H', ⟨Nat.le_refl _⟩, ⟨by repeat (first | (with_reducible first | exact HB.out | apply below_drew1))⟩⟩
  case round =>
   clear H'
   try clear p2
   obtain ⟨x3_1, rfl, HA, HK1, HB⟩ := hrel
   cases gk with
   | zero => exact absurd HA.out (by simp [ga_Coin.l0])
   | succ k1 =>
    have H := HA.out; clear HA
    simp only [ga_Coin.l0] at H
    by_cases c3 : x3_1 < 9
    · rw [if_pos c3] at H
      have c3b0 : decide (x3_1 < 9) = true := decide_eq_true c3; clear c3
      (first | skip)
      replace H := Option.bind_eq_some_iff.mp H; obtain ⟨t251, A40, H⟩ := H; replace H : (if t251 > (wrap64 (7 * x3_1)) then (ga_Coin.l0 k1 a0 (wrap64 (x3_1 + 1))) else (ga_Coin.j1 k1 a0 x3_1)) = some r := H; have A4 := Aside0.mk A40; clear A40
      by_cases c5 : t251 > (wrap64 (7 * x3_1))
      · rw [if_pos c5] at H
        have c5b0 : decide ((wrap64 (7 * x3_1)) < t251) = true := decide_eq_true c5; clear c5; have H' := Aside0.mk H; clear H
        go_wp2_with (first | (go_at_call 50; (with_reducible refine (ga_bits.calls k1 a0 t251 _ A4.out).mono ?_); rintro e w' ⟨rfl, ⟨nd, rfl⟩⟩))
        go_roundg k1
        case measure => have := HK1.out; omega
        case rel => exact ⟨(wrap64 (x3_1 + 1)), (by first | rfl | (refine qa_int ?_; simp <;> omega)), H', ⟨by have := HK1.out; omega⟩, ⟨by repeat (first | (with_reducible first | exact HB.out | apply pw_below_drewN))⟩⟩
      rw [if_neg c5] at H; have c5b0 : decide ((wrap64 (7 * x3_1)) < t251) = false := decide_eq_false c5; clear c5; have H' := Aside0.mk H; clear H
      go_wp2_with (first | (go_at_call 50; (with_reducible refine (ga_bits.calls k1 a0 t251 _ A4.out).mono ?_); rintro e w' ⟨rfl, ⟨nd, rfl⟩⟩))
      go_meet
      case rel => exact ⟨_, (x3_1), (by first | rfl | (refine qa_int ?_; simp <;> omega)), H', ⟨by have := HK1.out; first | omega⟩, ⟨by repeat (first | (with_reducible first | exact HB.out | apply pw_below_drewN))⟩⟩
    rw [if_neg c3] at H; have c3b0 : decide (x3_1 < 9) = false := decide_eq_false c3; clear c3
    (first | skip)
    have H' := Aside0.mk H; clear H; go_wp2; go_meet
    case rel => exact ⟨_, (x3_1), (by first | rfl | (refine qa_int ?_; simp <;> omega)), H', ⟨by have := HK1.out; first | omega⟩, ⟨by repeat (first | (with_reducible first | exact HB.out | apply below_drew1))⟩⟩
 case rest =>
  clear HC2
  try clear p2
  try clear c3
  try clear c3b0
  try clear c5
  try clear c5b0
  try clear p2
  obtain ⟨kq, x3_1, rfl, HA, HJ1, HB⟩ := hcut
  cases kq with
  | zero => exact absurd HA.out (by simp [ga_Coin.j1])
  | succ kj1 =>
   have H := HA.out; clear HA
   simp only [ga_Coin.j1] at H
   by_cases c6 : x3_1 = 9
   · rw [if_pos c6] at H
     have c6b0 : (x3_1 == 9) = true := beq_iff_eq.mpr c6; have c6b1 : (x3_1 != 9) = false := bne_eq_false_iff_eq.mpr c6; clear c6
     obtain ⟨y252, hy252⟩ : ∃ y_ : List Int, y_ = (([255] : List Int)) := ⟨_, rfl⟩
     replace H : (ga_Coin.l1 kj1 a0 y252 7) = some r := by first | (rw [hy252]; with_reducible exact H) | exact H
     have Ny252 := Aside0.mk hy252; clear hy252; have H' := Aside0.mk H; clear H
     go_wp2_with (first | ((with_reducible refine gate_dst (N := 23) rfl ?_); refine Kd.R_lit (Kd.int .u8) _ 5 ?hg (N := 23) ?hd (xs := ([255] : List Int)) (inner := [.int .u8 255]) (ok := fun _ => True) (okp := fun _ => True) ?hr ?hp (fun _ hk => hk) trivial (Below.refl _ _) (Nat.le_refl _) (by simp) ?_; (case hd => rfl); (case hg => rfl); (case hr => first | (go_simp; done)); (case hp => exact (Reps.one (show Kd.M (Kd.int .u8) _ _ _ 255 [.int .u8 255] from rfl) (Reps.none _ _))); intro v253 w7 ho8 hb hg_ hnew_; clear hg_ hnew_; (first | rw [← Ny252.out] at ho8); have n0_ := Aside0.mk (Kd.R_lower ho8 (below_size (by repeat (first | (with_reducible first | exact HB.out | apply below_drew1))))); have n1_ := Aside0.mk (below_step (by repeat (first | (with_reducible first | exact HB.out | apply below_drew1))) hb); clear HB; revert n0_ n1_; intro HO254 HB; clear hb ho8))
     go_loopg [4, 5] kj1 (fun kq v4 v5 w' => ∃ (x4_2 : List Int) (x5_2 : Int), v5 = .int .i64 x5_2 ∧ Aside0 (ga_Coin.l1 kq a0 x4_2 x5_2 = some r) ∧ Aside0 (kq ≤ kj1) ∧ Aside0 (Kd.R (Kd.int .u8) 5 w' w.heap.size (fun _ => True) v4 x4_2) ∧ Aside0 (Below w.heap.size w w'))
     case atStart => exact ⟨(y252), (7), (by first | rfl | (refine qa_int ?_; simp <;> omega)), H', ⟨Nat.le_refl _⟩, ⟨by exact HO254.out⟩, ⟨by repeat (first | (with_reducible first | exact HB.out | apply below_drew1))⟩⟩
     case round =>
      clear H'
      try clear p2
      try clear c3
      try clear c3b0
      try clear c5
      try clear c5b0
      try clear c6
      try clear c6b0
      try clear c6b1
      try clear p6
      try clear p2
      obtain ⟨x4_2, x5_2, rfl, HA, HK2, HO_4, HB⟩ := hrel
      cases gk with
      | zero => exact absurd HA.out (by simp [ga_Coin.l1])
      | succ k2 =>
       have H := HA.out; clear HA
       simp only [ga_Coin.l1] at H
       by_cases c9 : x5_2 ≥ 0
       · rw [if_pos c9] at H
         have c9b0 : decide (0 ≤ x5_2) = true := decide_eq_true c9; clear c9
         obtain ⟨ji10, hji10⟩ : ∃ j_ : Int, (wrap64 (8 * x5_2)) = j_ := ⟨_, rfl⟩
         replace H : (if 0 ≤ (ji10) then (if x4_2.length < 140737488355328 then (ga_Coin.l1 k2 a0 (x4_2 ++ [(shr .u64 a0 (ji10)) % 256]) (wrap64 (x5_2 - 1))) else (none)) else (none)) = some r := by first | (rw [hji10] at H; exact H)
         have hji10w : (IntKind.i64.wrap (8 * x5_2)) = ji10 := (i64_w _).trans hji10
         by_cases c11 : 0 ≤ (ji10)
         · rw [if_pos c11] at H
           have c11b0 := eq_true c11; have c11b1 : decide (0 ≤ (ji10)) = true := decide_eq_true c11; clear c11
           obtain ⟨ji12, hji12⟩ : ∃ j_ : Int, (shr .u64 a0 (ji10)) = j_ := ⟨_, rfl⟩
           replace H : (if x4_2.length < 140737488355328 then (ga_Coin.l1 k2 a0 (x4_2 ++ [(ji12) % 256]) (wrap64 (x5_2 - 1))) else (none)) = some r := by first | (rw [hji12] at H; exact H)
           have hji12_ : (a0 / 2 ^ min (ji10).toNat 64) = ji12 := hji12; have hji12z : (ji10) ≤ 64 → (a0 / 2 ^ (ji10).toNat) = ji12 := shr_small hji12
           (try (have hji12y : 0 ≤ (ji10) := by omega))
           by_cases c13 : x4_2.length < 140737488355328
           · rw [if_pos c13] at H
             have LMc13 := Aside0.mk c13; clear c13
             obtain ⟨y255, hy255⟩ : ∃ y_ : List Int, y_ = (x4_2 ++ [(ji12) % 256]) := ⟨_, rfl⟩
             replace H : (ga_Coin.l1 k2 a0 y255 (wrap64 (x5_2 - 1))) = some r := by first | (rw [hy255]; with_reducible exact H) | exact H
             have Ny255 := Aside0.mk hy255; clear hy255; have H' := Aside0.mk H; clear H
             go_wp2_with (first | ((with_reducible refine gate_builtin (b := .append) (xs := #[.tmp 28, .tmp 34]) rfl ?_); at_builtin; refine Kd.R_append (Kd.int .u8) (w0 := w) w.heap.size rfl (.tmp 28) (.tmp 34) 33 5 (.int .u8 0) 1 rfl Try.underlying33 info5 rfl (by decide) (by omega) u4 x4_2 ((ji12) % 256) [.int .u8 ((ji12) % 256)] (fun _ => True) (fun _ => False) rfl rfl ?aP (fun _ hk => hk.elim) ?aF ?aO ?aB ?aS ?aL ?_; (case aP => exact rfl); (case aB => exact (by repeat (first | (with_reducible first | exact HB.out | apply below_drew1)))); (case aF => exact (fun _ _ => trivial)); (case aO => exact HO_4.out); (case aS => exact (below_size (by repeat (first | (with_reducible first | exact HB.out | apply below_drew1))))); (case aL => have := LMc13.out; omega); intro v256 w14 ho hb hg hat; rw [← Ny255.out] at ho; have n0_ := Aside0.mk (hb); have n1_ := Aside0.mk (ho); clear HB HO_4; revert n0_ n1_; intro HB HO257; clear ho hb hg hat))
             go_roundg k2
             case measure => have := HJ1.out; have := HK2.out; omega
             case rel => exact ⟨(y255), (wrap64 (x5_2 - 1)), (by first | rfl | (refine qa_int ?_; simp <;> omega)), H', ⟨by have := HJ1.out; have := HK2.out; omega⟩, ⟨by exact HO257.out⟩, ⟨by repeat (first | (with_reducible first | exact HB.out | apply below_drew1))⟩⟩
           rw [if_neg c13] at H; exact absurd H (by simp)
         rw [if_neg c11] at H; exact absurd H (by simp)
       rw [if_neg c9] at H; have c9b0 : decide (0 ≤ x5_2) = false := decide_eq_false c9; clear c9; obtain rfl := Option.some.inj H
       simp only [Option.some.injEq, Prod.mk.injEq] at H
       obtain ⟨rfl⟩ := H; go_wp2; go_ret; exact ⟨_, by first | rfl | (simp [*, errW_none, errW_some] <;> rfl), by exact HO_4.out, by repeat (first | (with_reducible first | exact HB.out | apply below_drew1))⟩
   rw [if_neg c6] at H; have c6b0 : (x3_1 == 9) = false := beq_eq_false_iff_ne.mpr c6; have c6b1 : (x3_1 != 9) = true := bne_iff_ne.mpr c6
   by_cases c15 : 0 ≤ x3_1
   · rw [if_pos c15] at H
     have c15b0 := eq_true c15; have c15b1 : decide (0 ≤ x3_1) = true := decide_eq_true c15; clear c15
     by_cases c16 : (x3_1 : Int).toNat ≤ 281474976710656
     · rw [if_pos c16] at H
       have c16b0 := eq_true c16; have c16b1 : decide ((x3_1 : Int).toNat ≤ 281474976710656) = true := decide_eq_true c16; clear c16
       obtain ⟨y258, hy258⟩ : ∃ y_ : List Int, y_ = (List.replicate (x3_1 : Int).toNat 0) := ⟨_, rfl⟩
       replace H : (ga_Coin.l2 kj1 a0 x3_1 y258 (wrap64 (x3_1 - 1))) = some r := by first | (rw [hy258]; with_reducible exact H) | exact H
       have Ny258 := Aside0.mk hy258; clear hy258; have H' := Aside0.mk H; clear H
       go_wp2_with (first | ((with_reducible refine gate_dst (N := 38) rfl ?_); refine Kd.R_make (Kd.int .u8) _ 5 rfl (N := 38) rfl 33 _ _ rfl x3_1 rfl rfl Try.underlying33 (.int .u8 0) 1 info5 rfl (by decide) (by omega) 0 (ok := fun _ => True) (okp := fun _ => True) rfl (fun _ hk => hk) trivial (of_decide_eq_true (by with_reducible assumption)) (Nat.le_trans (Nat.mul_le_mul_right _ (of_decide_eq_true (by with_reducible assumption) : x3_1.toNat ≤ 281474976710656)) (by omega)) (Below.refl _ _) (Nat.le_refl _) ?_; intro v259 w17 ho18 hb hg_ hnew_; clear hg_ hnew_; (first | rw [← Ny258.out] at ho18); have n0_ := Aside0.mk (Kd.R_lower ho18 (below_size (by repeat (first | (with_reducible first | exact HB.out | apply below_drew1))))); have n1_ := Aside0.mk (below_step (by repeat (first | (with_reducible first | exact HB.out | apply below_drew1))) hb); clear HB; revert n0_ n1_; intro HO260 HB; clear hb ho18))
       go_loopg [0, 7] kj1 (fun kq v0 v7 w' => ∃ (x0_2 : Int) (x6_2 : List Int) (x7_2 : Int), v0 = .int .u64 x0_2 ∧ v7 = .int .i64 x7_2 ∧ Aside0 (ga_Coin.l2 kq x0_2 x3_1 x6_2 x7_2 = some r) ∧ Aside0 (kq ≤ kj1) ∧ Aside0 (Kd.R (Kd.int .u8) 5 w' w.heap.size (fun _ => True) v259 x6_2) ∧ Aside0 (Below w.heap.size w w'))
       case atStart => exact ⟨(a0), (y258), (wrap64 (x3_1 - 1)), (by first | rfl | (refine qa_int ?_; simp <;> omega)), (by first | rfl | (refine qa_int ?_; simp <;> omega)), H', ⟨Nat.le_refl _⟩, ⟨by exact HO260.out⟩, ⟨by repeat (first | (with_reducible first | exact HB.out | apply below_drew1))⟩⟩
       case round =>
        clear H'
        try clear c1
        try clear p2
        try clear c3
        try clear c3b0
        try clear c5
        try clear c5b0
        try clear c6
        try clear c6b0
        try clear c6b1
        try clear p6
        try clear c9
        try clear c9b0
        try clear c11
        try clear c11b0
        try clear c11b1
        try clear c13
        try clear c15
        try clear c15b0
        try clear c15b1
        try clear c16
        try clear c16b0
        try clear c16b1
        try clear p2
        try clear p6
        obtain ⟨x0_2, x6_2, x7_2, rfl, rfl, HA, HK2, HO_6, HB⟩ := hrel
        cases gk with
        | zero => exact absurd HA.out (by simp [ga_Coin.l2])
        | succ k2 =>
         have H := HA.out; clear HA
         simp only [ga_Coin.l2] at H
         by_cases c19 : x7_2 ≥ 0
         · rw [if_pos c19] at H
           have c19b0 : decide (0 ≤ x7_2) = true := decide_eq_true c19; clear c19
           by_cases c20 : 0 ≤ x7_2
           · rw [if_pos c20] at H
             have c20b0 : decide (0 ≤ x7_2) = true := decide_eq_true c20; clear c20
             by_cases c21 : x7_2 < (x6_2.length : Int)
             · rw [if_pos c21] at H
               have c21b0 : decide (x7_2 < (x6_2.length : Int)) = true := decide_eq_true c21; clear c21
               obtain ⟨y261, hy261⟩ : ∃ y_ : List Int, y_ = (x6_2.set (x7_2 : Int).toNat ((Int.tmod x0_2 256) % 256)) := ⟨_, rfl⟩
               replace H : (ga_Coin.l2 k2 (IntKind.u64.wrap (Int.tdiv x0_2 256)) x3_1 y261 (wrap64 (x7_2 - 1))) = some r := by first | (rw [hy261]; with_reducible exact H) | exact H
               have Ny261 := Aside0.mk hy261; clear hy261; have H' := Aside0.mk H; clear H; have p22 : 0 ≤ (x7_2 : Int) := of_decide_eq_true (by with_reducible assumption); have q22 : (x7_2 : Int) < ((x6_2.length : Int) : Int) := of_decide_eq_true (by with_reducible assumption); obtain ⟨go22, co22, eo22, gb22, gl22, cl22, HG22⟩ := Kd.R_form HO_6.out (by omega)
               (first | cases eo22)
               have GB22 := Aside0.mk gb22; have GG22 := Aside0.mk HG22; clear gb22 gl22 HG22; obtain ⟨hx22_0, hf22_0⟩ := Kd.R_celln 0 HO_6.out (x7_2 : Int) p22 q22; replace p22 := eq_true p22; replace q22 := eq_true q22; have HP23 := Kd.R_putg HO_6.out (x7_2 : Int) ((Int.tmod x0_2 256) % 256)
               go_wp2_with (first | ((with_reducible refine gate_store (t := 5) (p := 50) rfl ?_); refine store_event (t := 5) (p := 50) (v := ?vo_w24) (w1 := (wr.setCell ⟨go22, (x7_2 : Int).toNat, none⟩ (.int .u8 ((Int.tmod x0_2 256) % 256)))) ?hg ?ho ?hn ?hr ?_; (case ho => rfl); (case hg => rfl); (case hn => rfl); (case hr => first | (go_simp; done)); intro w24 hw; have hg : wr.grownBy w24 (some go22) := (by rw [hw]; exact HP23.2); have hp_ : Kd.R (Kd.int .u8) 5 w24 w.heap.size (fun _ => True) (.slice (some ⟨go22, 0, none⟩) x6_2.length co22) y261 := (by rw [hw, Ny261.out]; exact HP23.1); clear HP23; have n0_ := Aside0.mk (hp_); have n1_ := Aside0.mk ((by rw [hw]; exact below_set (HB.out) GB22.out : Below w.heap.size w w24)); clear HO_6 HB; revert n0_ n1_; intro HO_6 HB; clear hg hw hp_))
               go_roundg k2
               case measure => have := HJ1.out; have := HK2.out; omega
               case rel => exact ⟨(IntKind.u64.wrap (Int.tdiv x0_2 256)), (y261), (wrap64 (x7_2 - 1)), (by first | rfl | (refine qa_int ?_; simp <;> omega)), (by first | rfl | (refine qa_int ?_; simp <;> omega)), H', ⟨by have := HJ1.out; have := HK2.out; omega⟩, ⟨by exact HO_6.out⟩, ⟨by repeat (first | (with_reducible first | exact HB.out | apply below_drew1))⟩⟩
             rw [if_neg c21] at H; exact absurd H (by simp)
           rw [if_neg c20] at H; exact absurd H (by simp)
         rw [if_neg c19] at H; have c19b0 : decide (0 ≤ x7_2) = false := decide_eq_false c19; clear c19; have H' := Aside0.mk H; clear H; go_wp2
         go_loopg [8, 9] k2 (fun kq v8 v9 w' => ∃ (x6_3 : List Int) (x8_3 : Int) (x9_3 : Int), v8 = .int .i64 x8_3 ∧ v9 = .int .i64 x9_3 ∧ Aside0 (ga_Coin.l3 kq x3_1 x6_3 x8_3 x9_3 = some r) ∧ Aside0 (kq ≤ k2) ∧ Aside0 (Kd.R (Kd.int .u8) 5 w' w.heap.size (fun _ => True) v259 x6_3) ∧ Aside0 (Below w.heap.size w w'))
         case atStart => exact ⟨(x6_2), (128), (1), (by first | rfl | (refine qa_int ?_; simp <;> omega)), (by first | rfl | (refine qa_int ?_; simp <;> omega)), H', ⟨Nat.le_refl _⟩, ⟨by exact HO_6.out⟩, ⟨by repeat (first | (with_reducible first | exact HB.out | apply below_drew1))⟩⟩
         case round =>
          clear H'
          try clear c1
          try clear c2
          try clear p2
          try clear q2
          try clear hx2
          try clear hf2
          try clear c3
          try clear c3b0
          try clear c5
          try clear c5b0
          try clear c6
          try clear c6b0
          try clear c6b1
          try clear p6
          try clear c9
          try clear c9b0
          try clear c11
          try clear c11b0
          try clear c11b1
          try clear c13
          try clear c15
          try clear c15b0
          try clear c15b1
          try clear c16
          try clear c16b0
          try clear c16b1
          try clear c19
          try clear c19b0
          try clear c20
          try clear c20b0
          try clear c21
          try clear c21b0
          try clear p22
          try clear q22
          try clear hx22
          try clear hf22
          try clear hx22_0
          try clear p2
          try clear p22
          try clear p6
          try clear q22
          obtain ⟨x6_3, x8_3, x9_3, rfl, rfl, HA, HK3, HO_6, HB⟩ := hrel
          cases gk with
          | zero => exact absurd HA.out (by simp [ga_Coin.l3])
          | succ k3 =>
           have H := HA.out; clear HA
           simp only [ga_Coin.l3] at H
           by_cases c25 : x9_3 < x3_1
           · rw [if_pos c25] at H
             have c25b0 : decide (x9_3 < x3_1) = true := decide_eq_true c25; clear c25
             by_cases c26 : 0 < (x6_3.length : Int)
             · rw [if_pos c26] at H
               have c26b0 : decide (0 < (x6_3.length : Int)) = true := decide_eq_true c26; have c26b1 : decide (0 < x6_3.length) = true := decide_eq_true (by omega); clear c26
               obtain ⟨y263, hy263⟩ : ∃ y_ : List Int, y_ = (x6_3.set (0 : Int).toNat (((rd x6_3 0) + (x8_3)) % 256)) := ⟨_, rfl⟩
               replace H : (ga_Coin.l3 k3 x3_1 y263 (wrap64 (Int.tdiv x8_3 2)) (wrap64 (x9_3 + 1))) = some r := by first | (rw [hy263]; with_reducible exact H) | exact H
               have Ny263 := Aside0.mk hy263; clear hy263; have H' := Aside0.mk H; clear H; obtain ⟨Ao28, co28, eo28⟩ := Kd.R_slice HO_6.out; subst eo28; have p262 : 0 ≤ (0 : Int) := (by omega); have q262 : 0 < (x6_3.length : Int) := of_decide_eq_true (by with_reducible assumption); obtain ⟨ad262, e262, hx262_0⟩ := Kd.at_int (Kd.R_reads' HO_6.out).2.2 0 p262 q262; cases e262; have qi262 : (0 < x6_3.length) = True := eq_true (by omega)
               (try rw [show ((0 : Int)).toNat = 0 from rfl] at hx262_0)
               (try rw [Addr.add_zero'] at hx262_0)
               replace p262 := eq_true p262; replace q262 := eq_true q262; have p27 : 0 ≤ (0 : Int) := (by omega); have q27 : (0 : Int) < ((x6_3.length : Int) : Int) := of_decide_eq_true (by with_reducible assumption); have qi27 : (0 < x6_3.length) = True := eq_true (by omega); obtain ⟨go27, co27, eo27, gb27, gl27, cl27, HG27⟩ := Kd.R_form HO_6.out (by omega)
               (first | cases eo27)
               have GB27 := Aside0.mk gb27; have GG27 := Aside0.mk HG27; clear gb27 gl27 HG27
               (first | skip)
               obtain ⟨hx27_0, hf27_0⟩ := Kd.R_celln 0 HO_6.out (0 : Int) p27 q27
               (try rw [show ((0 : Int)).toNat = 0 from rfl] at hx27_0)
               (try simp only [Nat.reduceMul, Nat.zero_mul, Nat.zero_add, Nat.reduceAdd] at hx27_0)
               (try rw [show ((0 : Int)).toNat = 0 from rfl] at hf27_0)
               (try simp only [Nat.reduceMul, Nat.zero_mul, Nat.zero_add, Nat.reduceAdd] at hf27_0)
               replace p27 := eq_true p27; replace q27 := eq_true q27; have HP29 := Kd.R_putg HO_6.out (0 : Int) (((rd x6_3 0) + (x8_3)) % 256)
               go_wp2_with (first | ((with_reducible refine gate_store (t := 5) (p := 64) rfl ?_); refine store_event (t := 5) (p := 64) (v := ?vo_w30) (w1 := (wr.setCell ⟨go27, (0 : Int).toNat, none⟩ (.int .u8 (((rd x6_3 0) + (x8_3)) % 256)))) ?hg ?ho ?hn ?hr ?_; (case ho => rfl); (case hg => rfl); (case hn => rfl); (case hr => first | (go_simp; done)); intro w30 hw; have hg : wr.grownBy w30 (some go27) := (by rw [hw]; exact HP29.2); have hp_ : Kd.R (Kd.int .u8) 5 w30 w.heap.size (fun _ => True) (.slice (some ⟨go27, 0, none⟩) x6_3.length co28) y263 := (by rw [hw, Ny263.out]; exact HP29.1); clear HP29; have n0_ := Aside0.mk (hp_); have n1_ := Aside0.mk ((by rw [hw]; exact below_set (HB.out) GB27.out : Below w.heap.size w w30)); clear HO_6 HB; revert n0_ n1_; intro HO_6 HB; clear hg hw hp_))
               go_roundg k3
               case measure => have := HJ1.out; have := HK2.out; have := HK3.out; omega
               case rel => exact ⟨(y263), (wrap64 (Int.tdiv x8_3 2)), (wrap64 (x9_3 + 1)), (by first | rfl | (refine qa_int ?_; simp <;> omega)), (by first | rfl | (refine qa_int ?_; simp <;> omega)), H', ⟨by have := HJ1.out; have := HK2.out; have := HK3.out; omega⟩, ⟨by exact HO_6.out⟩, ⟨by repeat (first | (with_reducible first | exact HB.out | apply below_drew1))⟩⟩
             rw [if_neg c26] at H; exact absurd H (by simp)
           rw [if_neg c25] at H; have c25b0 : decide (x9_3 < x3_1) = false := decide_eq_false c25; clear c25; obtain rfl := Option.some.inj H
           simp only [Option.some.injEq, Prod.mk.injEq] at H
           obtain ⟨rfl⟩ := H; go_wp2; go_ret; exact ⟨_, by first | rfl | (simp [*, errW_none, errW_some] <;> rfl), by exact HO_6.out, by repeat (first | (with_reducible first | exact HB.out | apply below_drew1))⟩
     rw [if_neg c16] at H; exact absurd H (by simp)
   rw [if_neg c15] at H; exact absurd H (by simp)

/-! ### ga_Coins: function 46 -/
def ga_Coins.l0 : Nat → List Int → List Int → Int → Option (List Int)
 | 0, _, _, _ => none
 | k + 1, x0, x3, x4 => if x4 < (x0.length : Int) then (if 0 ≤ x4 then ((ga_Coin.f k (rd x0 x4)).bind fun t265 => (if x3.length + t265.length < 140737488355328 then (ga_Coins.l0 k x0 (x3 ++ t265) (wrap64 (x4 + 1))) else (none))) else (none)) else (some x3)
def ga_Coins.f (k : Nat) (l0 : List Int) : Option (List Int) := ga_Coins.l0 k l0 ([] : List Int) 0
theorem ga_Coins.mono_l : ∀ k, (∀ y0 y1 y2, LeO (ga_Coins.l0 k y0 y1 y2) (ga_Coins.l0 (k + 1) y0 y1 y2))
 | 0 => fun _ _ _ r h => by simp [ga_Coins.l0] at h
 | k + 1 => by
  have ih0 := ga_Coins.mono_l k; intro y0 y1 y2
  unfold ga_Coins.l0
  repeat' first
  | (with_reducible exact ih0 ..)
  | (with_reducible exact ga_Coin.mono ..)
  | (with_reducible exact LeO.refl ..)
  | (with_reducible exact LeO.none ..)
  | (with_reducible refine LeO.ite ?_ ?_)
  | (with_reducible refine LeO.bind ?_ (fun _ => ?_))
theorem ga_Coins.mono : ∀ a0 k, LeO (ga_Coins.f k a0) (ga_Coins.f (k + 1) a0) := by
 intro a0 k; have ih0 := ga_Coins.mono_l k
 unfold ga_Coins.f
 repeat' first
  | (with_reducible exact ih0 ..)
  | (with_reducible exact ga_Coin.mono ..)
  | (with_reducible exact LeO.refl ..)
  | (with_reducible exact LeO.none ..)
  | (with_reducible refine LeO.ite ?_ ?_)
  | (with_reducible refine LeO.bind ?_ (fun _ => ?_))
theorem ga_Coins.calls (k : Nat) (A0 : Option Addr) (c0 : Nat) (l0 : List Int) (r : List Int) (w : World) (hr0 : Kd.C (Kd.int .u64) w A0 l0.length l0) (hc0 : l0.length ≤ c0) (h : ga_Coins.f k l0 = some r) :
 Calls Try.prog 46 #[.slice A0 l0.length c0] w fun e w' => ∃ v0_ : Value, e = .returned (v0_) ∧ Kd.R (Kd.int .u8) 5 w' w.heap.size (fun _ => True) v0_ r ∧ Below w.heap.size w w' := by
 have HR0 := Aside0.mk hr0; have HC0 := Aside0.mk hc0; clear hr0 hc0; have HB := Aside0.mk (Below.refl w.heap.size w); have H : (ga_Coins.l0 k l0 ([] : List Int) 0) = some r := h; clear h; have H' := Aside0.mk H; clear H
 go_enter Try.func46, Try.ntmps46
 go_wp2
 go_loopg [3, 4] k (fun kq v3 v4 w' => ∃ (x3_1 : List Int) (x4_1 : Int), v4 = .int .i64 x4_1 ∧ Aside0 (ga_Coins.l0 kq l0 x3_1 x4_1 = some r) ∧ Aside0 (kq ≤ k) ∧ Aside0 (Kd.R (Kd.int .u8) 5 w' w.heap.size (fun _ => True) v3 x3_1) ∧ Aside0 (Below w.heap.size w w'))
 case atStart => exact ⟨(([] : List Int)), (0), (by first | rfl | (refine qa_int ?_; simp <;> omega)), H', ⟨Nat.le_refl _⟩, ⟨by first | exact Kd.R_nil _ _ _ _ _ | exact Kd.S_nil _ _ _ _ _⟩, ⟨by repeat (first | (with_reducible first | exact HB.out | apply below_drew1))⟩⟩
 case round =>
  clear H'; obtain ⟨x3_1, x4_1, rfl, HA, HK1, HO_3, HB⟩ := hrel
  cases gk with
  | zero => exact absurd HA.out (by simp [ga_Coins.l0])
  | succ k1 =>
   have H := HA.out; clear HA
   simp only [ga_Coins.l0] at H
   by_cases c2 : x4_1 < (l0.length : Int)
   · rw [if_pos c2] at H
     have c2b0 : decide (x4_1 < (l0.length : Int)) = true := decide_eq_true c2; clear c2
     by_cases c3 : 0 ≤ x4_1
     · rw [if_pos c3] at H
       have c3b0 : decide (0 ≤ x4_1) = true := decide_eq_true c3; clear c3; replace H := Option.bind_eq_some_iff.mp H; obtain ⟨t265, A40, H⟩ := H; replace H : (if x3_1.length + t265.length < 140737488355328 then (ga_Coins.l0 k1 l0 (x3_1 ++ t265) (wrap64 (x4_1 + 1))) else (none)) = some r := H; have A4 := Aside0.mk A40; clear A40
       by_cases c5 : x3_1.length + t265.length < 140737488355328
       · rw [if_pos c5] at H
         have LMc5 := Aside0.mk c5; clear c5
         obtain ⟨y268, hy268⟩ : ∃ y_ : List Int, y_ = (x3_1 ++ t265) := ⟨_, rfl⟩
         replace H : (ga_Coins.l0 k1 l0 y268 (wrap64 (x4_1 + 1))) = some r := by first | (rw [hy268]; with_reducible exact H) | exact H
         have Ny268 := Aside0.mk hy268; clear hy268; have H' := Aside0.mk H; clear H; have p264 : 0 ≤ (x4_1 : Int) := of_decide_eq_true (by with_reducible assumption); have q264 : x4_1 < (l0.length : Int) := of_decide_eq_true (by with_reducible assumption); obtain ⟨ad264, e264, hx264_0⟩ := Kd.at_int HR0.out x4_1 p264 q264; cases e264; replace hx264_0 := (HB.out.cell (World.block_lt_of_cell? w _ hx264_0)).trans hx264_0; replace p264 := eq_true p264; replace q264 := eq_true q264
         go_wp2_with (first | ((with_reducible refine gate_callee (f := 32) rfl ?_); refine goesL_ (some 16) rfl rfl Try.func32 (by kernel_rfl) rfl #[.int .u64 (rd l0 x4_1)] rfl (by (try simp only [List.map_toArray, List.map_cons, List.map_nil]); first | rfl | (refine qa_arr ?_; (repeat' (first | rfl | refine qa_cons ?_ ?_ | refine qa_int ?_ | refine qa_agg ?_ | refine qa_arr ?_ | omega)); done)) ?_; (with_reducible refine (ga_Coin.calls k1 (rd l0 x4_1) t265 _ A4.out).mono ?_); rintro e w6 ⟨v266, rfl, ho0, hb⟩; refine ⟨_, rfl, ?_⟩; have n0_ := Aside0.mk (Kd.R_elder' HO_3.out (Kd.R_base ho0) hb); have n1_ := Aside0.mk (Kd.R_lower (Kd.R_new' ho0 (Kd.R_lt HO_3.out)) (below_size (by repeat (first | (with_reducible first | exact HB.out | apply below_drew1))))); have n2_ := Aside0.mk (below_step (by repeat (first | (with_reducible first | exact HB.out | apply below_drew1))) hb); clear HO_3 HB; revert n0_ n1_ n2_; intro HO_3 HO267 HB; (try clear hb); (try clear hb2); (try clear hk); (try clear hi); (try clear ho0); obtain ⟨Ao8, co8, eo8⟩ := Kd.R_slice HO267.out; subst eo8) | ((with_reducible refine gate_builtin (b := .append) (xs := #[.tmp 11, .tmp 16]) rfl ?_); at_builtin; refine Kd.R_append_rows (Kd.int .u8) (w0 := w) w.heap.size rfl (.tmp 11) (.tmp 16) 33 5 (.int .u8 0) 1 rfl Try.underlying33 info5 rfl (by decide) (by omega) u3 x3_1 t265 _ _ _ (fun k_ => some k_ ≠ (.slice Ao8 t265.length co8 : Value).ownBlock) (fun _ => False) rfl rfl ?aO ?aR (fun _ _ h => h) (fun _ h => h.elim) ?aF ?aB ?aS ?aL ?_; (case aR => repeat (first | exact (Kd.R_reads' HO267.out).2.2 | (with_reducible refine Kd.C_drew ?_))); (case aB => exact (by repeat (first | (with_reducible first | exact HB.out | apply below_drew1)))); (case aF => exact (fun k_ hk => Kd.fresh' (Kd.R_lt HO267.out) k_ hk)); (case aO => exact (by exact Kd.R_mono HO_3.out (fun _ hk => hk.2))); (case aS => exact (below_size (by repeat (first | (with_reducible first | exact HB.out | apply below_drew1))))); (case aL => have := LMc5.out; omega); intro v269 w7 ho hb hg hat; rw [← Ny268.out] at ho; have n0_ := Aside0.mk (Kd.R_after (ok := (fun _ => True)) HO267.out hg hat); have n1_ := Aside0.mk (hb); have n2_ := Aside0.mk (ho); clear HO267 HB HO_3; revert n0_ n1_ n2_; intro HO267 HB HO270; clear ho hb hg hat))
         go_roundg k1
         case measure => have := HK1.out; omega
         case rel => exact ⟨(y268), (wrap64 (x4_1 + 1)), (by first | rfl | (refine qa_int ?_; simp <;> omega)), H', ⟨by have := HK1.out; omega⟩, ⟨by exact Kd.R_mono HO270.out (fun _ hk => trivial)⟩, ⟨by repeat (first | (with_reducible first | exact HB.out | apply below_drew1))⟩⟩
       rw [if_neg c5] at H; exact absurd H (by simp)
     rw [if_neg c3] at H; exact absurd H (by simp)
   rw [if_neg c2] at H; have c2b0 : decide (x4_1 < (l0.length : Int)) = false := decide_eq_false c2; clear c2; obtain rfl := Option.some.inj H
   simp only [Option.some.injEq, Prod.mk.injEq] at H
   obtain ⟨rfl⟩ := H; go_wp2; go_ret; exact ⟨_, by first | rfl | (simp [*, errW_none, errW_some] <;> rfl), by exact HO_3.out, by repeat (first | (with_reducible first | exact HB.out | apply below_drew1))⟩

/-! ### gb_zig: function 47 -/
def gb_zig.f (a0 : Int) : Option (Int) := if a0 < 0 then (some (IntKind.u64.wrap (wrap64 ((wrap64 ((-2) * a0)) - 1)))) else (some (IntKind.u64.wrap (wrap64 (2 * a0))))
theorem gb_zig.calls (a0 : Int) (r : Int) (w : World) (h : gb_zig.f a0 = some r) :
 Calls Try.prog 47 #[.int .i64 a0] w fun e w' => e = .returned (.int .u64 r) ∧ Drawn0 w w' := by
 have H : (if a0 < 0 then (some (IntKind.u64.wrap (wrap64 ((wrap64 ((-2) * a0)) - 1)))) else (some (IntKind.u64.wrap (wrap64 (2 * a0))))) = some r := h; clear h
 by_cases c2 : a0 < 0
 · rw [if_pos c2] at H
   have c2b0 : decide (a0 < 0) = true := decide_eq_true c2; clear c2; obtain rfl := Option.some.inj H
   simp only [Option.some.injEq, Prod.mk.injEq] at H
   obtain ⟨rfl⟩ := H
   go_enter Try.func47, Try.ntmps47
   go_wp2; go_ret; exact ⟨by first | rfl | (refine qa_int ?_; simp <;> omega), by repeat (first | exact Drawn0.refl _)⟩
 rw [if_neg c2] at H; have c2b0 : decide (a0 < 0) = false := decide_eq_false c2; clear c2; obtain rfl := Option.some.inj H
 simp only [Option.some.injEq, Prod.mk.injEq] at H
 obtain ⟨rfl⟩ := H
 go_enter Try.func47, Try.ntmps47
 go_wp2; go_ret; exact ⟨by first | rfl | (refine qa_int ?_; simp <;> omega), by repeat (first | exact Drawn0.refl _)⟩

end Go.Proofs.Ytllcighpfikpkaa.QChangeBytes
