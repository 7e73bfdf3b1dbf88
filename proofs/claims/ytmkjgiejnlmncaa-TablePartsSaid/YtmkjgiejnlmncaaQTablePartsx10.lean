-- Lines by a program of this session, for this claim.
import Derived.Test.YtmkjgiejnlmncaaQTablePartsx0
import Derived.Test.YtmkjgiejnlmncaaQTablePartsx9
namespace Go.Proofs.Ytmkjgiejnlmncaa.QTableParts
open Go.RowKit Go.Proofs.YtmkjgiejnlmncaaW.PrintWords Go.Proofs.YtmkjgiejnlmncaaW.PrintLast Go.Proofs.YtmkjgiejnlmncaaW.PrintMore
attribute [local go_sem] max2_int min2_int max_two min_two max_three min_three max_four min_four   -- for this text's walks alone
set_option linter.unusedVariables false
set_option maxRecDepth 100000
set_option maxHeartbeats 8000000
set_option linter.unusedSimpArgs false

/-! ### coin_Get: function 45 -/
mutual
def coin_Get.j0 : Nat → List Int → Int → Int → Option (Int × Int × Int)
  | 0, _, _, _ => none
  | k + 1, x0, x5, x6 => if 1 ≤ x5 then (if x5 ≤ (x0.length : Int) then (coin_Get.l0 k x5 x6 ((x0.take (x5 : Int).toNat).drop 1) (((x0.take (x5 : Int).toNat).drop 1).length : Int) 0) else (none)) else (none)
def coin_Get.l0 : Nat → Int → Int → List Int → Int → Int → Option (Int × Int × Int)
  | 0, _, _, _, _, _ => none
  | k + 1, x5, x6, x33, x34, x35 => if x35 < x34 then (if 0 ≤ x35 then (if x35 < (x33.length : Int) then (coin_Get.l0 k x5 (Go.bits .or .u64 (IntKind.u64.wrap (x6 * 256)) (IntKind.u64.wrap (rd x33 x35))) x33 x34 (wrap64 (x35 + 1))) else (none)) else (none)) else ((coin_Size.f k x6).bind fun t208 => (if t208 = x5 then (some (x6, x5, 0)) else (some (0, 0, 4))))
end
def coin_Get.f (k : Nat) (l0 : List Int) : Option (Int × Int × Int) := if (l0.length : Int) = 0 then (some (0, 0, 5)) else (if 0 < (l0.length : Int) then ((bits_LeadingZeros8.f (Go.bits .xor .u8 IntKind.u8.max (rd l0 0))).bind fun t204 => (if (l0.length : Int) < (wrap64 (t204 + 1)) then (some (0, 0, 5)) else (if (wrap64 (t204 + 1)) < 9 then (if 0 ≤ (wrap64 (t204 + 1)) then (coin_Get.j0 k l0 (wrap64 (t204 + 1)) (IntKind.u64.wrap (Go.bits .and .u8 (rd l0 0) (shr .u8 255 (wrap64 (t204 + 1)))))) else (none)) else (coin_Get.j0 k l0 (wrap64 (t204 + 1)) 0)))) else (none))
theorem coin_Get.mono_l : ∀ k, (∀ y0 y1 y2, LeO (coin_Get.j0 k y0 y1 y2) (coin_Get.j0 (k + 1) y0 y1 y2)) ∧ (∀ y0 y1 y2 y3 y4, LeO (coin_Get.l0 k y0 y1 y2 y3 y4) (coin_Get.l0 (k + 1) y0 y1 y2 y3 y4))
  | 0 => ⟨fun _ _ _ r h => by simp [coin_Get.j0] at h, fun _ _ _ _ _ r h => by simp [coin_Get.l0] at h⟩
  | k + 1 => by
    obtain ⟨ih0, ih1⟩ := coin_Get.mono_l k; refine ⟨?_, ?_⟩
    · intro y0 y1 y2
      unfold coin_Get.j0
      repeat' first
      | (with_reducible exact ih0 ..)
      | (with_reducible exact ih1 ..)
      | (with_reducible exact coin_Size.mono ..)
      | (with_reducible exact LeO.refl ..)
      | (with_reducible exact LeO.none ..)
      | (with_reducible refine LeO.ite ?_ ?_)
      | (with_reducible refine LeO.bind ?_ (fun _ => ?_))
    · intro y0 y1 y2 y3 y4
      unfold coin_Get.l0
      repeat' first
      | (with_reducible exact ih0 ..)
      | (with_reducible exact ih1 ..)
      | (with_reducible exact coin_Size.mono ..)
      | (with_reducible exact LeO.refl ..)
      | (with_reducible exact LeO.none ..)
      | (with_reducible refine LeO.ite ?_ ?_)
      | (with_reducible refine LeO.bind ?_ (fun _ => ?_))
theorem coin_Get.mono : ∀ a0 k, LeO (coin_Get.f k a0) (coin_Get.f (k + 1) a0) := by
  intro a0 k; obtain ⟨ih0, ih1⟩ := coin_Get.mono_l k
  unfold coin_Get.f
  repeat' first
      | (with_reducible exact ih0 ..)
      | (with_reducible exact ih1 ..)
      | (with_reducible exact coin_Size.mono ..)
      | (with_reducible exact LeO.refl ..)
      | (with_reducible exact LeO.none ..)
      | (with_reducible refine LeO.ite ?_ ?_)
      | (with_reducible refine LeO.bind ?_ (fun _ => ?_))
theorem coin_Get.calls (k : Nat) (A0 : Option Addr) (c0 : Nat) (l0 : List Int) (r1 : Int) (r2 : Int) (r3 : Int) (w : World) (hr0 : Kd.C (Kd.int .u8) w A0 l0.length l0) (hc0 : l0.length ≤ c0) (h : coin_Get.f k l0 = some (r1, r2, r3)) :
    Calls Try.prog 45 #[.slice A0 l0.length c0] w fun e w' => e = .returned (.tuple #[.int .u64 r1, .int .i64 r2, .int .i64 r3]) ∧ Below w.heap.size w w' := by
  have HR0 := Aside0.mk hr0; have HC0 := Aside0.mk hc0; clear hr0 hc0; have HB := Aside0.mk (Below.refl w.heap.size w); have H : (if (l0.length : Int) = 0 then (some (0, 0, 5)) else (if 0 < (l0.length : Int) then ((bits_LeadingZeros8.f (Go.bits .xor .u8 IntKind.u8.max (rd l0 0))).bind fun t204 => (if (l0.length : Int) < (wrap64 (t204 + 1)) then (some (0, 0, 5)) else (if (wrap64 (t204 + 1)) < 9 then (if 0 ≤ (wrap64 (t204 + 1)) then (coin_Get.j0 k l0 (wrap64 (t204 + 1)) (IntKind.u64.wrap (Go.bits .and .u8 (rd l0 0) (shr .u8 255 (wrap64 (t204 + 1)))))) else (none)) else (coin_Get.j0 k l0 (wrap64 (t204 + 1)) 0)))) else (none))) = some (r1, r2, r3) := h; clear h
  by_cases c2 : (l0.length : Int) = 0
  · rw [if_pos c2] at H
    have c2b0 : ((l0.length : Int) == 0) = true := beq_iff_eq.mpr c2; have c2b1 : ((l0.length : Int) != 0) = false := bne_eq_false_iff_eq.mpr c2; clear c2
    simp only [Option.some.injEq, Prod.mk.injEq] at H
    obtain ⟨rfl, rfl, rfl⟩ := H
    go_enter Try.func45, Try.ntmps45
    go_wp2
    repeat (go_quiet (fail); try go_wp2)
    go_ret3
    exact ⟨by first | rfl | (simp [errW_none, errW_some] <;> rfl) | (simp [*, errW_none, errW_some] <;> rfl), by repeat (first | (with_reducible first | exact HB.out | apply below_alloc | apply pw_below_drewN | apply below_drew1) | exact HB.out)⟩
  · rw [if_neg c2] at H
    have c2b0 : ((l0.length : Int) == 0) = false := beq_eq_false_iff_ne.mpr c2; have c2b1 : ((l0.length : Int) != 0) = true := bne_iff_ne.mpr c2
    have c2b2 : ¬ (l0 = []) := fun h_ => c2 (by rw [h_]; rfl)
    by_cases c3 : 0 < (l0.length : Int)
    · rw [if_pos c3] at H
      have c3b0 : decide (0 < (l0.length : Int)) = true := decide_eq_true c3; have c3b1 : decide (0 < l0.length) = true := decide_eq_true (by omega); clear c3; replace H := Option.bind_eq_some_iff.mp H; obtain ⟨t204, A40, H⟩ := H; replace H : (if (l0.length : Int) < (wrap64 (t204 + 1)) then (some (0, 0, 5)) else (if (wrap64 (t204 + 1)) < 9 then (if 0 ≤ (wrap64 (t204 + 1)) then (coin_Get.j0 k l0 (wrap64 (t204 + 1)) (IntKind.u64.wrap (Go.bits .and .u8 (rd l0 0) (shr .u8 255 (wrap64 (t204 + 1)))))) else (none)) else (coin_Get.j0 k l0 (wrap64 (t204 + 1)) 0))) = some (r1, r2, r3) := H; have A4 := Aside0.mk A40; clear A40
      by_cases c5 : (l0.length : Int) < (wrap64 (t204 + 1))
      · rw [if_pos c5] at H
        have c5b0 : decide ((l0.length : Int) < (wrap64 (t204 + 1))) = true := decide_eq_true c5; clear c5
        simp only [Option.some.injEq, Prod.mk.injEq] at H
        obtain ⟨rfl, rfl, rfl⟩ := H; have p203 : 0 ≤ (0 : Int) := (by omega); have q203 : 0 < (l0.length : Int) := of_decide_eq_true (by first | (with_reducible assumption) | assumption); obtain ⟨ad203, e203, hx203_0⟩ := Kd.at_int HR0.out 0 p203 q203; cases e203; have qi203 : (0 < l0.length) = True := eq_true (by omega)
        (try rw [show ((0 : Int)).toNat = 0 from rfl] at hx203_0)
        (try rw [Addr.add_zero'] at hx203_0)
        replace p203 := eq_true p203; replace q203 := eq_true q203
        go_enter Try.func45, Try.ntmps45
        go_wp2_with (first | (go_at_call 55; (with_reducible refine (bits_LeadingZeros8.calls (Go.bits .xor .u8 IntKind.u8.max (rd l0 0)) t204 _ A4.out).mono ?_); rintro e w' ⟨rfl, ⟨nd, rfl⟩⟩; (try first | exact ⟨rfl, _, World.drewN_drewN _ _ _⟩ | exact ⟨rfl, _, Eq.trans (World.drewN_drewN _ _ _) (congrArg (World.drewN _) (Nat.add_assoc _ _ _))⟩)) | (go_at_call 55; (refine calls_of_args (args' := #[.int .u8 (Go.bits .xor .u8 IntKind.u8.max (rd l0 0))]) ?_ ?_; focus (first | rfl | (simp; done) | (refine qa_arr ?_; (repeat' (first | rfl | refine qa_cons ?_ ?_ | refine qa_int ?_ | refine qa_agg ?_ | refine qa_arr ?_ | omega)); done)); (with_reducible refine (bits_LeadingZeros8.calls (Go.bits .xor .u8 IntKind.u8.max (rd l0 0)) t204 _ A4.out).mono ?_)); rintro e w' ⟨rfl, ⟨nd, rfl⟩⟩; (try first | exact ⟨rfl, _, World.drewN_drewN _ _ _⟩ | exact ⟨rfl, _, Eq.trans (World.drewN_drewN _ _ _) (congrArg (World.drewN _) (Nat.add_assoc _ _ _))⟩)))
        repeat (go_quiet (first | (go_at_call 55; (with_reducible refine (bits_LeadingZeros8.calls (Go.bits .xor .u8 IntKind.u8.max (rd l0 0)) t204 _ A4.out).mono ?_); rintro e w' ⟨rfl, ⟨nd, rfl⟩⟩; (try first | exact ⟨rfl, _, World.drewN_drewN _ _ _⟩ | exact ⟨rfl, _, Eq.trans (World.drewN_drewN _ _ _) (congrArg (World.drewN _) (Nat.add_assoc _ _ _))⟩)) | (go_at_call 55; (refine calls_of_args (args' := #[.int .u8 (Go.bits .xor .u8 IntKind.u8.max (rd l0 0))]) ?_ ?_; focus (first | rfl | (simp; done) | (refine qa_arr ?_; (repeat' (first | rfl | refine qa_cons ?_ ?_ | refine qa_int ?_ | refine qa_agg ?_ | refine qa_arr ?_ | omega)); done)); (with_reducible refine (bits_LeadingZeros8.calls (Go.bits .xor .u8 IntKind.u8.max (rd l0 0)) t204 _ A4.out).mono ?_)); rintro e w' ⟨rfl, ⟨nd, rfl⟩⟩; (try first | exact ⟨rfl, _, World.drewN_drewN _ _ _⟩ | exact ⟨rfl, _, Eq.trans (World.drewN_drewN _ _ _) (congrArg (World.drewN _) (Nat.add_assoc _ _ _))⟩))); try go_wp2_with (first | (go_at_call 55; (with_reducible refine (bits_LeadingZeros8.calls (Go.bits .xor .u8 IntKind.u8.max (rd l0 0)) t204 _ A4.out).mono ?_); rintro e w' ⟨rfl, ⟨nd, rfl⟩⟩; (try first | exact ⟨rfl, _, World.drewN_drewN _ _ _⟩ | exact ⟨rfl, _, Eq.trans (World.drewN_drewN _ _ _) (congrArg (World.drewN _) (Nat.add_assoc _ _ _))⟩)) | (go_at_call 55; (refine calls_of_args (args' := #[.int .u8 (Go.bits .xor .u8 IntKind.u8.max (rd l0 0))]) ?_ ?_; focus (first | rfl | (simp; done) | (refine qa_arr ?_; (repeat' (first | rfl | refine qa_cons ?_ ?_ | refine qa_int ?_ | refine qa_agg ?_ | refine qa_arr ?_ | omega)); done)); (with_reducible refine (bits_LeadingZeros8.calls (Go.bits .xor .u8 IntKind.u8.max (rd l0 0)) t204 _ A4.out).mono ?_)); rintro e w' ⟨rfl, ⟨nd, rfl⟩⟩; (try first | exact ⟨rfl, _, World.drewN_drewN _ _ _⟩ | exact ⟨rfl, _, Eq.trans (World.drewN_drewN _ _ _) (congrArg (World.drewN _) (Nat.add_assoc _ _ _))⟩))))
        go_ret3
        exact ⟨by first | rfl | (simp [errW_none, errW_some] <;> rfl) | (simp [*, errW_none, errW_some] <;> rfl), by repeat (first | (with_reducible first | exact HB.out | apply below_alloc | apply pw_below_drewN | apply below_drew1) | exact HB.out)⟩
      · rw [if_neg c5] at H
        have c5b0 : decide ((l0.length : Int) < (wrap64 (t204 + 1))) = false := decide_eq_false c5; clear c5; have HC6 := Aside0.mk H; clear H; have p203 : 0 ≤ (0 : Int) := (by omega); have q203 : 0 < (l0.length : Int) := of_decide_eq_true (by first | (with_reducible assumption) | assumption); obtain ⟨ad203, e203, hx203_0⟩ := Kd.at_int HR0.out 0 p203 q203; cases e203; have qi203 : (0 < l0.length) = True := eq_true (by omega)
        (try rw [show ((0 : Int)).toNat = 0 from rfl] at hx203_0)
        (try rw [Addr.add_zero'] at hx203_0)
        replace p203 := eq_true p203; replace q203 := eq_true q203
        go_enter Try.func45, Try.ntmps45
        go_upto_if 23 with (first | (go_at_call 55; (first | (with_reducible refine (bits_LeadingZeros8.calls (Go.bits .xor .u8 IntKind.u8.max (rd l0 0)) t204 _ A4.out).mono ?_) | (refine calls_of_args (args' := #[.int .u8 (Go.bits .xor .u8 IntKind.u8.max (rd l0 0))]) ?_ ?_; focus (first | rfl | (simp; done) | (refine qa_arr ?_; (repeat' (first | rfl | refine qa_cons ?_ ?_ | refine qa_int ?_ | refine qa_agg ?_ | refine qa_arr ?_ | omega)); done)); (with_reducible refine (bits_LeadingZeros8.calls (Go.bits .xor .u8 IntKind.u8.max (rd l0 0)) t204 _ A4.out).mono ?_))); rintro e w' ⟨rfl, ⟨nd, rfl⟩⟩; (try first | exact ⟨rfl, _, World.drewN_drewN _ _ _⟩ | exact ⟨rfl, _, Eq.trans (World.drewN_drewN _ _ _) (congrArg (World.drewN _) (Nat.add_assoc _ _ _))⟩)))
        repeat (go_quiet (first | (go_at_call 55; (first | (with_reducible refine (bits_LeadingZeros8.calls (Go.bits .xor .u8 IntKind.u8.max (rd l0 0)) t204 _ A4.out).mono ?_) | (refine calls_of_args (args' := #[.int .u8 (Go.bits .xor .u8 IntKind.u8.max (rd l0 0))]) ?_ ?_; focus (first | rfl | (simp; done) | (refine qa_arr ?_; (repeat' (first | rfl | refine qa_cons ?_ ?_ | refine qa_int ?_ | refine qa_agg ?_ | refine qa_arr ?_ | omega)); done)); (with_reducible refine (bits_LeadingZeros8.calls (Go.bits .xor .u8 IntKind.u8.max (rd l0 0)) t204 _ A4.out).mono ?_))); rintro e w' ⟨rfl, ⟨nd, rfl⟩⟩; (try first | exact ⟨rfl, _, World.drewN_drewN _ _ _⟩ | exact ⟨rfl, _, Eq.trans (World.drewN_drewN _ _ _) (congrArg (World.drewN _) (Nat.add_assoc _ _ _))⟩))); go_upto_if 23 with (first | (go_at_call 55; (first | (with_reducible refine (bits_LeadingZeros8.calls (Go.bits .xor .u8 IntKind.u8.max (rd l0 0)) t204 _ A4.out).mono ?_) | (refine calls_of_args (args' := #[.int .u8 (Go.bits .xor .u8 IntKind.u8.max (rd l0 0))]) ?_ ?_; focus (first | rfl | (simp; done) | (refine qa_arr ?_; (repeat' (first | rfl | refine qa_cons ?_ ?_ | refine qa_int ?_ | refine qa_agg ?_ | refine qa_arr ?_ | omega)); done)); (with_reducible refine (bits_LeadingZeros8.calls (Go.bits .xor .u8 IntKind.u8.max (rd l0 0)) t204 _ A4.out).mono ?_))); rintro e w' ⟨rfl, ⟨nd, rfl⟩⟩; (try first | exact ⟨rfl, _, World.drewN_drewN _ _ _⟩ | exact ⟨rfl, _, Eq.trans (World.drewN_drewN _ _ _) (congrArg (World.drewN _) (Nat.add_assoc _ _ _))⟩))))
        (try simp only [Act.put, la0, la1, la2])
        go_cut [6] (fun v6 wc => ∃ (kq : Nat) (x6_5 : Int), v6 = .int .u64 x6_5 ∧ Aside0 (coin_Get.j0 kq l0 (wrap64 (t204 + 1)) x6_5 = some (r1, r2, r3)) ∧ Aside0 (kq ≤ k) ∧ Aside0 (Below w.heap.size w wc))
        case first =>
          have H := HC6.out; clear HC6
          by_cases c7 : (wrap64 (t204 + 1)) < 9
          · rw [if_pos c7] at H
            have c7b0 : decide ((wrap64 (t204 + 1)) < 9) = true := decide_eq_true c7; clear c7
            (first | rw [c7b0] | (simp only [i64_w, i32_w]; rw [c7b0]) | skip)
            obtain ⟨ji8, hji8⟩ : ∃ j_ : Int, (wrap64 (t204 + 1)) = j_ := ⟨_, rfl⟩
            replace H : (if 0 ≤ (ji8) then (coin_Get.j0 k l0 ji8 (IntKind.u64.wrap (Go.bits .and .u8 (rd l0 0) (shr .u8 255 (ji8))))) else (none)) = some (r1, r2, r3) := by first | (rw [hji8] at H; exact H) | (simp only [hji8] at H ⊢; exact H)
            (try rw [hji8] at c5b0)
            (try rw [hji8] at c7b0)
            have hji8w : (IntKind.i64.wrap (t204 + 1)) = ji8 := (i64_w _).trans hji8
            by_cases c9 : 0 ≤ (ji8)
            · rw [if_pos c9] at H
              have c9b0 := eq_true c9; have c9b1 : decide (0 ≤ (ji8)) = true := decide_eq_true c9; clear c9
              obtain ⟨ji10, hji10⟩ : ∃ j_ : Int, (shr .u8 255 (ji8)) = j_ := ⟨_, rfl⟩
              replace H : (coin_Get.j0 k l0 ji8 (IntKind.u64.wrap (Go.bits .and .u8 (rd l0 0) (ji10)))) = some (r1, r2, r3) := by first | (rw [hji10] at H; exact H) | (simp only [hji10] at H ⊢; exact H)
              have hji10_ : (255 / 2 ^ min (ji8).toNat 8) = ji10 := hji10; have hji10z : (ji8) ≤ 8 → (255 / 2 ^ (ji8).toNat) = ji10 := shr_small hji10
              (try (have hji10y : 0 ≤ (ji8) := by omega))
              have H' := Aside0.mk H; clear H; have p205 : 0 ≤ (0 : Int) := (by omega); have q205 : 0 < (l0.length : Int) := of_decide_eq_true (by first | (with_reducible assumption) | assumption); obtain ⟨ad205, e205, hx205_0⟩ := Kd.at_int HR0.out 0 p205 q205; obtain rfl : ad203 = ad205 := (by injection e205); have qi205 : (0 < l0.length) = True := eq_true (by omega)
              (try rw [show ((0 : Int)).toNat = 0 from rfl] at hx205_0)
              (try rw [Addr.add_zero'] at hx205_0)
              replace hx205_0 := (HB.out.cell (World.block_lt_of_cell? w _ hx205_0)).trans hx205_0; replace p205 := eq_true p205; replace q205 := eq_true q205; go_wp2
              repeat (go_quiet (fail); try go_wp2)
              (try simp only [← hji8] at H' ⊢)
              go_meet
              case rel => exact ⟨_, (IntKind.u64.wrap (Go.bits .and .u8 (rd l0 0) (ji10))), (by first | rfl | (simp; done) | (simp only [← hji10] <;> (first | rfl | simp)) | (simp [*]; done) | (refine qa_int ?_; omega) | (refine qa_int ?_; simp <;> omega)), H', ⟨by first | omega | exact Nat.le_refl _⟩, ⟨by repeat (first | (with_reducible first | exact HB.out | apply below_alloc | apply pw_below_drewN | apply below_drew1) | exact HB.out)⟩⟩
            · rw [if_neg c9] at H; exact absurd H (by simp)
          · rw [if_neg c7] at H
            have c7b0 : decide ((wrap64 (t204 + 1)) < 9) = false := decide_eq_false c7; clear c7
            (first | rw [c7b0] | (simp only [i64_w, i32_w]; rw [c7b0]) | skip)
            have H' := Aside0.mk H; clear H; go_wp2
            repeat (go_quiet (fail); try go_wp2)
            go_meet
            case rel => exact ⟨_, (0), (by first | rfl | (simp; done) | (simp [*]; done) | (refine qa_int ?_; omega) | (refine qa_int ?_; simp <;> omega)), H', ⟨by first | omega | exact Nat.le_refl _⟩, ⟨by repeat (first | (with_reducible first | exact HB.out | apply below_alloc | apply pw_below_drewN | apply below_drew1) | exact HB.out)⟩⟩
        case rest =>
          clear HC6
          try clear c2
          try clear c2b0
          try clear c2b1
          try clear c2b2
          try clear p2
          try clear q2
          try clear hx2
          try clear qi2
          try clear c3
          try clear c3b0
          try clear c3b1
          try clear c4
          try clear c5
          try clear c5b0
          try clear p6
          try clear c7
          try clear c7b0
          try clear c9
          try clear c9b0
          try clear c9b1
          try clear hx203_0
          try clear hx205_0
          try clear p203
          try clear p205
          try clear q203
          try clear q205
          obtain ⟨kq, x6_5, rfl, HA, HJ5, HB⟩ := hcut
          cases kq with
          | zero => exact absurd HA.out (by simp [coin_Get.j0])
          | succ kj5 =>
            have H := HA.out; clear HA
            simp only [coin_Get.j0] at H
            by_cases c11 : 1 ≤ (wrap64 (t204 + 1))
            · rw [if_pos c11] at H
              have c11b0 := eq_true c11; have c11b1 : decide (1 ≤ (wrap64 (t204 + 1))) = true := decide_eq_true c11
              by_cases c12 : (wrap64 (t204 + 1)) ≤ (l0.length : Int)
              · rw [if_pos c12] at H
                have c12b0 := eq_true c12; have c12b1 : decide ((wrap64 (t204 + 1)) ≤ (l0.length : Int)) = true := decide_eq_true c12; have H' := Aside0.mk H; clear H; obtain ⟨i013, hi013, _, hsz13, _⟩ := info_parts info5; obtain ⟨A13, hcut13, hA13, hC13⟩ := print_mid_of (P := Try.prog) (Value.int .u8) 0 59 5 .i64 .i64 Try.underlying59 hi013 hsz13 (some ad203) c0 l0 1 (wrap64 (t204 + 1)) (by omega) (by first | omega | exact of_decide_eq_true (by first | (with_reducible assumption) | assumption)) (of_decide_eq_true (by first | (with_reducible assumption) | assumption)) HC0.out; have HR206 := Aside0.mk (Kd.C_of_reads (h1 := fun _ => rfl) (hA13 _ (Kd.reads_of_C HR0.out))); have HC206 := Aside0.mk hC13; clear hA13 hC13 hi013 hsz13; have hSL13 := Aside0.mk (show ((l0.take ((wrap64 (t204 + 1)) : Int).toNat).drop 1).length = ((wrap64 (t204 + 1)).toNat - 1) from (by rw [List.length_drop, List.length_take]; have h_ : ((wrap64 (t204 + 1)) : Int) ≤ (l0.length : Int) := of_decide_eq_true (by first | (with_reducible assumption) | assumption); omega)); go_wp2
                repeat (go_quiet (fail); try go_wp2)
                go_loopg [6, 35] kj5 (fun kq v6 v35 w' => ∃ (x6_2 : Int) (x35_2 : Int), v6 = .int .u64 x6_2 ∧ v35 = .int .i64 x35_2 ∧ Aside0 (coin_Get.l0 kq (wrap64 (t204 + 1)) x6_2 ((l0.take ((wrap64 (t204 + 1)) : Int).toNat).drop 1) (((l0.take ((wrap64 (t204 + 1)) : Int).toNat).drop 1).length : Int) x35_2 = some (r1, r2, r3)) ∧ Aside0 (kq ≤ kj5) ∧ Aside0 (Below w.heap.size w w'))
                case atStart => exact ⟨(x6_5), (0), (by first | rfl | (simp; done) | (simp [*]; done) | (refine qa_int ?_; omega) | (refine qa_int ?_; simp <;> omega)), (by first | rfl | (simp; done) | (simp [*]; done) | (refine qa_int ?_; omega) | (refine qa_int ?_; simp <;> omega)), H', ⟨Nat.le_refl _⟩, ⟨by repeat (first | (with_reducible first | exact HB.out | apply below_alloc | apply pw_below_drewN | apply below_drew1) | exact HB.out)⟩⟩
                case round =>
                  clear H'
                  try clear c1
                  try clear c2
                  try clear c2b0
                  try clear c2b1
                  try clear c2b2
                  try clear p2
                  try clear q2
                  try clear hx2
                  try clear qi2
                  try clear c3
                  try clear c3b0
                  try clear c3b1
                  try clear c4
                  try clear c5
                  try clear c5b0
                  try clear p6
                  try clear c7
                  try clear c7b0
                  try clear c9
                  try clear c9b0
                  try clear c9b1
                  try clear c11
                  try clear c11b0
                  try clear c11b1
                  try clear c12
                  try clear c12b0
                  try clear c12b1
                  try clear hx203_0
                  try clear hx205_0
                  try clear p2
                  try clear p203
                  try clear p205
                  try clear p6
                  try clear q2
                  try clear q203
                  try clear q205
                  obtain ⟨x6_2, x35_2, rfl, rfl, HA, HK2, HB⟩ := hrel
                  cases gk with
                  | zero => exact absurd HA.out (by simp [coin_Get.l0])
                  | succ k2 =>
                    have H := HA.out; clear HA
                    simp only [coin_Get.l0] at H
                    by_cases c14 : x35_2 < (((l0.take ((wrap64 (t204 + 1)) : Int).toNat).drop 1).length : Int)
                    · rw [if_pos c14] at H
                      have c14b0 : decide (x35_2 < (((l0.take ((wrap64 (t204 + 1)) : Int).toNat).drop 1).length : Int)) = true := decide_eq_true c14
                      (try (have c14b0s0 := c14b0; rw [show ((l0.take ((wrap64 (t204 + 1)) : Int).toNat).drop 1).length = ((wrap64 (t204 + 1)).toNat - 1) from hSL13.out] at c14b0s0))
                      clear c14
                      by_cases c15 : 0 ≤ x35_2
                      · rw [if_pos c15] at H
                        have c15b0 : decide (0 ≤ x35_2) = true := decide_eq_true c15; clear c15
                        by_cases c16 : x35_2 < (((l0.take ((wrap64 (t204 + 1)) : Int).toNat).drop 1).length : Int)
                        · rw [if_pos c16] at H
                          have c16b0 : decide (x35_2 < (((l0.take ((wrap64 (t204 + 1)) : Int).toNat).drop 1).length : Int)) = true := decide_eq_true c16
                          (try (have c16b0s0 := c16b0; rw [show ((l0.take ((wrap64 (t204 + 1)) : Int).toNat).drop 1).length = ((wrap64 (t204 + 1)).toNat - 1) from hSL13.out] at c16b0s0))
                          clear c16; have H' := Aside0.mk H; clear H; have p207 : 0 ≤ (x35_2 : Int) := of_decide_eq_true (by first | (with_reducible assumption) | assumption); have q207 : x35_2 < (((l0.take ((wrap64 (t204 + 1)) : Int).toNat).drop 1).length : Int) := of_decide_eq_true (by first | (with_reducible assumption) | assumption); obtain ⟨ad207, e207, hx207_0⟩ := Kd.at_int HR206.out x35_2 p207 q207; cases e207; replace hx207_0 := (HB.out.cell (World.block_lt_of_cell? w _ hx207_0)).trans hx207_0; replace p207 := eq_true p207; replace q207 := eq_true q207
                          (try (have q207s := q207; rw [hSL13.out] at q207s))
                          go_wp2
                          repeat (go_quiet (fail); try go_wp2)
                          go_roundg k2
                          case measure => have := HJ5.out; have := HK2.out; omega
                          case rel => exact ⟨(Go.bits .or .u64 (IntKind.u64.wrap (x6_2 * 256)) (IntKind.u64.wrap (rd ((l0.take ((wrap64 (t204 + 1)) : Int).toNat).drop 1) x35_2))), (wrap64 (x35_2 + 1)), (by first | rfl | (simp; done) | (simp [*]; done) | (refine qa_int ?_; omega) | (refine qa_int ?_; simp <;> omega)), (by first | rfl | (simp; done) | (simp [*]; done) | (refine qa_int ?_; omega) | (refine qa_int ?_; simp <;> omega)), H', ⟨by have := HJ5.out; have := HK2.out; omega⟩, ⟨by repeat (first | (with_reducible first | exact HB.out | apply below_alloc | apply pw_below_drewN | apply below_drew1) | exact HB.out)⟩⟩
                        · rw [if_neg c16] at H; exact absurd H (by simp)
                      · rw [if_neg c15] at H; exact absurd H (by simp)
                    · rw [if_neg c14] at H
                      have c14b0 : decide (x35_2 < (((l0.take ((wrap64 (t204 + 1)) : Int).toNat).drop 1).length : Int)) = false := decide_eq_false c14
                      (try (have c14b0s0 := c14b0; rw [show ((l0.take ((wrap64 (t204 + 1)) : Int).toNat).drop 1).length = ((wrap64 (t204 + 1)).toNat - 1) from hSL13.out] at c14b0s0))
                      clear c14; replace H := Option.bind_eq_some_iff.mp H; obtain ⟨t208, A170, H⟩ := H; replace H : (if t208 = (wrap64 (t204 + 1)) then (some (x6_2, (wrap64 (t204 + 1)), 0)) else (some (0, 0, 4))) = some (r1, r2, r3) := H; have A17 := Aside0.mk A170; clear A170
                      by_cases c18 : t208 = (wrap64 (t204 + 1))
                      · rw [if_pos c18] at H
                        have c18b0 : (t208 == (wrap64 (t204 + 1))) = true := beq_iff_eq.mpr c18; have c18b1 : (t208 != (wrap64 (t204 + 1))) = false := bne_eq_false_iff_eq.mpr c18; clear c18
                        simp only [Option.some.injEq, Prod.mk.injEq] at H
                        obtain ⟨rfl, rfl, rfl⟩ := H
                        go_wp2_with (first | (go_at_call 50; (with_reducible refine (coin_Size.calls k2 x6_2 t208 _ A17.out).mono ?_); rintro e w19 ⟨rfl, hb⟩; have n0_ := Aside0.mk (below_step (by repeat (first | (with_reducible first | exact HB.out | apply below_alloc | apply pw_below_drewN | apply below_drew1) | exact HB.out)) hb); clear HB; have HB := n0_; clear n0_; (try clear hb); (try clear hb2); (try clear hk); (try clear hi)) | (go_at_call 50; (refine calls_of_args (args' := #[.int .u64 x6_2]) ?_ ?_; focus (first | rfl | (simp; done) | (refine qa_arr ?_; (repeat' (first | rfl | refine qa_cons ?_ ?_ | refine qa_int ?_ | refine qa_agg ?_ | refine qa_arr ?_ | omega)); done)); (with_reducible refine (coin_Size.calls k2 x6_2 t208 _ A17.out).mono ?_)); rintro e w19 ⟨rfl, hb⟩; have n0_ := Aside0.mk (below_step (by repeat (first | (with_reducible first | exact HB.out | apply below_alloc | apply pw_below_drewN | apply below_drew1) | exact HB.out)) hb); clear HB; have HB := n0_; clear n0_; (try clear hb); (try clear hb2); (try clear hk); (try clear hi)))
                        repeat (go_quiet (first | (go_at_call 50; (with_reducible refine (coin_Size.calls k2 x6_2 t208 _ A17.out).mono ?_); rintro e w19 ⟨rfl, hb⟩; have n0_ := Aside0.mk (below_step (by repeat (first | (with_reducible first | exact HB.out | apply below_alloc | apply pw_below_drewN | apply below_drew1) | exact HB.out)) hb); clear HB; have HB := n0_; clear n0_; (try clear hb); (try clear hb2); (try clear hk); (try clear hi)) | (go_at_call 50; (refine calls_of_args (args' := #[.int .u64 x6_2]) ?_ ?_; focus (first | rfl | (simp; done) | (refine qa_arr ?_; (repeat' (first | rfl | refine qa_cons ?_ ?_ | refine qa_int ?_ | refine qa_agg ?_ | refine qa_arr ?_ | omega)); done)); (with_reducible refine (coin_Size.calls k2 x6_2 t208 _ A17.out).mono ?_)); rintro e w19 ⟨rfl, hb⟩; have n0_ := Aside0.mk (below_step (by repeat (first | (with_reducible first | exact HB.out | apply below_alloc | apply pw_below_drewN | apply below_drew1) | exact HB.out)) hb); clear HB; have HB := n0_; clear n0_; (try clear hb); (try clear hb2); (try clear hk); (try clear hi))); try go_wp2_with (first | (go_at_call 50; (with_reducible refine (coin_Size.calls k2 x6_2 t208 _ A17.out).mono ?_); rintro e w19 ⟨rfl, hb⟩; have n0_ := Aside0.mk (below_step (by repeat (first | (with_reducible first | exact HB.out | apply below_alloc | apply pw_below_drewN | apply below_drew1) | exact HB.out)) hb); clear HB; have HB := n0_; clear n0_; (try clear hb); (try clear hb2); (try clear hk); (try clear hi)) | (go_at_call 50; (refine calls_of_args (args' := #[.int .u64 x6_2]) ?_ ?_; focus (first | rfl | (simp; done) | (refine qa_arr ?_; (repeat' (first | rfl | refine qa_cons ?_ ?_ | refine qa_int ?_ | refine qa_agg ?_ | refine qa_arr ?_ | omega)); done)); (with_reducible refine (coin_Size.calls k2 x6_2 t208 _ A17.out).mono ?_)); rintro e w19 ⟨rfl, hb⟩; have n0_ := Aside0.mk (below_step (by repeat (first | (with_reducible first | exact HB.out | apply below_alloc | apply pw_below_drewN | apply below_drew1) | exact HB.out)) hb); clear HB; have HB := n0_; clear n0_; (try clear hb); (try clear hb2); (try clear hk); (try clear hi))))
                        go_ret3
                        exact ⟨by first | rfl | (simp [errW_none, errW_some] <;> rfl) | (simp [*, errW_none, errW_some] <;> rfl), by repeat (first | (with_reducible first | exact HB.out | apply below_alloc | apply pw_below_drewN | apply below_drew1) | exact HB.out)⟩
                      · rw [if_neg c18] at H
                        have c18b0 : (t208 == (wrap64 (t204 + 1))) = false := beq_eq_false_iff_ne.mpr c18; have c18b1 : (t208 != (wrap64 (t204 + 1))) = true := bne_iff_ne.mpr c18
                        simp only [Option.some.injEq, Prod.mk.injEq] at H
                        obtain ⟨rfl, rfl, rfl⟩ := H
                        go_wp2_with (first | (go_at_call 50; (with_reducible refine (coin_Size.calls k2 x6_2 t208 _ A17.out).mono ?_); rintro e w20 ⟨rfl, hb⟩; have n0_ := Aside0.mk (below_step (by repeat (first | (with_reducible first | exact HB.out | apply below_alloc | apply pw_below_drewN | apply below_drew1) | exact HB.out)) hb); clear HB; have HB := n0_; clear n0_; (try clear hb); (try clear hb2); (try clear hk); (try clear hi)) | (go_at_call 50; (refine calls_of_args (args' := #[.int .u64 x6_2]) ?_ ?_; focus (first | rfl | (simp; done) | (refine qa_arr ?_; (repeat' (first | rfl | refine qa_cons ?_ ?_ | refine qa_int ?_ | refine qa_agg ?_ | refine qa_arr ?_ | omega)); done)); (with_reducible refine (coin_Size.calls k2 x6_2 t208 _ A17.out).mono ?_)); rintro e w20 ⟨rfl, hb⟩; have n0_ := Aside0.mk (below_step (by repeat (first | (with_reducible first | exact HB.out | apply below_alloc | apply pw_below_drewN | apply below_drew1) | exact HB.out)) hb); clear HB; have HB := n0_; clear n0_; (try clear hb); (try clear hb2); (try clear hk); (try clear hi)))
                        repeat (go_quiet (first | (go_at_call 50; (with_reducible refine (coin_Size.calls k2 x6_2 t208 _ A17.out).mono ?_); rintro e w20 ⟨rfl, hb⟩; have n0_ := Aside0.mk (below_step (by repeat (first | (with_reducible first | exact HB.out | apply below_alloc | apply pw_below_drewN | apply below_drew1) | exact HB.out)) hb); clear HB; have HB := n0_; clear n0_; (try clear hb); (try clear hb2); (try clear hk); (try clear hi)) | (go_at_call 50; (refine calls_of_args (args' := #[.int .u64 x6_2]) ?_ ?_; focus (first | rfl | (simp; done) | (refine qa_arr ?_; (repeat' (first | rfl | refine qa_cons ?_ ?_ | refine qa_int ?_ | refine qa_agg ?_ | refine qa_arr ?_ | omega)); done)); (with_reducible refine (coin_Size.calls k2 x6_2 t208 _ A17.out).mono ?_)); rintro e w20 ⟨rfl, hb⟩; have n0_ := Aside0.mk (below_step (by repeat (first | (with_reducible first | exact HB.out | apply below_alloc | apply pw_below_drewN | apply below_drew1) | exact HB.out)) hb); clear HB; have HB := n0_; clear n0_; (try clear hb); (try clear hb2); (try clear hk); (try clear hi))); try go_wp2_with (first | (go_at_call 50; (with_reducible refine (coin_Size.calls k2 x6_2 t208 _ A17.out).mono ?_); rintro e w20 ⟨rfl, hb⟩; have n0_ := Aside0.mk (below_step (by repeat (first | (with_reducible first | exact HB.out | apply below_alloc | apply pw_below_drewN | apply below_drew1) | exact HB.out)) hb); clear HB; have HB := n0_; clear n0_; (try clear hb); (try clear hb2); (try clear hk); (try clear hi)) | (go_at_call 50; (refine calls_of_args (args' := #[.int .u64 x6_2]) ?_ ?_; focus (first | rfl | (simp; done) | (refine qa_arr ?_; (repeat' (first | rfl | refine qa_cons ?_ ?_ | refine qa_int ?_ | refine qa_agg ?_ | refine qa_arr ?_ | omega)); done)); (with_reducible refine (coin_Size.calls k2 x6_2 t208 _ A17.out).mono ?_)); rintro e w20 ⟨rfl, hb⟩; have n0_ := Aside0.mk (below_step (by repeat (first | (with_reducible first | exact HB.out | apply below_alloc | apply pw_below_drewN | apply below_drew1) | exact HB.out)) hb); clear HB; have HB := n0_; clear n0_; (try clear hb); (try clear hb2); (try clear hk); (try clear hi))))
                        go_ret3
                        exact ⟨by first | rfl | (simp [errW_none, errW_some] <;> rfl) | (simp [*, errW_none, errW_some] <;> rfl), by repeat (first | (with_reducible first | exact HB.out | apply below_alloc | apply pw_below_drewN | apply below_drew1) | exact HB.out)⟩
              · rw [if_neg c12] at H; exact absurd H (by simp)
            · rw [if_neg c11] at H; exact absurd H (by simp)
    · rw [if_neg c3] at H; exact absurd H (by simp)

/-! ### coin_Purse_Take: function 30 -/
def coin_Purse_Take.f (k : Nat) (s0_0 : List Int) (s0_1 : Int) (a1 : Int) : Option (Int × List Int × Int) :=
  if s0_1 = 0 then ((coin_Get.f k s0_0).bind fun b => if b.2.2 = 0 then (if b.1 > a1 then some (0, s0_0, 6) else (if 0 ≤ b.2.1 then (if b.2.1 ≤ (s0_0.length : Int) then some (b.1, s0_0.drop b.2.1.toNat, 0) else none) else none)) else some (0, s0_0, b.2.2)) else some (0, s0_0, s0_1)
theorem coin_Purse_Take.mono (s0_0 : List Int) (s0_1 : Int) (a1 : Int) (k : Nat) : LeO (coin_Purse_Take.f k s0_0 s0_1 a1) (coin_Purse_Take.f (k + 1) s0_0 s0_1 a1) := by
  unfold coin_Purse_Take.f
  exact LeO.ite (LeO.bind (coin_Get.mono _ _) (fun _ => LeO.refl _)) (LeO.refl _)
theorem coin_Purse_Take.calls (k : Nat) (g : Nat) (s0_0 : List Int) (s0_1 : Int) (a1 : Int) (r1 : Int) (r2 : List Int) (r3 : Int) (w0 w : World) (hI : IsS96 w0 w g s0_0 s0_1) (hB : Below w0.heap.size w0 w) (h : coin_Purse_Take.f k s0_0 s0_1 a1 = some (r1, r2, r3)) :
    Calls Try.prog 30 #[.pointer (some ⟨g, 0, none⟩), .int .u64 a1] w fun e w' => e = .returned (.int .u64 r1) ∧ IsS96 w0 w' g r2 r3 ∧ Below w0.heap.size w0 w' ∧ KeepBut w w' g none := by
  have HI := Aside0.mk hI; have HK := Aside0.mk (KeepBut.refl w g none); obtain ⟨A, c, hb, hg, hl, hC⟩ := hI; have hc0 := cellS96_0 hb; have hc1 := cellS96_1 hb; have HH := Aside0.mk hb; have HB := Aside0.mk hB; have HG := Aside0.mk hg; have HC := Aside0.mk hC; have HL := Aside0.mk hl; clear hb hg hl hC hB
  unfold coin_Purse_Take.f at h
  by_cases c0 : s0_1 = 0
  · rw [if_pos c0] at h
    subst c0; obtain ⟨⟨n, j, e0⟩, hG, h⟩ := Option.bind_eq_some_iff.mp h
    dsimp only at h
    have HGet := Aside0.mk hG; clear hG; have HCw := Aside0.mk (Kd.C_below HC.out HB.out)
    go_enter Try.func30, Try.ntmps30
    go_wp2_with (fail)
    refine (coin_Get.calls k A c s0_0 n j e0 _ HCw.out HL.out HGet.out).mono ?_; rintro e w1 ⟨rfl, hb⟩; have HH1 := Aside0.mk (blk_below HH.out hb); have HB1 := Aside0.mk (below_step HB.out hb); have HK1 := Aside0.mk (KeepBut.of_below hb g none); clear hc0 hc1 hb HH HB; have hc0 := cellS96_0 HH1.out; have hc1 := cellS96_1 HH1.out; have hf0 := blk_frozen HH1.out 0; have hf1 := blk_frozen HH1.out 1
    by_cases c2 : e0 = 0
    · rw [if_pos c2] at h
      subst c2
      by_cases c3 : n > a1
      · rw [if_pos c3] at h
        simp only [Option.some.injEq, Prod.mk.injEq] at h
        obtain ⟨rfl, rfl, rfl⟩ := h; have e5 : decide (a1 < n) = true := decide_eq_true c3; clear c3
        go_wp2_with (fail)
        go_ret; exact ⟨rfl, ⟨A, c, by simpa using blk_set HH1.out 1 (.int .i64 6), HG.out, HL.out, HC.out⟩, below_set HB1.out HG.out, KeepBut.set_ HK1.out _ _⟩
      · rw [if_neg c3] at h
        by_cases c4 : 0 ≤ j
        · rw [if_pos c4] at h
          by_cases c5 : j ≤ (s0_0.length : Int)
          · rw [if_pos c5] at h
            simp only [Option.some.injEq, Prod.mk.injEq] at h
            obtain ⟨rfl, rfl, rfl⟩ := h; have e5 : decide (a1 < n) = false := decide_eq_false c3; clear c3; obtain ⟨i0, hi0, _, hsz, _⟩ := info_parts info5; obtain ⟨A', hcut, hA', hC'⟩ := print_drop_of (P := Try.prog) (Value.int .u8) 0 59 5 .i64 Try.underlying59 hi0 hsz A c s0_0 j c4 c5 HL.out; have HCn := Aside0.mk (Kd.C_of_reads (h1 := fun _ => rfl) (hA' _ (Kd.reads_of_C HC.out))); have HLn := Aside0.mk hC'; clear hi0 hsz hA' hC'
            go_wp2_with (fail)
            go_ret; exact ⟨rfl, ⟨A', c - j.toNat, by simpa using blk_set HH1.out 0 (.slice A' (s0_0.drop j.toNat).length (c - j.toNat)), HG.out, HLn.out, HCn.out⟩, below_set HB1.out HG.out, KeepBut.set_ HK1.out _ _⟩
          · rw [if_neg c5] at h; cases h
        · rw [if_neg c4] at h; cases h
    · rw [if_neg c2] at h
      simp only [Option.some.injEq, Prod.mk.injEq] at h
      obtain ⟨rfl, rfl, rfl⟩ := h; have e3 : (e0 == 0) = false := beq_eq_false_iff_ne.mpr c2; have e4 : (e0 != 0) = true := bne_iff_ne.mpr c2; clear c2
      go_wp2_with (fail)
      go_ret; exact ⟨rfl, ⟨A, c, by simpa using blk_set HH1.out 1 (.int .i64 e0), HG.out, HL.out, HC.out⟩, below_set HB1.out HG.out, KeepBut.set_ HK1.out _ _⟩
  · rw [if_neg c0] at h
    simp only [Option.some.injEq, Prod.mk.injEq] at h
    obtain ⟨rfl, rfl, rfl⟩ := h; have e1 : (s0_1 != 0) = true := bne_iff_ne.mpr c0; have e2 : (s0_1 == 0) = false := beq_eq_false_iff_ne.mpr c0; clear c0
    go_enter Try.func30, Try.ntmps30
    go_wp2; go_ret; exact ⟨rfl, ⟨A, c, HH.out, HG.out, HL.out, HC.out⟩, HB.out, KeepBut.refl _ _ _⟩

/-! ### coin_Purse_Fault: function 31 -/
def coin_Purse_Fault.f (s0_0 : List Int) (s0_1 : Int) : Option (Int × List Int × Int) := some (s0_1, s0_0, s0_1)
theorem coin_Purse_Fault.calls (g : Nat) (s0_0 : List Int) (s0_1 : Int) (r1 : Int) (r2 : List Int) (r3 : Int) (w0 w : World) (hI : IsS96 w0 w g s0_0 s0_1) (hB : Below w0.heap.size w0 w) (h : coin_Purse_Fault.f s0_0 s0_1 = some (r1, r2, r3)) :
    Calls Try.prog 31 #[.pointer (some ⟨g, 0, none⟩)] w fun e w' => e = .returned (.int .i64 r1) ∧ IsS96 w0 w' g r2 r3 ∧ Below w0.heap.size w0 w' ∧ KeepBut w w' g none := by
  have HI0 := Aside0.mk hI; have HK := Aside0.mk (KeepBut.refl w g none); have HL := Aside0.mk hB.size; clear hI; have HW0 := Aside0.mk hB.size; have HB := Aside0.mk hB; clear hB; have H : (some (s0_1, s0_0, s0_1)) = some (r1, r2, r3) := h; clear h
  simp only [Option.some.injEq, Prod.mk.injEq] at H
  obtain ⟨rfl, rfl, rfl⟩ := H; obtain ⟨ASz2_0, cSz2_0, HGz2, hgz2, HSz2_0⟩ := HI0.out; have hcz2_0 := cellS96_0 HGz2; have hcz2_1 := cellS96_1 HGz2; have hfz2_0 := blk_frozen HGz2 0; have hfz2_1 := blk_frozen HGz2 1; clear HGz2 hgz2
  go_enter Try.func31, Try.ntmps31
  go_wp2; go_ret; exact ⟨by first | rfl | (simp [errW_none, errW_some] <;> rfl) | (simp [*, errW_none, errW_some] <;> rfl), by repeat (first | (with_reducible first | exact HI0.out | apply IsS96.alloc | apply IsS96.drewN | apply IsS96.drew | apply IsS96.set_1) | exact HI0.out), by repeat (first | (with_reducible first | exact HB.out | apply below_alloc | apply pw_below_drewN | apply below_drew1 | refine below_set ?_ (IsS96.ge HI0.out)) | exact HB.out), by repeat (first | (with_reducible first | exact HK.out | apply KeepBut.set_ | apply keep_drewN | apply keep_drew | apply keep_alloc) | exact HK.out)⟩

/-! ### coin_Purse_End: function 34 -/
def coin_Purse_End.f (s0_0 : List Int) (s0_1 : Int) : Option (Int × List Int × Int) := if s0_1 = 0 then (if 0 < (s0_0.length : Int) then some (4, s0_0, s0_1) else some (s0_1, s0_0, s0_1)) else some (s0_1, s0_0, s0_1)
theorem coin_Purse_End.calls (g : Nat) (s0_0 : List Int) (s0_1 : Int) (r1 : Int) (r2 : List Int) (r3 : Int) (w0 w : World) (hI : IsS96 w0 w g s0_0 s0_1) (hB : Below w0.heap.size w0 w) (h : coin_Purse_End.f s0_0 s0_1 = some (r1, r2, r3)) :
    Calls Try.prog 34 #[.pointer (some ⟨g, 0, none⟩)] w fun e w' => e = .returned (.int .i64 r1) ∧ IsS96 w0 w' g r2 r3 ∧ Below w0.heap.size w0 w' ∧ KeepBut w w' g none := by
  have hI2 := Aside0.mk hI; obtain ⟨A, c, hb, hg, hl, hC⟩ := hI; have hc0 := cellS96_0 hb; have hc1 := cellS96_1 hb; have HH := Aside0.mk hb; have HB := Aside0.mk hB; have HG := Aside0.mk hg; have HC := Aside0.mk hC; have HL := Aside0.mk hl; clear hb hg hl hC hB
  unfold coin_Purse_End.f at h
  have HF := Aside0.mk (coin_Purse_Fault.calls g s0_0 s0_1 s0_1 s0_0 s0_1 w0 w hI2.out HB.out rfl)
  by_cases c0 : s0_1 = 0
  · rw [if_pos c0] at h
    have e1 : (s0_1 == 0) = true := beq_iff_eq.mpr c0; have e2 : (s0_1 != 0) = false := bne_eq_false_iff_eq.mpr c0; clear c0
    by_cases c1 : 0 < (s0_0.length : Int)
    · rw [if_pos c1] at h
      simp only [Option.some.injEq, Prod.mk.injEq] at h
      obtain ⟨rfl, rfl, rfl⟩ := h; have e3 : decide (0 < (s0_0.length : Int)) = true := decide_eq_true c1; have e4 : decide (0 < s0_0.length) = true := decide_eq_true (by omega); clear c1
      go_enter Try.func34, Try.ntmps34
      go_wp2_with (fail)
      go_ret; exact ⟨rfl, ⟨A, c, HH.out, HG.out, HL.out, HC.out⟩, HB.out, KeepBut.refl _ _ _⟩
    · rw [if_neg c1] at h
      simp only [Option.some.injEq, Prod.mk.injEq] at h
      obtain ⟨rfl, rfl, rfl⟩ := h; have e3 : decide (0 < (s0_0.length : Int)) = false := decide_eq_false c1; have e4 : decide (0 < s0_0.length) = false := decide_eq_false (by omega); clear c1
      go_enter Try.func34, Try.ntmps34
      go_wp2_with (fail)
      refine HF.out.mono ?_; rintro e w1 ⟨rfl, hi, hb, hk⟩; have HR := Aside0.mk (And.intro hi (And.intro hb hk)); clear hi hb hk
      go_wp2_with (fail)
      go_ret; exact ⟨rfl, HR.out⟩
  · rw [if_neg c0] at h
    simp only [Option.some.injEq, Prod.mk.injEq] at h
    obtain ⟨rfl, rfl, rfl⟩ := h; have e1 : (s0_1 == 0) = false := beq_eq_false_iff_ne.mpr c0; have e2 : (s0_1 != 0) = true := bne_iff_ne.mpr c0; clear c0
    go_enter Try.func34, Try.ntmps34
    go_wp2_with (fail)
    refine HF.out.mono ?_; rintro e w1 ⟨rfl, hi, hb, hk⟩; have HR := Aside0.mk (And.intro hi (And.intro hb hk)); clear hi hb hk
    go_wp2_with (fail)
    go_ret; exact ⟨rfl, HR.out⟩

end Go.Proofs.Ytmkjgiejnlmncaa.QTableParts
