-- Lines by a program of this session, for this claim.
import Derived.Test.YtghgaehcejechaaQCoinGetsx0
import Derived.Test.YtghgaehcejechaaQCoinGetsx1
namespace Go.Proofs.Ytghgaehcejechaa.QCoinGets
open Go.RowKit Go.Proofs.YtghgaehcejechaaW.PrintWords Go.Proofs.YtghgaehcejechaaW.PrintLast Go.Proofs.YtghgaehcejechaaW.PrintMore
attribute [local go_sem] max2_int min2_int max_two min_two max_three min_three max_four min_four   -- for this text's walks alone
set_option linter.unusedVariables false
set_option linter.unusedSimpArgs false

/-! ### coin_Get: function 13 -/
mutual
def coin_Get.j0 : Nat → List Int → Int → Int → Option (Int × Int × Int)
  | 0, _, _, _ => none
  | k + 1, x0, x5, x6 => if 1 ≤ x5 then (if x5 ≤ (x0.length : Int) then (coin_Get.l0 k x5 x6 ((x0.take (x5 : Int).toNat).drop 1) (((x0.take (x5 : Int).toNat).drop 1).length : Int) 0) else (none)) else (none)
def coin_Get.l0 : Nat → Int → Int → List Int → Int → Int → Option (Int × Int × Int)
  | 0, _, _, _, _, _ => none
  | k + 1, x5, x6, x33, x34, x35 => if x35 < x34 then (if 0 ≤ x35 then (if x35 < (x33.length : Int) then (coin_Get.l0 k x5 (Go.bits .or .u64 (IntKind.u64.wrap (x6 * 256)) (IntKind.u64.wrap (rd x33 x35))) x33 x34 (wrap64 (x35 + 1))) else (none)) else (none)) else ((coin_Size.f k x6).bind fun t123 => (if t123 = x5 then (some (x6, x5, 0)) else (some (0, 0, 4))))
end
def coin_Get.f (k : Nat) (l0 : List Int) : Option (Int × Int × Int) := if (l0.length : Int) = 0 then (some (0, 0, 5)) else (if 0 < (l0.length : Int) then ((bits_LeadingZeros8.f (Go.bits .xor .u8 IntKind.u8.max (rd l0 0))).bind fun t119 => (if (l0.length : Int) < (wrap64 (t119 + 1)) then (some (0, 0, 5)) else (if (wrap64 (t119 + 1)) < 9 then (if 0 ≤ (wrap64 (t119 + 1)) then (coin_Get.j0 k l0 (wrap64 (t119 + 1)) (IntKind.u64.wrap (Go.bits .and .u8 (rd l0 0) (shr .u8 255 (wrap64 (t119 + 1)))))) else (none)) else (coin_Get.j0 k l0 (wrap64 (t119 + 1)) 0)))) else (none))
theorem coin_Get.mono_l : ∀ k, (∀ y0 y1 y2, LeO (coin_Get.j0 k y0 y1 y2) (coin_Get.j0 (k + 1) y0 y1 y2)) ∧ (∀ y0 y1 y2 y3 y4, LeO (coin_Get.l0 k y0 y1 y2 y3 y4) (coin_Get.l0 (k + 1) y0 y1 y2 y3 y4))
  | 0 => ⟨fun _ _ _ r h => by simp [coin_Get.j0] at h, fun _ _ _ _ _ r h => by simp [coin_Get.l0] at h⟩
  | k + 1 => by
    obtain ⟨ih0, ih1⟩ := coin_Get.mono_l k
    refine ⟨?_, ?_⟩
    · intro y0 y1 y2
      unfold coin_Get.j0
      repeat' first
      | (with_reducible exact ih0 _ _ _)
      | (with_reducible exact ih1 _ _ _ _ _)
      | (with_reducible exact coin_Size.mono _ _)
      | (with_reducible exact LeO.refl _)
      | (with_reducible exact LeO.none _)
      | (with_reducible refine LeO.ite ?_ ?_)
      | (with_reducible refine LeO.bind ?_ (fun _ => ?_))
      | exact ih0 _ _ _
      | exact ih1 _ _ _ _ _
      | exact coin_Size.mono _ _
      | exact LeO.none _
      | refine LeO.ite ?_ ?_
      | refine LeO.bind ?_ (fun _ => ?_)
    · intro y0 y1 y2 y3 y4
      unfold coin_Get.l0
      repeat' first
      | (with_reducible exact ih0 _ _ _)
      | (with_reducible exact ih1 _ _ _ _ _)
      | (with_reducible exact coin_Size.mono _ _)
      | (with_reducible exact LeO.refl _)
      | (with_reducible exact LeO.none _)
      | (with_reducible refine LeO.ite ?_ ?_)
      | (with_reducible refine LeO.bind ?_ (fun _ => ?_))
      | exact ih0 _ _ _
      | exact ih1 _ _ _ _ _
      | exact coin_Size.mono _ _
      | exact LeO.none _
      | refine LeO.ite ?_ ?_
      | refine LeO.bind ?_ (fun _ => ?_)
theorem coin_Get.mono : ∀ a0 k, LeO (coin_Get.f k a0) (coin_Get.f (k + 1) a0) := by
  intro a0 k
  obtain ⟨ih0, ih1⟩ := coin_Get.mono_l k
  unfold coin_Get.f
  repeat' first
      | (with_reducible exact ih0 _ _ _)
      | (with_reducible exact ih1 _ _ _ _ _)
      | (with_reducible exact coin_Size.mono _ _)
      | (with_reducible exact LeO.refl _)
      | (with_reducible exact LeO.none _)
      | (with_reducible refine LeO.ite ?_ ?_)
      | (with_reducible refine LeO.bind ?_ (fun _ => ?_))
      | exact ih0 _ _ _
      | exact ih1 _ _ _ _ _
      | exact coin_Size.mono _ _
      | exact LeO.none _
      | refine LeO.ite ?_ ?_
      | refine LeO.bind ?_ (fun _ => ?_)
set_option maxHeartbeats 8000000 in
set_option maxRecDepth 100000 in
theorem coin_Get.calls (k : Nat) (A0 : Option Addr) (c0 : Nat) (l0 : List Int) (r1 : Int) (r2 : Int) (r3 : Int) (w : World) (hr0 : Kd.C (Kd.int .u8) w A0 l0.length l0) (hc0 : l0.length ≤ c0) (h : coin_Get.f k l0 = some (r1, r2, r3)) :
    Calls Try.prog 13 #[.slice A0 l0.length c0] w fun e w' => e = .returned (.tuple #[.int .u64 r1, .int .i64 r2, .int .i64 r3]) ∧ Below w.heap.size w w' := by
  have HR0 := Aside0.mk hr0
  have HC0 := Aside0.mk hc0
  clear hr0 hc0
  have HB := Aside0.mk (Below.refl w.heap.size w)
  have H : (if (l0.length : Int) = 0 then (some (0, 0, 5)) else (if 0 < (l0.length : Int) then ((bits_LeadingZeros8.f (Go.bits .xor .u8 IntKind.u8.max (rd l0 0))).bind fun t119 => (if (l0.length : Int) < (wrap64 (t119 + 1)) then (some (0, 0, 5)) else (if (wrap64 (t119 + 1)) < 9 then (if 0 ≤ (wrap64 (t119 + 1)) then (coin_Get.j0 k l0 (wrap64 (t119 + 1)) (IntKind.u64.wrap (Go.bits .and .u8 (rd l0 0) (shr .u8 255 (wrap64 (t119 + 1)))))) else (none)) else (coin_Get.j0 k l0 (wrap64 (t119 + 1)) 0)))) else (none))) = some (r1, r2, r3) := h
  clear h
  by_cases c2 : (l0.length : Int) = 0
  · rw [if_pos c2] at H
    have c2b0 : ((l0.length : Int) == 0) = true := beq_iff_eq.mpr c2
    have c2b1 : ((l0.length : Int) != 0) = false := bne_eq_false_iff_eq.mpr c2
    clear c2
    simp only [Option.some.injEq, Prod.mk.injEq] at H
    obtain ⟨rfl, rfl, rfl⟩ := H
    go_enter Try.func13, Try.ntmps13
    go_wp2
    repeat (go_quiet (fail); try go_wp2)
    go_ret3
    exact ⟨by first | rfl | (simp [errW_none, errW_some] <;> rfl) | (simp [*, errW_none, errW_some] <;> rfl), by repeat (first | (with_reducible first | exact HB.out | apply below_alloc | apply pw_below_drewN | apply below_drew1) | exact HB.out)⟩
  · rw [if_neg c2] at H
    have c2b0 : ((l0.length : Int) == 0) = false := beq_eq_false_iff_ne.mpr c2
    have c2b1 : ((l0.length : Int) != 0) = true := bne_iff_ne.mpr c2
    have c2b2 : ¬ (l0 = []) := fun h_ => c2 (by rw [h_]; rfl)
    by_cases c3 : 0 < (l0.length : Int)
    · rw [if_pos c3] at H
      have c3b0 : decide (0 < (l0.length : Int)) = true := decide_eq_true c3
      have c3b1 : decide (0 < l0.length) = true := decide_eq_true (by omega)
      clear c3
      replace H := Option.bind_eq_some_iff.mp H
      obtain ⟨t119, A40, H⟩ := H
      replace H : (if (l0.length : Int) < (wrap64 (t119 + 1)) then (some (0, 0, 5)) else (if (wrap64 (t119 + 1)) < 9 then (if 0 ≤ (wrap64 (t119 + 1)) then (coin_Get.j0 k l0 (wrap64 (t119 + 1)) (IntKind.u64.wrap (Go.bits .and .u8 (rd l0 0) (shr .u8 255 (wrap64 (t119 + 1)))))) else (none)) else (coin_Get.j0 k l0 (wrap64 (t119 + 1)) 0))) = some (r1, r2, r3) := H
      have A4 := Aside0.mk A40
      clear A40
      by_cases c5 : (l0.length : Int) < (wrap64 (t119 + 1))
      · rw [if_pos c5] at H
        have c5b0 : decide ((l0.length : Int) < (wrap64 (t119 + 1))) = true := decide_eq_true c5
        clear c5
        simp only [Option.some.injEq, Prod.mk.injEq] at H
        obtain ⟨rfl, rfl, rfl⟩ := H
        have p118 : 0 ≤ (0 : Int) := (by omega)
        have q118 : 0 < (l0.length : Int) := of_decide_eq_true (by first | (with_reducible assumption) | assumption)
        obtain ⟨ad118, e118, hx118_0⟩ := Kd.at_int HR0.out 0 p118 q118
        cases e118
        have qi118 : (0 < l0.length) = True := eq_true (by omega)
        (try rw [show ((0 : Int)).toNat = 0 from rfl] at hx118_0)
        (try rw [Addr.add_zero'] at hx118_0)
        replace p118 := eq_true p118
        replace q118 := eq_true q118
        go_enter Try.func13, Try.ntmps13
        go_wp2_with (first | (go_at_call 23; (with_reducible refine (bits_LeadingZeros8.calls (Go.bits .xor .u8 IntKind.u8.max (rd l0 0)) t119 _ A4.out).mono ?_); rintro e w' ⟨rfl, ⟨nd, rfl⟩⟩; (try first | exact ⟨rfl, _, World.drewN_drewN _ _ _⟩ | exact ⟨rfl, _, Eq.trans (World.drewN_drewN _ _ _) (congrArg (World.drewN _) (Nat.add_assoc _ _ _))⟩)) | (go_at_call 23; (refine calls_of_args (args' := #[.int .u8 (Go.bits .xor .u8 IntKind.u8.max (rd l0 0))]) ?_ ?_; focus (first | rfl | (simp; done) | (refine qa_arr ?_; (repeat' (first | rfl | refine qa_cons ?_ ?_ | refine qa_int ?_ | refine qa_agg ?_ | refine qa_arr ?_ | omega)); done)); (with_reducible refine (bits_LeadingZeros8.calls (Go.bits .xor .u8 IntKind.u8.max (rd l0 0)) t119 _ A4.out).mono ?_)); rintro e w' ⟨rfl, ⟨nd, rfl⟩⟩; (try first | exact ⟨rfl, _, World.drewN_drewN _ _ _⟩ | exact ⟨rfl, _, Eq.trans (World.drewN_drewN _ _ _) (congrArg (World.drewN _) (Nat.add_assoc _ _ _))⟩)))
        repeat (go_quiet (first | (go_at_call 23; (with_reducible refine (bits_LeadingZeros8.calls (Go.bits .xor .u8 IntKind.u8.max (rd l0 0)) t119 _ A4.out).mono ?_); rintro e w' ⟨rfl, ⟨nd, rfl⟩⟩; (try first | exact ⟨rfl, _, World.drewN_drewN _ _ _⟩ | exact ⟨rfl, _, Eq.trans (World.drewN_drewN _ _ _) (congrArg (World.drewN _) (Nat.add_assoc _ _ _))⟩)) | (go_at_call 23; (refine calls_of_args (args' := #[.int .u8 (Go.bits .xor .u8 IntKind.u8.max (rd l0 0))]) ?_ ?_; focus (first | rfl | (simp; done) | (refine qa_arr ?_; (repeat' (first | rfl | refine qa_cons ?_ ?_ | refine qa_int ?_ | refine qa_agg ?_ | refine qa_arr ?_ | omega)); done)); (with_reducible refine (bits_LeadingZeros8.calls (Go.bits .xor .u8 IntKind.u8.max (rd l0 0)) t119 _ A4.out).mono ?_)); rintro e w' ⟨rfl, ⟨nd, rfl⟩⟩; (try first | exact ⟨rfl, _, World.drewN_drewN _ _ _⟩ | exact ⟨rfl, _, Eq.trans (World.drewN_drewN _ _ _) (congrArg (World.drewN _) (Nat.add_assoc _ _ _))⟩))); try go_wp2_with (first | (go_at_call 23; (with_reducible refine (bits_LeadingZeros8.calls (Go.bits .xor .u8 IntKind.u8.max (rd l0 0)) t119 _ A4.out).mono ?_); rintro e w' ⟨rfl, ⟨nd, rfl⟩⟩; (try first | exact ⟨rfl, _, World.drewN_drewN _ _ _⟩ | exact ⟨rfl, _, Eq.trans (World.drewN_drewN _ _ _) (congrArg (World.drewN _) (Nat.add_assoc _ _ _))⟩)) | (go_at_call 23; (refine calls_of_args (args' := #[.int .u8 (Go.bits .xor .u8 IntKind.u8.max (rd l0 0))]) ?_ ?_; focus (first | rfl | (simp; done) | (refine qa_arr ?_; (repeat' (first | rfl | refine qa_cons ?_ ?_ | refine qa_int ?_ | refine qa_agg ?_ | refine qa_arr ?_ | omega)); done)); (with_reducible refine (bits_LeadingZeros8.calls (Go.bits .xor .u8 IntKind.u8.max (rd l0 0)) t119 _ A4.out).mono ?_)); rintro e w' ⟨rfl, ⟨nd, rfl⟩⟩; (try first | exact ⟨rfl, _, World.drewN_drewN _ _ _⟩ | exact ⟨rfl, _, Eq.trans (World.drewN_drewN _ _ _) (congrArg (World.drewN _) (Nat.add_assoc _ _ _))⟩))))
        go_ret3
        exact ⟨by first | rfl | (simp [errW_none, errW_some] <;> rfl) | (simp [*, errW_none, errW_some] <;> rfl), by repeat (first | (with_reducible first | exact HB.out | apply below_alloc | apply pw_below_drewN | apply below_drew1) | exact HB.out)⟩
      · rw [if_neg c5] at H
        have c5b0 : decide ((l0.length : Int) < (wrap64 (t119 + 1))) = false := decide_eq_false c5
        clear c5
        have HC6 := Aside0.mk H
        clear H
        have p118 : 0 ≤ (0 : Int) := (by omega)
        have q118 : 0 < (l0.length : Int) := of_decide_eq_true (by first | (with_reducible assumption) | assumption)
        obtain ⟨ad118, e118, hx118_0⟩ := Kd.at_int HR0.out 0 p118 q118
        cases e118
        have qi118 : (0 < l0.length) = True := eq_true (by omega)
        (try rw [show ((0 : Int)).toNat = 0 from rfl] at hx118_0)
        (try rw [Addr.add_zero'] at hx118_0)
        replace p118 := eq_true p118
        replace q118 := eq_true q118
        go_enter Try.func13, Try.ntmps13
        go_upto_if 23 with (first | (go_at_call 23; (first | (with_reducible refine (bits_LeadingZeros8.calls (Go.bits .xor .u8 IntKind.u8.max (rd l0 0)) t119 _ A4.out).mono ?_) | (refine calls_of_args (args' := #[.int .u8 (Go.bits .xor .u8 IntKind.u8.max (rd l0 0))]) ?_ ?_; focus (first | rfl | (simp; done) | (refine qa_arr ?_; (repeat' (first | rfl | refine qa_cons ?_ ?_ | refine qa_int ?_ | refine qa_agg ?_ | refine qa_arr ?_ | omega)); done)); (with_reducible refine (bits_LeadingZeros8.calls (Go.bits .xor .u8 IntKind.u8.max (rd l0 0)) t119 _ A4.out).mono ?_))); rintro e w' ⟨rfl, ⟨nd, rfl⟩⟩; (try first | exact ⟨rfl, _, World.drewN_drewN _ _ _⟩ | exact ⟨rfl, _, Eq.trans (World.drewN_drewN _ _ _) (congrArg (World.drewN _) (Nat.add_assoc _ _ _))⟩)))
        repeat (go_quiet (first | (go_at_call 23; (first | (with_reducible refine (bits_LeadingZeros8.calls (Go.bits .xor .u8 IntKind.u8.max (rd l0 0)) t119 _ A4.out).mono ?_) | (refine calls_of_args (args' := #[.int .u8 (Go.bits .xor .u8 IntKind.u8.max (rd l0 0))]) ?_ ?_; focus (first | rfl | (simp; done) | (refine qa_arr ?_; (repeat' (first | rfl | refine qa_cons ?_ ?_ | refine qa_int ?_ | refine qa_agg ?_ | refine qa_arr ?_ | omega)); done)); (with_reducible refine (bits_LeadingZeros8.calls (Go.bits .xor .u8 IntKind.u8.max (rd l0 0)) t119 _ A4.out).mono ?_))); rintro e w' ⟨rfl, ⟨nd, rfl⟩⟩; (try first | exact ⟨rfl, _, World.drewN_drewN _ _ _⟩ | exact ⟨rfl, _, Eq.trans (World.drewN_drewN _ _ _) (congrArg (World.drewN _) (Nat.add_assoc _ _ _))⟩))); go_upto_if 23 with (first | (go_at_call 23; (first | (with_reducible refine (bits_LeadingZeros8.calls (Go.bits .xor .u8 IntKind.u8.max (rd l0 0)) t119 _ A4.out).mono ?_) | (refine calls_of_args (args' := #[.int .u8 (Go.bits .xor .u8 IntKind.u8.max (rd l0 0))]) ?_ ?_; focus (first | rfl | (simp; done) | (refine qa_arr ?_; (repeat' (first | rfl | refine qa_cons ?_ ?_ | refine qa_int ?_ | refine qa_agg ?_ | refine qa_arr ?_ | omega)); done)); (with_reducible refine (bits_LeadingZeros8.calls (Go.bits .xor .u8 IntKind.u8.max (rd l0 0)) t119 _ A4.out).mono ?_))); rintro e w' ⟨rfl, ⟨nd, rfl⟩⟩; (try first | exact ⟨rfl, _, World.drewN_drewN _ _ _⟩ | exact ⟨rfl, _, Eq.trans (World.drewN_drewN _ _ _) (congrArg (World.drewN _) (Nat.add_assoc _ _ _))⟩))))
        (try simp only [Act.put, List.setIfInBounds_toArray, List.set_cons_zero, List.set_cons_succ])
        go_cut [6] (fun v6 wc => ∃ (kq : Nat) (x6_5 : Int), v6 = .int .u64 x6_5 ∧ Aside0 (coin_Get.j0 kq l0 (wrap64 (t119 + 1)) x6_5 = some (r1, r2, r3)) ∧ Aside0 (kq ≤ k) ∧ Aside0 (Below w.heap.size w wc))
        case first =>
          have H := HC6.out
          clear HC6
          by_cases c7 : (wrap64 (t119 + 1)) < 9
          · rw [if_pos c7] at H
            have c7b0 : decide ((wrap64 (t119 + 1)) < 9) = true := decide_eq_true c7
            clear c7
            (first | rw [c7b0] | (simp only [i64_w, i32_w]; rw [c7b0]) | skip)
            obtain ⟨ji8, hji8⟩ : ∃ j_ : Int, (wrap64 (t119 + 1)) = j_ := ⟨_, rfl⟩
            replace H : (if 0 ≤ (ji8) then (coin_Get.j0 k l0 ji8 (IntKind.u64.wrap (Go.bits .and .u8 (rd l0 0) (shr .u8 255 (ji8))))) else (none)) = some (r1, r2, r3) := by first | (rw [hji8] at H; exact H) | (simp only [hji8] at H ⊢; exact H)
            (try rw [hji8] at c5b0)
            (try rw [hji8] at c7b0)
            have hji8w : (IntKind.i64.wrap (t119 + 1)) = ji8 := (i64_w _).trans hji8
            by_cases c9 : 0 ≤ (ji8)
            · rw [if_pos c9] at H
              have c9b0 := eq_true c9
              have c9b1 : decide (0 ≤ (ji8)) = true := decide_eq_true c9
              clear c9
              obtain ⟨ji10, hji10⟩ : ∃ j_ : Int, (shr .u8 255 (ji8)) = j_ := ⟨_, rfl⟩
              replace H : (coin_Get.j0 k l0 ji8 (IntKind.u64.wrap (Go.bits .and .u8 (rd l0 0) (ji10)))) = some (r1, r2, r3) := by first | (rw [hji10] at H; exact H) | (simp only [hji10] at H ⊢; exact H)
              have hji10_ : (255 / 2 ^ min (ji8).toNat 8) = ji10 := hji10
              have hji10z : (ji8) ≤ 8 → (255 / 2 ^ (ji8).toNat) = ji10 := shr_small hji10
              (try (have hji10y : 0 ≤ (ji8) := by omega))
              have H' := Aside0.mk H
              clear H
              have p120 : 0 ≤ (0 : Int) := (by omega)
              have q120 : 0 < (l0.length : Int) := of_decide_eq_true (by first | (with_reducible assumption) | assumption)
              obtain ⟨ad120, e120, hx120_0⟩ := Kd.at_int HR0.out 0 p120 q120
              obtain rfl : ad118 = ad120 := (by injection e120)
              have qi120 : (0 < l0.length) = True := eq_true (by omega)
              (try rw [show ((0 : Int)).toNat = 0 from rfl] at hx120_0)
              (try rw [Addr.add_zero'] at hx120_0)
              replace hx120_0 := (HB.out.cell (World.block_lt_of_cell? w _ hx120_0)).trans hx120_0
              replace p120 := eq_true p120
              replace q120 := eq_true q120
              go_wp2
              repeat (go_quiet (fail); try go_wp2)
              (try simp only [← hji8] at H' ⊢)
              go_meet
              case rel => exact ⟨_, (IntKind.u64.wrap (Go.bits .and .u8 (rd l0 0) (ji10))), (by first | rfl | (simp; done) | (simp only [← hji10] <;> (first | rfl | simp)) | (simp [*]; done) | (refine qa_int ?_; omega) | (refine qa_int ?_; simp <;> omega)), H', ⟨by first | omega | exact Nat.le_refl _⟩, ⟨by repeat (first | (with_reducible first | exact HB.out | apply below_alloc | apply pw_below_drewN | apply below_drew1) | exact HB.out)⟩⟩
            · rw [if_neg c9] at H
              exact absurd H (by simp)
          · rw [if_neg c7] at H
            have c7b0 : decide ((wrap64 (t119 + 1)) < 9) = false := decide_eq_false c7
            clear c7
            (first | rw [c7b0] | (simp only [i64_w, i32_w]; rw [c7b0]) | skip)
            have H' := Aside0.mk H
            clear H
            go_wp2
            repeat (go_quiet (fail); try go_wp2)
            go_meet
            case rel => exact ⟨_, (0), (by first | rfl | (simp; done) | (simp [*]; done) | (refine qa_int ?_; omega) | (refine qa_int ?_; simp <;> omega)), H', ⟨by first | omega | exact Nat.le_refl _⟩, ⟨by repeat (first | (with_reducible first | exact HB.out | apply below_alloc | apply pw_below_drewN | apply below_drew1) | exact HB.out)⟩⟩
        case rest =>
          clear HC6
          try clear c1
          try clear p1
          try clear q1
          try clear hx1
          try clear qi1
          try clear c2
          try clear c2b0
          try clear c2b1
          try clear c2b2
          try clear p2
          try clear c3
          try clear c3b0
          try clear c3b1
          try clear c5
          try clear c5b0
          try clear p6
          try clear c7
          try clear c7b0
          try clear c9
          try clear c9b0
          try clear c9b1
          try clear hx118_0
          try clear hx120_0
          try clear p118
          try clear p120
          try clear q118
          try clear q120
          obtain ⟨kq, x6_5, rfl, HA, HJ5, HB⟩ := hcut
          cases kq with
          | zero => exact absurd HA.out (by simp [coin_Get.j0])
          | succ kj5 =>
            have H := HA.out
            clear HA
            simp only [coin_Get.j0] at H
            by_cases c11 : 1 ≤ (wrap64 (t119 + 1))
            · rw [if_pos c11] at H
              have c11b0 := eq_true c11
              have c11b1 : decide (1 ≤ (wrap64 (t119 + 1))) = true := decide_eq_true c11
              by_cases c12 : (wrap64 (t119 + 1)) ≤ (l0.length : Int)
              · rw [if_pos c12] at H
                have c12b0 := eq_true c12
                have c12b1 : decide ((wrap64 (t119 + 1)) ≤ (l0.length : Int)) = true := decide_eq_true c12
                have H' := Aside0.mk H
                clear H
                obtain ⟨i013, hi013, _, hsz13, _⟩ := info_parts info5
                obtain ⟨A13, hcut13, hA13, hC13⟩ := print_mid_of (P := Try.prog) (Value.int .u8) 0 23 5 .i64 .i64 Try.underlying23 hi013 hsz13 (some ad118) c0 l0 1 (wrap64 (t119 + 1)) (by omega) (by first | omega | exact of_decide_eq_true (by first | (with_reducible assumption) | assumption)) (of_decide_eq_true (by first | (with_reducible assumption) | assumption)) HC0.out
                have HR121 := Aside0.mk (Kd.C_of_reads (h1 := fun _ => rfl) (hA13 _ (Kd.reads_of_C HR0.out)))
                have HC121 := Aside0.mk hC13
                clear hA13 hC13 hi013 hsz13
                have hSL13 := Aside0.mk (show ((l0.take ((wrap64 (t119 + 1)) : Int).toNat).drop 1).length = ((wrap64 (t119 + 1)).toNat - 1) from (by rw [List.length_drop, List.length_take]; have h_ : ((wrap64 (t119 + 1)) : Int) ≤ (l0.length : Int) := of_decide_eq_true (by first | (with_reducible assumption) | assumption); omega))
                go_wp2
                repeat (go_quiet (fail); try go_wp2)
                go_loopg [6, 35] kj5 (fun kq v6 v35 w' => ∃ (x6_2 : Int) (x35_2 : Int), v6 = .int .u64 x6_2 ∧ v35 = .int .i64 x35_2 ∧ Aside0 (coin_Get.l0 kq (wrap64 (t119 + 1)) x6_2 ((l0.take ((wrap64 (t119 + 1)) : Int).toNat).drop 1) (((l0.take ((wrap64 (t119 + 1)) : Int).toNat).drop 1).length : Int) x35_2 = some (r1, r2, r3)) ∧ Aside0 (kq ≤ kj5) ∧ Aside0 (Below w.heap.size w w'))
                case atStart => exact ⟨(x6_5), (0), (by first | rfl | (simp; done) | (simp [*]; done) | (refine qa_int ?_; omega) | (refine qa_int ?_; simp <;> omega)), (by first | rfl | (simp; done) | (simp [*]; done) | (refine qa_int ?_; omega) | (refine qa_int ?_; simp <;> omega)), H', ⟨Nat.le_refl _⟩, ⟨by repeat (first | (with_reducible first | exact HB.out | apply below_alloc | apply pw_below_drewN | apply below_drew1) | exact HB.out)⟩⟩
                case round =>
                  clear H'
                  try clear c1
                  try clear p1
                  try clear q1
                  try clear hx1
                  try clear qi1
                  try clear c2
                  try clear c2b0
                  try clear c2b1
                  try clear c2b2
                  try clear p2
                  try clear c3
                  try clear c3b0
                  try clear c3b1
                  try clear c5
                  try clear c5b0
                  try clear p6
                  try clear c7
                  try clear c7b0
                  try clear c9
                  try clear c9b0
                  try clear c9b1
                  try clear c11
                  try clear c11b0
                  try clear c11b1
                  try clear p11
                  try clear q11
                  try clear hx11
                  try clear qi11
                  try clear c12
                  try clear c12b0
                  try clear c12b1
                  try clear p12
                  try clear q12
                  try clear hx12
                  try clear qi12
                  try clear c13
                  try clear hx118_0
                  try clear hx120_0
                  try clear p1
                  try clear p118
                  try clear p120
                  try clear p2
                  try clear p6
                  try clear q1
                  try clear q118
                  try clear q120
                  obtain ⟨x6_2, x35_2, rfl, rfl, HA, HK2, HB⟩ := hrel
                  cases gk with
                  | zero => exact absurd HA.out (by simp [coin_Get.l0])
                  | succ k2 =>
                    have H := HA.out
                    clear HA
                    simp only [coin_Get.l0] at H
                    by_cases c14 : x35_2 < (((l0.take ((wrap64 (t119 + 1)) : Int).toNat).drop 1).length : Int)
                    · rw [if_pos c14] at H
                      have c14b0 : decide (x35_2 < (((l0.take ((wrap64 (t119 + 1)) : Int).toNat).drop 1).length : Int)) = true := decide_eq_true c14
                      (try (have c14b0s0 := c14b0; rw [show ((l0.take ((wrap64 (t119 + 1)) : Int).toNat).drop 1).length = ((wrap64 (t119 + 1)).toNat - 1) from hSL13.out] at c14b0s0))
                      clear c14
                      by_cases c15 : 0 ≤ x35_2
                      · rw [if_pos c15] at H
                        have c15b0 : decide (0 ≤ x35_2) = true := decide_eq_true c15
                        clear c15
                        by_cases c16 : x35_2 < (((l0.take ((wrap64 (t119 + 1)) : Int).toNat).drop 1).length : Int)
                        · rw [if_pos c16] at H
                          have c16b0 : decide (x35_2 < (((l0.take ((wrap64 (t119 + 1)) : Int).toNat).drop 1).length : Int)) = true := decide_eq_true c16
                          (try (have c16b0s0 := c16b0; rw [show ((l0.take ((wrap64 (t119 + 1)) : Int).toNat).drop 1).length = ((wrap64 (t119 + 1)).toNat - 1) from hSL13.out] at c16b0s0))
                          clear c16
                          have H' := Aside0.mk H
                          clear H
                          have p122 : 0 ≤ (x35_2 : Int) := of_decide_eq_true (by first | (with_reducible assumption) | assumption)
                          have q122 : x35_2 < (((l0.take ((wrap64 (t119 + 1)) : Int).toNat).drop 1).length : Int) := of_decide_eq_true (by first | (with_reducible assumption) | assumption)
                          obtain ⟨ad122, e122, hx122_0⟩ := Kd.at_int HR121.out x35_2 p122 q122
                          cases e122
                          replace hx122_0 := (HB.out.cell (World.block_lt_of_cell? w _ hx122_0)).trans hx122_0
                          replace p122 := eq_true p122
                          replace q122 := eq_true q122
                          (try (have q122s := q122; rw [hSL13.out] at q122s))
                          go_wp2
                          repeat (go_quiet (fail); try go_wp2)
                          go_roundg k2
                          case measure => have := HJ5.out; have := HK2.out; omega
                          case rel => exact ⟨(Go.bits .or .u64 (IntKind.u64.wrap (x6_2 * 256)) (IntKind.u64.wrap (rd ((l0.take ((wrap64 (t119 + 1)) : Int).toNat).drop 1) x35_2))), (wrap64 (x35_2 + 1)), (by first | rfl | (simp; done) | (simp [*]; done) | (refine qa_int ?_; omega) | (refine qa_int ?_; simp <;> omega)), (by first | rfl | (simp; done) | (simp [*]; done) | (refine qa_int ?_; omega) | (refine qa_int ?_; simp <;> omega)), H', ⟨by have := HJ5.out; have := HK2.out; omega⟩, ⟨by repeat (first | (with_reducible first | exact HB.out | apply below_alloc | apply pw_below_drewN | apply below_drew1) | exact HB.out)⟩⟩
                        · rw [if_neg c16] at H
                          exact absurd H (by simp)
                      · rw [if_neg c15] at H
                        exact absurd H (by simp)
                    · rw [if_neg c14] at H
                      have c14b0 : decide (x35_2 < (((l0.take ((wrap64 (t119 + 1)) : Int).toNat).drop 1).length : Int)) = false := decide_eq_false c14
                      (try (have c14b0s0 := c14b0; rw [show ((l0.take ((wrap64 (t119 + 1)) : Int).toNat).drop 1).length = ((wrap64 (t119 + 1)).toNat - 1) from hSL13.out] at c14b0s0))
                      clear c14
                      replace H := Option.bind_eq_some_iff.mp H
                      obtain ⟨t123, A170, H⟩ := H
                      replace H : (if t123 = (wrap64 (t119 + 1)) then (some (x6_2, (wrap64 (t119 + 1)), 0)) else (some (0, 0, 4))) = some (r1, r2, r3) := H
                      have A17 := Aside0.mk A170
                      clear A170
                      by_cases c18 : t123 = (wrap64 (t119 + 1))
                      · rw [if_pos c18] at H
                        have c18b0 : (t123 == (wrap64 (t119 + 1))) = true := beq_iff_eq.mpr c18
                        have c18b1 : (t123 != (wrap64 (t119 + 1))) = false := bne_eq_false_iff_eq.mpr c18
                        clear c18
                        simp only [Option.some.injEq, Prod.mk.injEq] at H
                        obtain ⟨rfl, rfl, rfl⟩ := H
                        go_wp2_with (first | (go_at_call 15; (with_reducible refine (coin_Size.calls k2 x6_2 t123 _ A17.out).mono ?_); rintro e w19 ⟨rfl, hb⟩; have n0_ := Aside0.mk (below_step (by repeat (first | (with_reducible first | exact HB.out | apply below_alloc | apply pw_below_drewN | apply below_drew1) | exact HB.out)) hb); clear HB; have HB := n0_; clear n0_; (try clear hb); (try clear hb2); (try clear hk); (try clear hi)) | (go_at_call 15; (refine calls_of_args (args' := #[.int .u64 x6_2]) ?_ ?_; focus (first | rfl | (simp; done) | (refine qa_arr ?_; (repeat' (first | rfl | refine qa_cons ?_ ?_ | refine qa_int ?_ | refine qa_agg ?_ | refine qa_arr ?_ | omega)); done)); (with_reducible refine (coin_Size.calls k2 x6_2 t123 _ A17.out).mono ?_)); rintro e w19 ⟨rfl, hb⟩; have n0_ := Aside0.mk (below_step (by repeat (first | (with_reducible first | exact HB.out | apply below_alloc | apply pw_below_drewN | apply below_drew1) | exact HB.out)) hb); clear HB; have HB := n0_; clear n0_; (try clear hb); (try clear hb2); (try clear hk); (try clear hi)))
                        repeat (go_quiet (first | (go_at_call 15; (with_reducible refine (coin_Size.calls k2 x6_2 t123 _ A17.out).mono ?_); rintro e w19 ⟨rfl, hb⟩; have n0_ := Aside0.mk (below_step (by repeat (first | (with_reducible first | exact HB.out | apply below_alloc | apply pw_below_drewN | apply below_drew1) | exact HB.out)) hb); clear HB; have HB := n0_; clear n0_; (try clear hb); (try clear hb2); (try clear hk); (try clear hi)) | (go_at_call 15; (refine calls_of_args (args' := #[.int .u64 x6_2]) ?_ ?_; focus (first | rfl | (simp; done) | (refine qa_arr ?_; (repeat' (first | rfl | refine qa_cons ?_ ?_ | refine qa_int ?_ | refine qa_agg ?_ | refine qa_arr ?_ | omega)); done)); (with_reducible refine (coin_Size.calls k2 x6_2 t123 _ A17.out).mono ?_)); rintro e w19 ⟨rfl, hb⟩; have n0_ := Aside0.mk (below_step (by repeat (first | (with_reducible first | exact HB.out | apply below_alloc | apply pw_below_drewN | apply below_drew1) | exact HB.out)) hb); clear HB; have HB := n0_; clear n0_; (try clear hb); (try clear hb2); (try clear hk); (try clear hi))); try go_wp2_with (first | (go_at_call 15; (with_reducible refine (coin_Size.calls k2 x6_2 t123 _ A17.out).mono ?_); rintro e w19 ⟨rfl, hb⟩; have n0_ := Aside0.mk (below_step (by repeat (first | (with_reducible first | exact HB.out | apply below_alloc | apply pw_below_drewN | apply below_drew1) | exact HB.out)) hb); clear HB; have HB := n0_; clear n0_; (try clear hb); (try clear hb2); (try clear hk); (try clear hi)) | (go_at_call 15; (refine calls_of_args (args' := #[.int .u64 x6_2]) ?_ ?_; focus (first | rfl | (simp; done) | (refine qa_arr ?_; (repeat' (first | rfl | refine qa_cons ?_ ?_ | refine qa_int ?_ | refine qa_agg ?_ | refine qa_arr ?_ | omega)); done)); (with_reducible refine (coin_Size.calls k2 x6_2 t123 _ A17.out).mono ?_)); rintro e w19 ⟨rfl, hb⟩; have n0_ := Aside0.mk (below_step (by repeat (first | (with_reducible first | exact HB.out | apply below_alloc | apply pw_below_drewN | apply below_drew1) | exact HB.out)) hb); clear HB; have HB := n0_; clear n0_; (try clear hb); (try clear hb2); (try clear hk); (try clear hi))))
                        go_ret3
                        exact ⟨by first | rfl | (simp [errW_none, errW_some] <;> rfl) | (simp [*, errW_none, errW_some] <;> rfl), by repeat (first | (with_reducible first | exact HB.out | apply below_alloc | apply pw_below_drewN | apply below_drew1) | exact HB.out)⟩
                      · rw [if_neg c18] at H
                        have c18b0 : (t123 == (wrap64 (t119 + 1))) = false := beq_eq_false_iff_ne.mpr c18
                        have c18b1 : (t123 != (wrap64 (t119 + 1))) = true := bne_iff_ne.mpr c18
                        simp only [Option.some.injEq, Prod.mk.injEq] at H
                        obtain ⟨rfl, rfl, rfl⟩ := H
                        go_wp2_with (first | (go_at_call 15; (with_reducible refine (coin_Size.calls k2 x6_2 t123 _ A17.out).mono ?_); rintro e w20 ⟨rfl, hb⟩; have n0_ := Aside0.mk (below_step (by repeat (first | (with_reducible first | exact HB.out | apply below_alloc | apply pw_below_drewN | apply below_drew1) | exact HB.out)) hb); clear HB; have HB := n0_; clear n0_; (try clear hb); (try clear hb2); (try clear hk); (try clear hi)) | (go_at_call 15; (refine calls_of_args (args' := #[.int .u64 x6_2]) ?_ ?_; focus (first | rfl | (simp; done) | (refine qa_arr ?_; (repeat' (first | rfl | refine qa_cons ?_ ?_ | refine qa_int ?_ | refine qa_agg ?_ | refine qa_arr ?_ | omega)); done)); (with_reducible refine (coin_Size.calls k2 x6_2 t123 _ A17.out).mono ?_)); rintro e w20 ⟨rfl, hb⟩; have n0_ := Aside0.mk (below_step (by repeat (first | (with_reducible first | exact HB.out | apply below_alloc | apply pw_below_drewN | apply below_drew1) | exact HB.out)) hb); clear HB; have HB := n0_; clear n0_; (try clear hb); (try clear hb2); (try clear hk); (try clear hi)))
                        repeat (go_quiet (first | (go_at_call 15; (with_reducible refine (coin_Size.calls k2 x6_2 t123 _ A17.out).mono ?_); rintro e w20 ⟨rfl, hb⟩; have n0_ := Aside0.mk (below_step (by repeat (first | (with_reducible first | exact HB.out | apply below_alloc | apply pw_below_drewN | apply below_drew1) | exact HB.out)) hb); clear HB; have HB := n0_; clear n0_; (try clear hb); (try clear hb2); (try clear hk); (try clear hi)) | (go_at_call 15; (refine calls_of_args (args' := #[.int .u64 x6_2]) ?_ ?_; focus (first | rfl | (simp; done) | (refine qa_arr ?_; (repeat' (first | rfl | refine qa_cons ?_ ?_ | refine qa_int ?_ | refine qa_agg ?_ | refine qa_arr ?_ | omega)); done)); (with_reducible refine (coin_Size.calls k2 x6_2 t123 _ A17.out).mono ?_)); rintro e w20 ⟨rfl, hb⟩; have n0_ := Aside0.mk (below_step (by repeat (first | (with_reducible first | exact HB.out | apply below_alloc | apply pw_below_drewN | apply below_drew1) | exact HB.out)) hb); clear HB; have HB := n0_; clear n0_; (try clear hb); (try clear hb2); (try clear hk); (try clear hi))); try go_wp2_with (first | (go_at_call 15; (with_reducible refine (coin_Size.calls k2 x6_2 t123 _ A17.out).mono ?_); rintro e w20 ⟨rfl, hb⟩; have n0_ := Aside0.mk (below_step (by repeat (first | (with_reducible first | exact HB.out | apply below_alloc | apply pw_below_drewN | apply below_drew1) | exact HB.out)) hb); clear HB; have HB := n0_; clear n0_; (try clear hb); (try clear hb2); (try clear hk); (try clear hi)) | (go_at_call 15; (refine calls_of_args (args' := #[.int .u64 x6_2]) ?_ ?_; focus (first | rfl | (simp; done) | (refine qa_arr ?_; (repeat' (first | rfl | refine qa_cons ?_ ?_ | refine qa_int ?_ | refine qa_agg ?_ | refine qa_arr ?_ | omega)); done)); (with_reducible refine (coin_Size.calls k2 x6_2 t123 _ A17.out).mono ?_)); rintro e w20 ⟨rfl, hb⟩; have n0_ := Aside0.mk (below_step (by repeat (first | (with_reducible first | exact HB.out | apply below_alloc | apply pw_below_drewN | apply below_drew1) | exact HB.out)) hb); clear HB; have HB := n0_; clear n0_; (try clear hb); (try clear hb2); (try clear hk); (try clear hi))))
                        go_ret3
                        exact ⟨by first | rfl | (simp [errW_none, errW_some] <;> rfl) | (simp [*, errW_none, errW_some] <;> rfl), by repeat (first | (with_reducible first | exact HB.out | apply below_alloc | apply pw_below_drewN | apply below_drew1) | exact HB.out)⟩
              · rw [if_neg c12] at H
                exact absurd H (by simp)
            · rw [if_neg c11] at H
              exact absurd H (by simp)
    · rw [if_neg c3] at H
      exact absurd H (by simp)

/-! ### milestoneref01_bits: function 24 -/
def milestoneref01_bits.l0 : Nat → Int → Int → Option (Int)
  | 0, _, _ => none
  | k + 1, x0, x3 => if x0 > 0 then (milestoneref01_bits.l0 k (IntKind.u64.wrap (Int.tdiv x0 2)) (wrap64 (x3 + 1))) else (some x3)
def milestoneref01_bits.f (k : Nat) (a0 : Int) : Option (Int) := milestoneref01_bits.l0 k a0 0
theorem milestoneref01_bits.mono_l : ∀ k, (∀ y0 y1, LeO (milestoneref01_bits.l0 k y0 y1) (milestoneref01_bits.l0 (k + 1) y0 y1))
  | 0 => fun _ _ r h => by simp [milestoneref01_bits.l0] at h
  | k + 1 => by
    have ih0 := milestoneref01_bits.mono_l k
    · intro y0 y1
      unfold milestoneref01_bits.l0
      repeat' first
      | (with_reducible exact ih0 _ _)
      | (with_reducible exact LeO.refl _)
      | (with_reducible exact LeO.none _)
      | (with_reducible refine LeO.ite ?_ ?_)
      | (with_reducible refine LeO.bind ?_ (fun _ => ?_))
      | exact ih0 _ _
      | exact LeO.none _
      | refine LeO.ite ?_ ?_
      | refine LeO.bind ?_ (fun _ => ?_)
theorem milestoneref01_bits.mono : ∀ a0 k, LeO (milestoneref01_bits.f k a0) (milestoneref01_bits.f (k + 1) a0) := by
  intro a0 k
  have ih0 := milestoneref01_bits.mono_l k
  unfold milestoneref01_bits.f
  repeat' first
      | (with_reducible exact ih0 _ _)
      | (with_reducible exact LeO.refl _)
      | (with_reducible exact LeO.none _)
      | (with_reducible refine LeO.ite ?_ ?_)
      | (with_reducible refine LeO.bind ?_ (fun _ => ?_))
      | exact ih0 _ _
      | exact LeO.none _
      | refine LeO.ite ?_ ?_
      | refine LeO.bind ?_ (fun _ => ?_)
set_option maxHeartbeats 8000000 in
set_option maxRecDepth 100000 in
theorem milestoneref01_bits.calls (k : Nat) (a0 : Int) (r : Int) (w : World) (h : milestoneref01_bits.f k a0 = some r) :
    Calls Try.prog 24 #[.int .u64 a0] w fun e w' => e = .returned (.int .i64 r) ∧ Drawn0 w w' := by
  have H : (milestoneref01_bits.l0 k a0 0) = some r := h
  clear h
  have H' := Aside0.mk H
  clear H
  go_enter Try.func24, Try.ntmps24
  go_wp2
  go_loopg [0, 3] k (fun kq v0 v3 w' => ∃ (x0_1 : Int) (x3_1 : Int), v0 = .int .u64 x0_1 ∧ v3 = .int .i64 x3_1 ∧ Aside0 (milestoneref01_bits.l0 kq x0_1 x3_1 = some r) ∧ Aside0 (kq ≤ k) ∧ Drawn0 w w')
  case atStart => exact ⟨(a0), (0), (by first | rfl | (simp; done) | (simp [*]; done) | (refine qa_int ?_; omega) | (refine qa_int ?_; simp <;> omega)), (by first | rfl | (simp; done) | (simp [*]; done) | (refine qa_int ?_; omega) | (refine qa_int ?_; simp <;> omega)), H', ⟨Nat.le_refl _⟩, by repeat (first | exact Drawn0.refl _ | apply Drawn0.step)⟩
  case round =>
    clear H'
    obtain ⟨x0_1, x3_1, rfl, rfl, HA, HK1, ⟨m1, rfl⟩⟩ := hrel
    cases gk with
    | zero => exact absurd HA.out (by simp [milestoneref01_bits.l0])
    | succ k1 =>
      have H := HA.out
      clear HA
      simp only [milestoneref01_bits.l0] at H
      by_cases c2 : x0_1 > 0
      · rw [if_pos c2] at H
        have c2b0 : decide (0 < x0_1) = true := decide_eq_true c2
        clear c2
        have H' := Aside0.mk H
        clear H
        go_wp2
        go_roundg k1
        case measure => have := HK1.out; omega
        case rel => exact ⟨(IntKind.u64.wrap (Int.tdiv x0_1 2)), (wrap64 (x3_1 + 1)), (by first | rfl | (simp; done) | (simp [*]; done) | (refine qa_int ?_; omega) | (refine qa_int ?_; simp <;> omega)), (by first | rfl | (simp; done) | (simp [*]; done) | (refine qa_int ?_; omega) | (refine qa_int ?_; simp <;> omega)), H', ⟨by have := HK1.out; omega⟩, by repeat (first | exact Drawn0.refl _ | apply Drawn0.step)⟩
      · rw [if_neg c2] at H
        have c2b0 : decide (0 < x0_1) = false := decide_eq_false c2
        clear c2
        obtain rfl := Option.some.inj H
        simp only [Option.some.injEq, Prod.mk.injEq] at H
        obtain ⟨rfl⟩ := H
        go_wp2
        go_ret
        exact ⟨by first | rfl | (simp; done) | (simp [*]; done) | (refine qa_int ?_; omega) | (refine qa_int ?_; simp <;> omega), by repeat (first | exact Drawn0.refl _ | apply Drawn0.step)⟩

end Go.Proofs.Ytghgaehcejechaa.QCoinGets
