-- Lines by a program of this session, for this claim.
import Derived.Test.YtnfdgpmdakciiaaQMessageReadsx0
import Derived.Test.YtnfdgpmdakciiaaQMessageReadsx2
namespace Go.Proofs.Ytnfdgpmdakciiaa.QMessageReads
open Go.RowKit Go.Proofs.YtnfdgpmdakciiaaW.PrintWords Go.Proofs.YtnfdgpmdakciiaaW.PrintLast Go.Proofs.YtnfdgpmdakciiaaW.PrintMore
attribute [local go_sem] max2_int min2_int max_two min_two max_three min_three max_four min_four   -- for this text's walks alone
set_option linter.unusedVariables false
set_option linter.unusedSimpArgs false

/-! ### coin_Size: function 36 -/
def coin_Size.f (k : Nat) (a0 : Int) : Option (Int) := (bits_Len64.f k a0).bind fun t115 => (some (mn (mx (wrap64 (Int.tdiv (wrap64 (t115 + 6)) 7)) 1) 9))
theorem coin_Size.mono : ∀ a0 k, LeO (coin_Size.f k a0) (coin_Size.f (k + 1) a0) := by
  intro a0 k
  unfold coin_Size.f
  repeat' first
      | (with_reducible exact bits_Len64.mono _ _)
      | (with_reducible exact LeO.refl _)
      | (with_reducible exact LeO.none _)
      | (with_reducible refine LeO.ite ?_ ?_)
      | (with_reducible refine LeO.bind ?_ (fun _ => ?_))
      | exact bits_Len64.mono _ _
      | exact LeO.none _
      | refine LeO.ite ?_ ?_
      | refine LeO.bind ?_ (fun _ => ?_)
set_option maxHeartbeats 8000000 in
set_option maxRecDepth 100000 in
theorem coin_Size.calls (k : Nat) (a0 : Int) (r : Int) (w : World) (h : coin_Size.f k a0 = some r) :
    Calls Try.prog 36 #[.int .u64 a0] w fun e w' => e = .returned (.int .i64 r) ∧ Below w.heap.size w w' := by
  have HB := Aside0.mk (Below.refl w.heap.size w)
  have H : ((bits_Len64.f k a0).bind fun t115 => (some (mn (mx (wrap64 (Int.tdiv (wrap64 (t115 + 6)) 7)) 1) 9))) = some r := h
  clear h
  replace H := Option.bind_eq_some_iff.mp H
  obtain ⟨t115, A20, H⟩ := H
  replace H : (some (mn (mx (wrap64 (Int.tdiv (wrap64 (t115 + 6)) 7)) 1) 9)) = some r := H
  have A2 := Aside0.mk A20
  clear A20
  obtain ⟨ji3, hji3⟩ : ∃ j_ : Int, (mx (wrap64 (Int.tdiv (wrap64 (t115 + 6)) 7)) 1) = j_ := ⟨_, rfl⟩
  replace H : (some (mn (ji3) 9)) = some r := by first | (rw [hji3] at H; exact H) | (simp only [hji3] at H ⊢; exact H)
  (try rw [hji3] at A2)
  (try (have hji3l : 1 ≤ ji3 := by (rw [← hji3]; unfold mx; (repeat' split) <;> omega)))
  (try (have hji3m : 0 ≤ ji3 := by omega))
  have hji3_ : (if (wrap64 (Int.tdiv (wrap64 (t115 + 6)) 7)) < 1 then 1 else (wrap64 (Int.tdiv (wrap64 (t115 + 6)) 7))) = ji3 := hji3
  obtain ⟨ji4, hji4⟩ : ∃ j_ : Int, (mn (ji3) 9) = j_ := ⟨_, rfl⟩
  replace H : (some ji4) = some r := by first | (rw [hji4] at H; exact H) | (simp only [hji4] at H ⊢; exact H)
  (try rw [hji4] at A2)
  have hji4_ : (if 9 < (ji3) then 9 else (ji3)) = ji4 := hji4
  obtain rfl := Option.some.inj H
  simp only [Option.some.injEq, Prod.mk.injEq] at H
  obtain ⟨rfl⟩ := H
  go_enter Try.func36, Try.ntmps36
  go_wp2_with (first | ((with_reducible refine gate_callee (f := 43) rfl ?_); refine goesL_ (some 5) rfl rfl Try.func43 (by kernel_rfl) rfl #[.int .u64 a0] rfl (by (try simp only [List.map_toArray, List.map_cons, List.map_nil]); first | done | rfl | (simp only [List.length_drop, List.length_take]; rfl) | (simp; done) | (refine qa_arr ?_; (repeat' (first | rfl | refine qa_cons ?_ ?_ | refine qa_int ?_ | refine qa_agg ?_ | refine qa_arr ?_ | omega)); done)) ?_; (with_reducible refine (bits_Len64.calls k a0 t115 _ A2.out).mono ?_); rintro e w' ⟨rfl, ⟨nd, rfl⟩⟩; refine ⟨_, rfl, ?_⟩) | ((with_reducible refine gate_callee (f := 43) rfl ?_); refine goesL_ _ rfl rfl Try.func43 (by kernel_rfl) rfl #[.int .u64 a0] rfl (by (try simp only [List.map_toArray, List.map_cons, List.map_nil]); first | done | rfl | (simp only [List.length_drop, List.length_take]; rfl) | (simp; done) | (refine qa_arr ?_; (repeat' (first | rfl | refine qa_cons ?_ ?_ | refine qa_int ?_ | refine qa_agg ?_ | refine qa_arr ?_ | omega)); done)) ?_; (with_reducible refine (bits_Len64.calls k a0 t115 _ A2.out).mono ?_); rintro e w' ⟨rfl, ⟨nd, rfl⟩⟩; refine ⟨_, rfl, ?_⟩))
  go_ret
  exact ⟨by first | rfl | (simp [errW_none, errW_some] <;> rfl) | (simp only [← hji3, ← hji4]; first | rfl | (simp [errW_none, errW_some] <;> rfl)) | (simp [*, errW_none, errW_some] <;> rfl), by repeat (first | (with_reducible first | exact HB.out | apply below_alloc | apply pw_below_drewN | apply below_drew1) | exact HB.out)⟩

/-! ### coin_Put: function 20 -/
mutual
def coin_Put.j0 : Nat → List Int → Int → Int → Option (List Int)
  | 0, _, _, _ => none
  | k + 1, x0, x1, x5 => coin_Put.l0 k x0 x1 (wrap64 (x5 - 2))
def coin_Put.l0 : Nat → List Int → Int → Int → Option (List Int)
  | 0, _, _, _ => none
  | k + 1, x0, x1, x7 => if x7 ≥ 0 then (if 0 ≤ (wrap64 (8 * x7)) then (if x0.length < 140737488355328 then (coin_Put.l0 k (x0 ++ [(shr .u64 x1 (wrap64 (8 * x7))) % 256]) x1 (wrap64 (x7 - 1))) else (none)) else (none)) else (some x0)
end
def coin_Put.f (k : Nat) (l0 : List Int) (a1 : Int) : Option (List Int) := (coin_Size.f k a1).bind fun t116 => (if t116 = 9 then (if l0.length < 140737488355328 then (coin_Put.j0 k (l0 ++ [255]) a1 t116) else (none)) else (if 0 ≤ (wrap64 (9 - t116)) then (if 0 ≤ (wrap64 (8 * (wrap64 (t116 - 1)))) then (if l0.length < 140737488355328 then (coin_Put.j0 k (l0 ++ [Go.bits .or .u8 (shl .u8 255 (wrap64 (9 - t116))) ((shr .u64 a1 (wrap64 (8 * (wrap64 (t116 - 1))))) % 256)]) a1 t116) else (none)) else (none)) else (none)))
theorem coin_Put.mono_l : ∀ k, (∀ y0 y1 y2, LeO (coin_Put.j0 k y0 y1 y2) (coin_Put.j0 (k + 1) y0 y1 y2)) ∧ (∀ y0 y1 y2, LeO (coin_Put.l0 k y0 y1 y2) (coin_Put.l0 (k + 1) y0 y1 y2))
  | 0 => ⟨fun _ _ _ r h => by simp [coin_Put.j0] at h, fun _ _ _ r h => by simp [coin_Put.l0] at h⟩
  | k + 1 => by
    obtain ⟨ih0, ih1⟩ := coin_Put.mono_l k
    refine ⟨?_, ?_⟩
    · intro y0 y1 y2
      unfold coin_Put.j0
      repeat' first
      | (with_reducible exact ih0 _ _ _)
      | (with_reducible exact ih1 _ _ _)
      | (with_reducible exact coin_Size.mono _ _)
      | (with_reducible exact LeO.refl _)
      | (with_reducible exact LeO.none _)
      | (with_reducible refine LeO.ite ?_ ?_)
      | (with_reducible refine LeO.bind ?_ (fun _ => ?_))
      | exact ih0 _ _ _
      | exact ih1 _ _ _
      | exact coin_Size.mono _ _
      | exact LeO.none _
      | refine LeO.ite ?_ ?_
      | refine LeO.bind ?_ (fun _ => ?_)
    · intro y0 y1 y2
      unfold coin_Put.l0
      repeat' first
      | (with_reducible exact ih0 _ _ _)
      | (with_reducible exact ih1 _ _ _)
      | (with_reducible exact coin_Size.mono _ _)
      | (with_reducible exact LeO.refl _)
      | (with_reducible exact LeO.none _)
      | (with_reducible refine LeO.ite ?_ ?_)
      | (with_reducible refine LeO.bind ?_ (fun _ => ?_))
      | exact ih0 _ _ _
      | exact ih1 _ _ _
      | exact coin_Size.mono _ _
      | exact LeO.none _
      | refine LeO.ite ?_ ?_
      | refine LeO.bind ?_ (fun _ => ?_)
theorem coin_Put.mono : ∀ a0 a1 k, LeO (coin_Put.f k a0 a1) (coin_Put.f (k + 1) a0 a1) := by
  intro a0 a1 k
  obtain ⟨ih0, ih1⟩ := coin_Put.mono_l k
  unfold coin_Put.f
  repeat' first
      | (with_reducible exact ih0 _ _ _)
      | (with_reducible exact ih1 _ _ _)
      | (with_reducible exact coin_Size.mono _ _)
      | (with_reducible exact LeO.refl _)
      | (with_reducible exact LeO.none _)
      | (with_reducible refine LeO.ite ?_ ?_)
      | (with_reducible refine LeO.bind ?_ (fun _ => ?_))
      | exact ih0 _ _ _
      | exact ih1 _ _ _
      | exact coin_Size.mono _ _
      | exact LeO.none _
      | refine LeO.ite ?_ ?_
      | refine LeO.bind ?_ (fun _ => ?_)
set_option maxHeartbeats 8000000 in
set_option maxRecDepth 100000 in
theorem coin_Put.calls (k : Nat) (P0_ : Nat → Prop) (u9000_ : Value) (l0 : List Int) (a1 : Int) (r : List Int) (w0 w : World) (hB : Below w0.heap.size w0 w) (ho0 : Kd.R (Kd.int .u8) 5 w w0.heap.size P0_ u9000_ l0) (h : coin_Put.f k l0 a1 = some r) :
    Calls Try.prog 20 #[u9000_, .int .u64 a1] w fun e w' => ∃ v0_ : Value, e = .returned (v0_) ∧ Kd.R (Kd.int .u8) 5 w' w0.heap.size (fun k_ => (P0_ k_ ∨ w.heap.size ≤ k_)) v0_ r ∧ Below w0.heap.size w0 w' ∧ Kept w w' (fun k_ => P0_ k_) := by
  have HO0 := Aside0.mk (show Kd.R (Kd.int .u8) 5 w w0.heap.size (fun k_ => (P0_ k_ ∨ w.heap.size ≤ k_)) u9000_ l0 from Kd.R_mono ho0 (fun k_ hk => (.inl hk)))
  have HK := Aside0.mk (Kept.refl w (fun k_ => P0_ k_))
  have HW0 := Aside0.mk hB.size
  have HB := Aside0.mk hB
  clear hB
  have H : ((coin_Size.f k a1).bind fun t116 => (if t116 = 9 then (if l0.length < 140737488355328 then (coin_Put.j0 k (l0 ++ [255]) a1 t116) else (none)) else (if 0 ≤ (wrap64 (9 - t116)) then (if 0 ≤ (wrap64 (8 * (wrap64 (t116 - 1)))) then (if l0.length < 140737488355328 then (coin_Put.j0 k (l0 ++ [Go.bits .or .u8 (shl .u8 255 (wrap64 (9 - t116))) ((shr .u64 a1 (wrap64 (8 * (wrap64 (t116 - 1))))) % 256)]) a1 t116) else (none)) else (none)) else (none)))) = some r := h
  clear h
  replace H := Option.bind_eq_some_iff.mp H
  obtain ⟨t116, A30, H⟩ := H
  replace H : (if t116 = 9 then (if l0.length < 140737488355328 then (coin_Put.j0 k (l0 ++ [255]) a1 t116) else (none)) else (if 0 ≤ (wrap64 (9 - t116)) then (if 0 ≤ (wrap64 (8 * (wrap64 (t116 - 1)))) then (if l0.length < 140737488355328 then (coin_Put.j0 k (l0 ++ [Go.bits .or .u8 (shl .u8 255 (wrap64 (9 - t116))) ((shr .u64 a1 (wrap64 (8 * (wrap64 (t116 - 1))))) % 256)]) a1 t116) else (none)) else (none)) else (none))) = some r := H
  have A3 := Aside0.mk A30
  clear A30
  have HC4 := Aside0.mk H
  clear H
  go_enter Try.func20, Try.ntmps20
  go_upto_if 11 with (first | ((with_reducible refine gate_callee (f := 36) rfl ?_); refine goesL_ (some 9) rfl rfl Try.func36 (by kernel_rfl) rfl #[.int .u64 a1] rfl (by (try simp only [List.map_toArray, List.map_cons, List.map_nil]); first | done | rfl | (simp only [List.length_drop, List.length_take]; rfl) | (simp; done) | (refine qa_arr ?_; (repeat' (first | rfl | refine qa_cons ?_ ?_ | refine qa_int ?_ | refine qa_agg ?_ | refine qa_arr ?_ | omega)); done)) ?_; (with_reducible refine (coin_Size.calls k a1 t116 _ A3.out).mono ?_); rintro e w5 ⟨rfl, hb⟩; refine ⟨_, rfl, ?_⟩; have n0_ := Aside0.mk (Kd.R_below (by (with_reducible repeat (first | apply Kd.R_alloc | apply Kd.R_drewN | apply Kd.R_drew)); exact HO0.out) hb); have n1_ := Aside0.mk (Kept.below (S := (fun k_ => P0_ k_)) (by repeat (first | (with_reducible first | exact HK.out | apply Kept.alloc | apply Kept.drewN | apply Kept.drew) | exact HK.out)) hb); have n2_ := Aside0.mk (below_step (by repeat (first | (with_reducible first | exact HB.out | apply below_alloc | apply pw_below_drewN | apply below_drew1) | exact HB.out)) hb); clear HO0; clear HK; clear HB; have HO0 := n0_; have HK := n1_; have HB := n2_; clear n0_ n1_ n2_; (try clear hb); (try clear hb2); (try clear hk); (try clear hi)))
  (try simp only [Act.put, List.setIfInBounds_toArray, List.set_cons_zero, List.set_cons_succ])
  go_cut [0] (fun v0 wc => ∃ (kq : Nat) (x0_3 : List Int), Aside0 (coin_Put.j0 kq x0_3 a1 t116 = some r) ∧ Aside0 (kq ≤ k) ∧ Aside0 (Kd.R (Kd.int .u8) 5 wc w0.heap.size (fun k_ => (P0_ k_ ∨ w.heap.size ≤ k_)) v0 x0_3) ∧ Aside0 (Kept w wc (fun k_ => P0_ k_)) ∧ Aside0 (Below w0.heap.size w0 wc))
  case first =>
    have H := HC4.out
    clear HC4
    by_cases c6 : t116 = 9
    · rw [if_pos c6] at H
      have c6b0 : (t116 == 9) = true := beq_iff_eq.mpr c6
      have c6b1 : (t116 != 9) = false := bne_eq_false_iff_eq.mpr c6
      clear c6
      (first | rw [c6b0] | (simp only [i64_w, i32_w]; rw [c6b0]) | skip)
      by_cases c7 : l0.length < 140737488355328
      · rw [if_pos c7] at H
        have LMc7 := Aside0.mk c7
        clear c7
        obtain ⟨y117, hy117⟩ : ∃ y_ : List Int, y_ = (l0 ++ [255]) := ⟨_, rfl⟩
        replace H : (coin_Put.j0 k y117 a1 t116) = some r := by first | (rw [hy117]; with_reducible exact H) | (have H2_ := (Option.bind_some _ _).symm.trans H; rw [hy117]; with_reducible exact H2_) | (have H2_ := (Option.bind_some _ _).symm.trans H; with_reducible exact H2_) | with_reducible exact H | (rw [hy117]; exact H) | exact H
        have Ny117 := Aside0.mk hy117
        clear hy117
        have H' := Aside0.mk H
        clear H
        go_wp2_with (first | ((with_reducible refine gate_builtin (b := .append) (xs := #[.tmp 12, .tmp 13]) rfl ?_); at_builtin; refine Kd.R_append (Kd.int .u8) (w0 := w0) w0.heap.size rfl (.tmp 12) (.tmp 13) 30 5 (.int .u8 0) 1 rfl Try.underlying30 info5 rfl (by decide) (by omega) u9000_ l0 255 [.int .u8 255] (fun k_ => (P0_ k_ ∨ w.heap.size ≤ k_)) (fun _ => False) rfl rfl ?aP (fun _ hk => hk.elim) ?aF ?aO ?aB ?aS ?aL ?_; (case aP => exact rfl); (case aB => exact (by repeat (first | (with_reducible first | exact HB.out | apply below_alloc | apply pw_below_drewN | apply below_drew1) | exact HB.out))); (case aF => exact (fun k_ hk => (.inr (Nat.le_trans (by first | exact HK.out.1 | exact (show Kept w _ (fun k_ => P0_ k_) from by repeat (first | (with_reducible first | exact HK.out | apply Kept.alloc | apply Kept.drewN | apply Kept.drew) | exact HK.out)).1) hk)))); (case aO => exact (by (with_reducible repeat (first | apply Kd.R_alloc | apply Kd.R_drewN | apply Kd.R_drew)); exact HO0.out)); (case aS => exact (below_size (by repeat (first | (with_reducible first | exact HB.out | apply below_alloc | apply pw_below_drewN | apply below_drew1) | exact HB.out)))); (case aL => have := LMc7.out; omega); intro v118 w8 ho hb hg hat; rw [← Ny117.out] at ho; have n0_ := Aside0.mk (hb); have n1_ := Aside0.mk (Kept.of_grown (S := (fun k_ => P0_ k_)) hg (by repeat (first | (with_reducible first | exact HK.out | apply Kept.alloc | apply Kept.drewN | apply Kept.drew) | exact HK.out)) (fun k_ e_ => (HO0.out.1 k_ e_))); have n2_ := Aside0.mk (ho); clear HB; clear HK; clear HO0; have HB := n0_; have HK := n1_; have HO119 := n2_; clear n0_ n1_ n2_; clear ho hb hg hat))
        go_meet
        case rel => exact ⟨_, (y117), H', ⟨by first | omega | exact Nat.le_refl _⟩, ⟨by (with_reducible repeat (first | apply Kd.R_alloc | apply Kd.R_drewN | apply Kd.R_drew)); exact HO119.out⟩, ⟨by repeat (first | (with_reducible first | exact HK.out | apply Kept.alloc | apply Kept.drewN | apply Kept.drew) | exact HK.out)⟩, ⟨by repeat (first | (with_reducible first | exact HB.out | apply below_alloc | apply pw_below_drewN | apply below_drew1) | exact HB.out)⟩⟩
      · rw [if_neg c7] at H
        exact absurd H (by simp)
    · rw [if_neg c6] at H
      have c6b0 : (t116 == 9) = false := beq_eq_false_iff_ne.mpr c6
      have c6b1 : (t116 != 9) = true := bne_iff_ne.mpr c6
      (first | rw [c6b0] | (simp only [i64_w, i32_w]; rw [c6b0]) | skip)
      obtain ⟨ji9, hji9⟩ : ∃ j_ : Int, (wrap64 (9 - t116)) = j_ := ⟨_, rfl⟩
      replace H : (if 0 ≤ (ji9) then (if 0 ≤ (wrap64 (8 * (wrap64 (t116 - 1)))) then (if l0.length < 140737488355328 then (coin_Put.j0 k (l0 ++ [Go.bits .or .u8 (shl .u8 255 (ji9)) ((shr .u64 a1 (wrap64 (8 * (wrap64 (t116 - 1))))) % 256)]) a1 t116) else (none)) else (none)) else (none)) = some r := by first | (rw [hji9] at H; exact H) | (simp only [hji9] at H ⊢; exact H)
      have hji9w : (IntKind.i64.wrap (9 - t116)) = ji9 := (i64_w _).trans hji9
      by_cases c10 : 0 ≤ (ji9)
      · rw [if_pos c10] at H
        have c10b0 := eq_true c10
        have c10b1 : decide (0 ≤ (ji9)) = true := decide_eq_true c10
        clear c10
        obtain ⟨ji11, hji11⟩ : ∃ j_ : Int, (shl .u8 255 (ji9)) = j_ := ⟨_, rfl⟩
        replace H : (if 0 ≤ (wrap64 (8 * (wrap64 (t116 - 1)))) then (if l0.length < 140737488355328 then (coin_Put.j0 k (l0 ++ [Go.bits .or .u8 (ji11) ((shr .u64 a1 (wrap64 (8 * (wrap64 (t116 - 1))))) % 256)]) a1 t116) else (none)) else (none)) = some r := by first | (rw [hji11] at H; exact H) | (simp only [hji11] at H ⊢; exact H)
        have hji11_ : (IntKind.u8.wrap (255 * 2 ^ min (ji9).toNat 8)) = ji11 := hji11
        have hji11z : (ji9) ≤ 8 → (IntKind.u8.wrap (255 * 2 ^ (ji9).toNat)) = ji11 := shl_small hji11
        (try (have hji11y : 0 ≤ (ji9) := by omega))
        obtain ⟨ji12, hji12⟩ : ∃ j_ : Int, (wrap64 (8 * (wrap64 (t116 - 1)))) = j_ := ⟨_, rfl⟩
        replace H : (if 0 ≤ (ji12) then (if l0.length < 140737488355328 then (coin_Put.j0 k (l0 ++ [Go.bits .or .u8 (ji11) ((shr .u64 a1 (ji12)) % 256)]) a1 t116) else (none)) else (none)) = some r := by first | (rw [hji12] at H; exact H) | (simp only [hji12] at H ⊢; exact H)
        have hji12w : (IntKind.i64.wrap (8 * (wrap64 (t116 - 1)))) = ji12 := (i64_w _).trans hji12
        by_cases c13 : 0 ≤ (ji12)
        · rw [if_pos c13] at H
          have c13b0 := eq_true c13
          have c13b1 : decide (0 ≤ (ji12)) = true := decide_eq_true c13
          clear c13
          obtain ⟨ji14, hji14⟩ : ∃ j_ : Int, (shr .u64 a1 (ji12)) = j_ := ⟨_, rfl⟩
          replace H : (if l0.length < 140737488355328 then (coin_Put.j0 k (l0 ++ [Go.bits .or .u8 (ji11) ((ji14) % 256)]) a1 t116) else (none)) = some r := by first | (rw [hji14] at H; exact H) | (simp only [hji14] at H ⊢; exact H)
          have hji14_ : (a1 / 2 ^ min (ji12).toNat 64) = ji14 := hji14
          have hji14z : (ji12) ≤ 64 → (a1 / 2 ^ (ji12).toNat) = ji14 := shr_small hji14
          (try (have hji14y : 0 ≤ (ji12) := by omega))
          by_cases c15 : l0.length < 140737488355328
          · rw [if_pos c15] at H
            have LMc15 := Aside0.mk c15
            clear c15
            obtain ⟨y120, hy120⟩ : ∃ y_ : List Int, y_ = (l0 ++ [Go.bits .or .u8 (ji11) ((ji14) % 256)]) := ⟨_, rfl⟩
            replace H : (coin_Put.j0 k y120 a1 t116) = some r := by first | (rw [hy120]; with_reducible exact H) | (have H2_ := (Option.bind_some _ _).symm.trans H; rw [hy120]; with_reducible exact H2_) | (have H2_ := (Option.bind_some _ _).symm.trans H; with_reducible exact H2_) | with_reducible exact H | (rw [hy120]; exact H) | exact H
            have Ny120 := Aside0.mk hy120
            clear hy120
            have H' := Aside0.mk H
            clear H
            go_wp2_with (first | ((with_reducible refine gate_builtin (b := .append) (xs := #[.tmp 18, .tmp 27]) rfl ?_); at_builtin; refine Kd.R_append (Kd.int .u8) (w0 := w0) w0.heap.size rfl (.tmp 18) (.tmp 27) 30 5 (.int .u8 0) 1 rfl Try.underlying30 info5 rfl (by decide) (by omega) u9000_ l0 (Go.bits .or .u8 (ji11) ((ji14) % 256)) [.int .u8 (Go.bits .or .u8 (ji11) ((ji14) % 256))] (fun k_ => (P0_ k_ ∨ w.heap.size ≤ k_)) (fun _ => False) rfl rfl ?aP (fun _ hk => hk.elim) ?aF ?aO ?aB ?aS ?aL ?_; (case aP => exact rfl); (case aB => exact (by repeat (first | (with_reducible first | exact HB.out | apply below_alloc | apply pw_below_drewN | apply below_drew1) | exact HB.out))); (case aF => exact (fun k_ hk => (.inr (Nat.le_trans (by first | exact HK.out.1 | exact (show Kept w _ (fun k_ => P0_ k_) from by repeat (first | (with_reducible first | exact HK.out | apply Kept.alloc | apply Kept.drewN | apply Kept.drew) | exact HK.out)).1) hk)))); (case aO => exact (by (with_reducible repeat (first | apply Kd.R_alloc | apply Kd.R_drewN | apply Kd.R_drew)); exact HO0.out)); (case aS => exact (below_size (by repeat (first | (with_reducible first | exact HB.out | apply below_alloc | apply pw_below_drewN | apply below_drew1) | exact HB.out)))); (case aL => have := LMc15.out; omega); intro v121 w16 ho hb hg hat; rw [← Ny120.out] at ho; have n0_ := Aside0.mk (hb); have n1_ := Aside0.mk (Kept.of_grown (S := (fun k_ => P0_ k_)) hg (by repeat (first | (with_reducible first | exact HK.out | apply Kept.alloc | apply Kept.drewN | apply Kept.drew) | exact HK.out)) (fun k_ e_ => (HO0.out.1 k_ e_))); have n2_ := Aside0.mk (ho); clear HB; clear HK; clear HO0; have HB := n0_; have HK := n1_; have HO122 := n2_; clear n0_ n1_ n2_; clear ho hb hg hat))
            (try simp only [← hji9, ← hji12] at H' ⊢)
            go_meet
            case rel => exact ⟨_, (y120), H', ⟨by first | omega | exact Nat.le_refl _⟩, ⟨by (with_reducible repeat (first | apply Kd.R_alloc | apply Kd.R_drewN | apply Kd.R_drew)); exact HO122.out⟩, ⟨by repeat (first | (with_reducible first | exact HK.out | apply Kept.alloc | apply Kept.drewN | apply Kept.drew) | exact HK.out)⟩, ⟨by repeat (first | (with_reducible first | exact HB.out | apply below_alloc | apply pw_below_drewN | apply below_drew1) | exact HB.out)⟩⟩
          · rw [if_neg c15] at H
            exact absurd H (by simp)
        · rw [if_neg c13] at H
          exact absurd H (by simp)
      · rw [if_neg c10] at H
        exact absurd H (by simp)
  case rest =>
    clear HC4
    try clear c1
    try clear c2
    try clear p2
    try clear c3
    try clear c6
    try clear c6b0
    try clear c6b1
    try clear p6
    try clear c7
    try clear c10
    try clear c10b0
    try clear c10b1
    try clear c13
    try clear c13b0
    try clear c13b1
    try clear c15
    obtain ⟨kq, x0_3, HA, HJ3, HO_0, HK, HB⟩ := hcut
    cases kq with
    | zero => exact absurd HA.out (by simp [coin_Put.j0])
    | succ kj3 =>
      have H := HA.out
      clear HA
      simp only [coin_Put.j0] at H
      have H' := Aside0.mk H
      clear H
      go_wp2
      go_loopg [0, 7] kj3 (fun kq v0 v7 w' => ∃ (x0_2 : List Int) (x7_2 : Int), v7 = .int .i64 x7_2 ∧ Aside0 (coin_Put.l0 kq x0_2 a1 x7_2 = some r) ∧ Aside0 (kq ≤ kj3) ∧ Aside0 (Kd.R (Kd.int .u8) 5 w' w0.heap.size (fun k_ => (P0_ k_ ∨ w.heap.size ≤ k_)) v0 x0_2) ∧ Aside0 (Kept w w' (fun k_ => P0_ k_)) ∧ Aside0 (Below w0.heap.size w0 w'))
      case atStart => exact ⟨(x0_3), (wrap64 (t116 - 2)), (by first | rfl | (simp; done) | (simp [*]; done) | (refine qa_int ?_; omega) | (refine qa_int ?_; simp <;> omega)), H', ⟨Nat.le_refl _⟩, ⟨by (with_reducible repeat (first | apply Kd.R_alloc | apply Kd.R_drewN | apply Kd.R_drew)); exact HO_0.out⟩, ⟨by repeat (first | (with_reducible first | exact HK.out | apply Kept.alloc | apply Kept.drewN | apply Kept.drew) | exact HK.out)⟩, ⟨by repeat (first | (with_reducible first | exact HB.out | apply below_alloc | apply pw_below_drewN | apply below_drew1) | exact HB.out)⟩⟩
      case round =>
        clear H'
        try clear c1
        try clear c2
        try clear p2
        try clear c3
        try clear c6
        try clear c6b0
        try clear c6b1
        try clear p6
        try clear c7
        try clear c10
        try clear c10b0
        try clear c10b1
        try clear c13
        try clear c13b0
        try clear c13b1
        try clear c15
        try clear p2
        try clear p6
        obtain ⟨x0_2, x7_2, rfl, HA, HK2, HO_0, HK, HB⟩ := hrel
        cases gk with
        | zero => exact absurd HA.out (by simp [coin_Put.l0])
        | succ k2 =>
          have H := HA.out
          clear HA
          simp only [coin_Put.l0] at H
          by_cases c17 : x7_2 ≥ 0
          · rw [if_pos c17] at H
            have c17b0 : decide (0 ≤ x7_2) = true := decide_eq_true c17
            clear c17
            obtain ⟨ji18, hji18⟩ : ∃ j_ : Int, (wrap64 (8 * x7_2)) = j_ := ⟨_, rfl⟩
            replace H : (if 0 ≤ (ji18) then (if x0_2.length < 140737488355328 then (coin_Put.l0 k2 (x0_2 ++ [(shr .u64 a1 (ji18)) % 256]) a1 (wrap64 (x7_2 - 1))) else (none)) else (none)) = some r := by first | (rw [hji18] at H; exact H) | (simp only [hji18] at H ⊢; exact H)
            have hji18w : (IntKind.i64.wrap (8 * x7_2)) = ji18 := (i64_w _).trans hji18
            by_cases c19 : 0 ≤ (ji18)
            · rw [if_pos c19] at H
              have c19b0 := eq_true c19
              have c19b1 : decide (0 ≤ (ji18)) = true := decide_eq_true c19
              clear c19
              obtain ⟨ji20, hji20⟩ : ∃ j_ : Int, (shr .u64 a1 (ji18)) = j_ := ⟨_, rfl⟩
              replace H : (if x0_2.length < 140737488355328 then (coin_Put.l0 k2 (x0_2 ++ [(ji20) % 256]) a1 (wrap64 (x7_2 - 1))) else (none)) = some r := by first | (rw [hji20] at H; exact H) | (simp only [hji20] at H ⊢; exact H)
              have hji20_ : (a1 / 2 ^ min (ji18).toNat 64) = ji20 := hji20
              have hji20z : (ji18) ≤ 64 → (a1 / 2 ^ (ji18).toNat) = ji20 := shr_small hji20
              (try (have hji20y : 0 ≤ (ji18) := by omega))
              by_cases c21 : x0_2.length < 140737488355328
              · rw [if_pos c21] at H
                have LMc21 := Aside0.mk c21
                clear c21
                obtain ⟨y123, hy123⟩ : ∃ y_ : List Int, y_ = (x0_2 ++ [(ji20) % 256]) := ⟨_, rfl⟩
                replace H : (coin_Put.l0 k2 y123 a1 (wrap64 (x7_2 - 1))) = some r := by first | (rw [hy123]; with_reducible exact H) | (have H2_ := (Option.bind_some _ _).symm.trans H; rw [hy123]; with_reducible exact H2_) | (have H2_ := (Option.bind_some _ _).symm.trans H; with_reducible exact H2_) | with_reducible exact H | (rw [hy123]; exact H) | exact H
                have Ny123 := Aside0.mk hy123
                clear hy123
                have H' := Aside0.mk H
                clear H
                go_wp2_with (first | ((with_reducible refine gate_builtin (b := .append) (xs := #[.tmp 35, .tmp 41]) rfl ?_); at_builtin; refine Kd.R_append (Kd.int .u8) (w0 := w0) w0.heap.size rfl (.tmp 35) (.tmp 41) 30 5 (.int .u8 0) 1 rfl Try.underlying30 info5 rfl (by decide) (by omega) u0 x0_2 ((ji20) % 256) [.int .u8 ((ji20) % 256)] (fun k_ => (P0_ k_ ∨ w.heap.size ≤ k_)) (fun _ => False) rfl rfl ?aP (fun _ hk => hk.elim) ?aF ?aO ?aB ?aS ?aL ?_; (case aP => exact rfl); (case aB => exact (by repeat (first | (with_reducible first | exact HB.out | apply below_alloc | apply pw_below_drewN | apply below_drew1) | exact HB.out))); (case aF => exact (fun k_ hk => (.inr (Nat.le_trans (by first | exact HK.out.1 | exact (show Kept w _ (fun k_ => P0_ k_) from by repeat (first | (with_reducible first | exact HK.out | apply Kept.alloc | apply Kept.drewN | apply Kept.drew) | exact HK.out)).1) hk)))); (case aO => exact (by (with_reducible repeat (first | apply Kd.R_alloc | apply Kd.R_drewN | apply Kd.R_drew)); exact HO_0.out)); (case aS => exact (below_size (by repeat (first | (with_reducible first | exact HB.out | apply below_alloc | apply pw_below_drewN | apply below_drew1) | exact HB.out)))); (case aL => have := LMc21.out; omega); intro v124 w22 ho hb hg hat; rw [← Ny123.out] at ho; have n0_ := Aside0.mk (hb); have n1_ := Aside0.mk (Kept.of_grown (S := (fun k_ => P0_ k_)) hg (by repeat (first | (with_reducible first | exact HK.out | apply Kept.alloc | apply Kept.drewN | apply Kept.drew) | exact HK.out)) (fun k_ e_ => (HO_0.out.1 k_ e_))); have n2_ := Aside0.mk (ho); clear HB; clear HK; clear HO_0; have HB := n0_; have HK := n1_; have HO125 := n2_; clear n0_ n1_ n2_; clear ho hb hg hat))
                go_roundg k2
                case measure => have := HJ3.out; have := HK2.out; omega
                case rel => exact ⟨(y123), (wrap64 (x7_2 - 1)), (by first | rfl | (simp; done) | (simp [*]; done) | (refine qa_int ?_; omega) | (refine qa_int ?_; simp <;> omega)), H', ⟨by have := HJ3.out; have := HK2.out; omega⟩, ⟨by (with_reducible repeat (first | apply Kd.R_alloc | apply Kd.R_drewN | apply Kd.R_drew)); exact HO125.out⟩, ⟨by repeat (first | (with_reducible first | exact HK.out | apply Kept.alloc | apply Kept.drewN | apply Kept.drew) | exact HK.out)⟩, ⟨by repeat (first | (with_reducible first | exact HB.out | apply below_alloc | apply pw_below_drewN | apply below_drew1) | exact HB.out)⟩⟩
              · rw [if_neg c21] at H
                exact absurd H (by simp)
            · rw [if_neg c19] at H
              exact absurd H (by simp)
          · rw [if_neg c17] at H
            have c17b0 : decide (0 ≤ x7_2) = false := decide_eq_false c17
            clear c17
            obtain rfl := Option.some.inj H
            simp only [Option.some.injEq, Prod.mk.injEq] at H
            obtain ⟨rfl⟩ := H
            go_wp2
            go_ret
            exact ⟨_, by first | rfl | (simp [errW_none, errW_some] <;> rfl) | (simp [*, errW_none, errW_some] <;> rfl), by (with_reducible repeat (first | apply Kd.R_alloc | apply Kd.R_drewN | apply Kd.R_drew)); exact HO_0.out, by repeat (first | (with_reducible first | exact HB.out | apply below_alloc | apply pw_below_drewN | apply below_drew1) | exact HB.out), by repeat (first | (with_reducible first | exact HK.out | apply Kept.alloc | apply Kept.drewN | apply Kept.drew) | exact HK.out)⟩

-- NOT PRINTED: function 37 (message_body_1)

/-! ### message_body: function 21 -/
def message_body.place (k : Nat) (p : List Int) (a3 a4 a5 : Int) : Option (List Int) := (coin_Put.f k p (IntKind.u64.wrap a3)).bind fun q => (coin_Put.f k q (IntKind.u64.wrap a4)).bind fun r => coin_Put.f k r (IntKind.u64.wrap a5)
def message_body.f (k : Nat) (a0_0 a0_1 a0_2 a0_3 a0_4 a0_5 a0_6 : Int) : Option (List Int) :=
  if a0_0 = 1 then coin_Put.f k [] a0_1
  else if a0_0 = 2 then (coin_Put.f k [] (IntKind.u64.wrap a0_2)).bind fun p => coin_Put.f k p (IntKind.u64.wrap a0_6)
  else if a0_0 = 3 then (coin_Put.f k [] (IntKind.u64.wrap a0_2)).bind fun p => (message_body.place k p a0_3 a0_4 a0_5).bind fun q => coin_Put.f k q (IntKind.u64.wrap a0_6)
  else (message_body.place k [] a0_3 a0_4 a0_5).bind fun q => coin_Put.f k q a0_1
theorem message_body.place_mono (p : List Int) (a3 a4 a5 : Int) (k : Nat) : LeO (message_body.place k p a3 a4 a5) (message_body.place (k + 1) p a3 a4 a5) := by
  unfold message_body.place
  exact LeO.bind (coin_Put.mono _ _ _) (fun _ => LeO.bind (coin_Put.mono _ _ _) (fun _ => coin_Put.mono _ _ _))
theorem message_body.mono (a0_0 a0_1 a0_2 a0_3 a0_4 a0_5 a0_6 : Int) (k : Nat) : LeO (message_body.f k a0_0 a0_1 a0_2 a0_3 a0_4 a0_5 a0_6) (message_body.f (k + 1) a0_0 a0_1 a0_2 a0_3 a0_4 a0_5 a0_6) := by
  unfold message_body.f
  exact LeO.ite (coin_Put.mono _ _ _) (LeO.ite (LeO.bind (coin_Put.mono _ _ _) (fun _ => coin_Put.mono _ _ _)) (LeO.ite (LeO.bind (coin_Put.mono _ _ _) (fun _ => LeO.bind (message_body.place_mono _ _ _ _ _) (fun _ => coin_Put.mono _ _ _))) (LeO.bind (message_body.place_mono _ _ _ _ _) (fun _ => coin_Put.mono _ _ _))))
theorem message_body.put (k : Nat) (v : Value) (p : List Int) (n : Int) (r : List Int) (B W : World) (hB : Below B.heap.size B W) (ho : Kd.R (Kd.int .u8) 5 W B.heap.size (fun _ => True) v p) (h : coin_Put.f k p n = some r) :
    Calls Try.prog 20 #[v, .int .u64 n] W fun e w' => ∃ v' : Value, e = .returned v' ∧ Aside0 (Kd.R (Kd.int .u8) 5 w' B.heap.size (fun _ => True) v' r) ∧ Aside0 (Below B.heap.size B w') := by
  refine (coin_Put.calls k (fun _ => True) v p n r B W hB ho h).mono ?_
  rintro e w' ⟨v', rfl, ho', hb, _⟩
  exact ⟨v', rfl, ⟨Kd.R_mono ho' (fun _ _ => trivial)⟩, ⟨hb⟩⟩
set_option maxHeartbeats 8000000 in
theorem message_body.place_any (k : Nat) (g : Nat) (v : Value) (p : List Int) (a0 a1 a2 a3 a4 a5 a6 : Int) (r : List Int) (B W : World) (hh : B.heap[g]? = some (.cells #[.int .u8 a0, .int .u64 a1, .int .i64 a2, .int .u32 a3, .int .u8 a4, .int .u16 a5, .int .u16 a6] 28 (0, 0))) (hB : Below B.heap.size B W) (ho : Kd.R (Kd.int .u8) 5 W B.heap.size (fun _ => True) v p) (h : message_body.place k p a3 a4 a5 = some r) :
    Calls Try.prog 37 #[v, .pointer (some ⟨g, 0, none⟩)] W fun e w' => ∃ v' : Value, e = .returned v' ∧ Aside0 (Kd.R (Kd.int .u8) 5 w' B.heap.size (fun _ => True) v' r) ∧ Aside0 (Below B.heap.size B w') := by
  unfold message_body.place at h
  obtain ⟨q, h1, h⟩ := Option.bind_eq_some_iff.mp h
  obtain ⟨s, h2, h3⟩ := Option.bind_eq_some_iff.mp h
  have H1 := Aside0.mk h1
  have H2 := Aside0.mk h2
  have H3 := Aside0.mk h3
  have HH := Aside0.mk hh
  have HB := Aside0.mk hB
  have HO := Aside0.mk ho
  have HW := Aside0.mk (blk_below hh hB)
  clear h1 h2 h3 h hh hB ho
  have hc3 : W.cell? ⟨g, 3, none⟩ = some (.int .u32 a3) := (blk_cell HW.out 3).trans rfl
  have hc4 : W.cell? ⟨g, 4, none⟩ = some (.int .u8 a4) := (blk_cell HW.out 4).trans rfl
  have hc5 : W.cell? ⟨g, 5, none⟩ = some (.int .u16 a5) := (blk_cell HW.out 5).trans rfl
  go_enter Try.func37, Try.ntmps37
  go_wp2_with (fail)
  go_region_held3 (fun w' => w'.cell? ⟨g, 3, none⟩ = some (.int .u32 a3) ∧ w'.cell? ⟨g, 4, none⟩ = some (.int .u8 a4) ∧ w'.cell? ⟨g, 5, none⟩ = some (.int .u16 a5)) (go_keep)
    ((first | ((with_reducible refine (message_body.put k v p (IntKind.u64.wrap a3) q B _ ?sa1 ?sb1 H1.out).mono ?_); (case sa1 => first | exact HB.out | exact below_drew1 HB.out); (case sb1 => first | exact HO.out | exact Kd.R_drew HO.out); rintro e w2 ⟨v2, rfl, HO2, HB2⟩; have HW2 := Aside0.mk (blk_below HH.out HB2.out); have hc3_2 : w2.cell? ⟨g, 3, none⟩ = some (.int .u32 a3) := (blk_cell HW2.out 3).trans rfl; have hc4_2 : w2.cell? ⟨g, 4, none⟩ = some (.int .u8 a4) := (blk_cell HW2.out 4).trans rfl; have hc5_2 : w2.cell? ⟨g, 5, none⟩ = some (.int .u16 a5) := (blk_cell HW2.out 5).trans rfl) | ((with_reducible refine (message_body.put k v2 q (IntKind.u64.wrap a4) s B _ ?sa2 ?sb2 H2.out).mono ?_); (case sa2 => first | exact HB2.out | exact below_drew1 HB2.out); (case sb2 => first | exact HO2.out | exact Kd.R_drew HO2.out); rintro e w3 ⟨v3, rfl, HO3, HB3⟩; have HW3 := Aside0.mk (blk_below HH.out HB3.out); have hc3_3 : w3.cell? ⟨g, 3, none⟩ = some (.int .u32 a3) := (blk_cell HW3.out 3).trans rfl; have hc4_3 : w3.cell? ⟨g, 4, none⟩ = some (.int .u8 a4) := (blk_cell HW3.out 4).trans rfl; have hc5_3 : w3.cell? ⟨g, 5, none⟩ = some (.int .u16 a5) := (blk_cell HW3.out 5).trans rfl) | ((with_reducible refine (message_body.put k v3 s (IntKind.u64.wrap a5) r B _ ?sa3 ?sb3 H3.out).mono ?_); (case sa3 => first | exact HB3.out | exact below_drew1 HB3.out); (case sb3 => first | exact HO3.out | exact Kd.R_drew HO3.out); rintro e w4 ⟨v4, rfl, HO4, HB4⟩; have HW4 := Aside0.mk (blk_below HH.out HB4.out); have hc3_4 : w4.cell? ⟨g, 3, none⟩ = some (.int .u32 a3) := (blk_cell HW4.out 3).trans rfl; have hc4_4 : w4.cell? ⟨g, 4, none⟩ = some (.int .u8 a4) := (blk_cell HW4.out 4).trans rfl; have hc5_4 : w4.cell? ⟨g, 5, none⟩ = some (.int .u16 a5) := (blk_cell HW4.out 5).trans rfl)))
  all_goals
    go_wp2_with (fail)
    go_ret
    exact ⟨v4, rfl, HO4, HB4⟩
set_option maxHeartbeats 8000000 in
theorem message_body.calls (k : Nat) (a0_0 : Int) (a0_1 : Int) (a0_2 : Int) (a0_3 : Int) (a0_4 : Int) (a0_5 : Int) (a0_6 : Int) (r : List Int) (w : World) (h : message_body.f k a0_0 a0_1 a0_2 a0_3 a0_4 a0_5 a0_6 = some r) :
    Calls Try.prog 21 #[.agg #[.int .u8 a0_0, .int .u64 a0_1, .int .i64 a0_2, .int .u32 a0_3, .int .u8 a0_4, .int .u16 a0_5, .int .u16 a0_6]] w fun e w' => ∃ v0_ : Value, e = .returned (v0_) ∧ Kd.R (Kd.int .u8) 5 w' w.heap.size (fun _ => True) v0_ r ∧ Below w.heap.size w w' := by
  have hmf : ∀ (fn : Fn) (first cap : Array Value) (w : World), (Instr.makeFunc fn first cap).run Try.prog w = .ok (.func fn first cap) w := fun _ _ _ _ => rfl
  obtain ⟨B, hBe⟩ : ∃ B : World, B = w.alloc (.cells #[.int .u8 a0_0, .int .u64 a0_1, .int .i64 a0_2, .int .u32 a0_3, .int .u8 a0_4, .int .u16 a0_5, .int .u16 a0_6] 28 (0, 0)) := ⟨_, rfl⟩
  have hh : B.heap[w.heap.size]? = some (.cells #[.int .u8 a0_0, .int .u64 a0_1, .int .i64 a0_2, .int .u32 a0_3, .int .u8 a0_4, .int .u16 a0_5, .int .u16 a0_6] 28 (0, 0)) := by rw [hBe]; simpa using heap_alloc_new w _
  have hs : w.heap.size ≤ B.heap.size := by rw [hBe]; simp
  have hwb : Below w.heap.size w B := by rw [hBe]; exact below_alloc (Below.refl _ _) _
  have HE := Aside0.mk hBe
  have HH := Aside0.mk hh
  have HS := Aside0.mk hs
  have HWB := Aside0.mk hwb
  have FIN := Aside0.mk (show ∀ (w' : World) (v' : Value), Kd.R (Kd.int .u8) 5 w' B.heap.size (fun _ => True) v' r → Below B.heap.size B w' → (Kd.R (Kd.int .u8) 5 w' w.heap.size (fun _ => True) v' r ∧ Below w.heap.size w w') from fun w' v' h1 h2 => ⟨Kd.R_lower h1 hs, below_step hwb h2⟩)
  have HN := Aside0.mk (Kd.R_nil (Kd.int .u8) 5 B B.heap.size (fun _ => True))
  have HR := Aside0.mk (Below.refl B.heap.size B)
  clear hBe hh hs hwb
  have hc1 : B.cell? ⟨w.heap.size, 1, none⟩ = some (.int .u64 a0_1) := (blk_cell HH.out 1).trans rfl
  have hc0 : B.cell? ⟨w.heap.size, 0, none⟩ = some (.int .u8 a0_0) := (blk_cell HH.out 0).trans rfl
  have hc2 : B.cell? ⟨w.heap.size, 2, none⟩ = some (.int .i64 a0_2) := (blk_cell HH.out 2).trans rfl
  have hc6 : B.cell? ⟨w.heap.size, 6, none⟩ = some (.int .u16 a0_6) := (blk_cell HH.out 6).trans rfl
  unfold message_body.f at h
  by_cases c1 : a0_0 = 1
  · rw [if_pos c1] at h
    have e1 : (a0_0 == 1) = true := beq_iff_eq.mpr c1
    clear c1
    have HP := Aside0.mk h
    clear h
    go_enter Try.func21, Try.ntmps21
    go_wp2_with (fail)
    refine (message_body.put k _ [] a0_1 r B _ ?_ ?_ HP.out).mono ?_
    · rw [← HE.out]; exact HR.out
    · rw [← HE.out]; exact HN.out
    rintro e w2 ⟨v2, rfl, HO2, HB2⟩
    go_wp2_with (fail)
    go_ret
    exact ⟨v2, rfl, FIN.out _ _ HO2.out HB2.out⟩
  · rw [if_neg c1] at h
    have e1 : (a0_0 == 1) = false := beq_eq_false_iff_ne.mpr c1
    clear c1
    by_cases c2 : a0_0 = 2
    · rw [if_pos c2] at h
      have e2 : (a0_0 == 2) = true := beq_iff_eq.mpr c2
      clear c2
      obtain ⟨p, h1, h2⟩ := Option.bind_eq_some_iff.mp h
      have H1 := Aside0.mk h1
      have H2 := Aside0.mk h2
      clear h h1 h2
      go_enter Try.func21, Try.ntmps21
      go_wp2_with (fail)
      rw [← HE.out]
      go_region_held3 (fun w' => w'.cell? ⟨w.heap.size, 2, none⟩ = some (.int .i64 a0_2) ∧ w'.cell? ⟨w.heap.size, 6, none⟩ = some (.int .u16 a0_6)) (go_keep)
        ((first | ((with_reducible refine (message_body.put k _ [] (IntKind.u64.wrap a0_2) p B _ ?sa1 ?sb1 H1.out).mono ?_); (case sa1 => first | exact HR.out | exact below_drew1 HR.out); (case sb1 => first | exact HN.out | exact Kd.R_drew HN.out); rintro e w2 ⟨v2, rfl, HO2, HB2⟩; have HW2 := Aside0.mk (blk_below HH.out HB2.out); have hc2_2 : w2.cell? ⟨w.heap.size, 2, none⟩ = some (.int .i64 a0_2) := (blk_cell HW2.out 2).trans rfl; have hc6_2 : w2.cell? ⟨w.heap.size, 6, none⟩ = some (.int .u16 a0_6) := (blk_cell HW2.out 6).trans rfl) | ((with_reducible refine (message_body.put k v2 p (IntKind.u64.wrap a0_6) r B _ ?sa2 ?sb2 H2.out).mono ?_); (case sa2 => first | exact HB2.out | exact below_drew1 HB2.out); (case sb2 => first | exact HO2.out | exact Kd.R_drew HO2.out); rintro e w3 ⟨v3, rfl, HO3, HB3⟩; have HW3 := Aside0.mk (blk_below HH.out HB3.out); have hc2_3 : w3.cell? ⟨w.heap.size, 2, none⟩ = some (.int .i64 a0_2) := (blk_cell HW3.out 2).trans rfl; have hc6_3 : w3.cell? ⟨w.heap.size, 6, none⟩ = some (.int .u16 a0_6) := (blk_cell HW3.out 6).trans rfl)))
      all_goals
        go_wp2_with (fail)
        go_ret
        exact ⟨v3, rfl, FIN.out _ _ HO3.out HB3.out⟩
    · rw [if_neg c2] at h
      have e2 : (a0_0 == 2) = false := beq_eq_false_iff_ne.mpr c2
      clear c2
      by_cases c3 : a0_0 = 3
      · rw [if_pos c3] at h
        have e3 : (a0_0 == 3) = true := beq_iff_eq.mpr c3
        clear c3
        obtain ⟨p, h1, h⟩ := Option.bind_eq_some_iff.mp h
        obtain ⟨q, h2, h3⟩ := Option.bind_eq_some_iff.mp h
        have H1 := Aside0.mk h1
        have H2 := Aside0.mk h2
        have H3 := Aside0.mk h3
        clear h h1 h2 h3
        go_enter Try.func21, Try.ntmps21
        go_wp2_with (fail)
        rw [← HE.out]
        go_region_held3 (fun w' => w'.cell? ⟨w.heap.size, 2, none⟩ = some (.int .i64 a0_2) ∧ w'.cell? ⟨w.heap.size, 6, none⟩ = some (.int .u16 a0_6)) (go_keep)
          ((first | ((with_reducible refine (message_body.put k _ [] (IntKind.u64.wrap a0_2) p B _ ?sa3 ?sb3 H1.out).mono ?_); (case sa3 => first | exact HR.out | exact below_drew1 HR.out); (case sb3 => first | exact HN.out | exact Kd.R_drew HN.out); rintro e w2 ⟨v2, rfl, HO2, HB2⟩; have HW2 := Aside0.mk (blk_below HH.out HB2.out); have hc2_2 : w2.cell? ⟨w.heap.size, 2, none⟩ = some (.int .i64 a0_2) := (blk_cell HW2.out 2).trans rfl; have hc6_2 : w2.cell? ⟨w.heap.size, 6, none⟩ = some (.int .u16 a0_6) := (blk_cell HW2.out 6).trans rfl) | ((with_reducible refine (message_body.place_any k w.heap.size v2 p a0_0 a0_1 a0_2 a0_3 a0_4 a0_5 a0_6 q B _ HH.out ?sa4 ?sb4 H2.out).mono ?_); (case sa4 => first | exact HB2.out | exact below_drew1 HB2.out); (case sb4 => first | exact HO2.out | exact Kd.R_drew HO2.out); rintro e w3 ⟨v3, rfl, HO3, HB3⟩; have HW3 := Aside0.mk (blk_below HH.out HB3.out); have hc2_3 : w3.cell? ⟨w.heap.size, 2, none⟩ = some (.int .i64 a0_2) := (blk_cell HW3.out 2).trans rfl; have hc6_3 : w3.cell? ⟨w.heap.size, 6, none⟩ = some (.int .u16 a0_6) := (blk_cell HW3.out 6).trans rfl) | ((with_reducible refine (message_body.put k v3 q (IntKind.u64.wrap a0_6) r B _ ?sa5 ?sb5 H3.out).mono ?_); (case sa5 => first | exact HB3.out | exact below_drew1 HB3.out); (case sb5 => first | exact HO3.out | exact Kd.R_drew HO3.out); rintro e w4 ⟨v4, rfl, HO4, HB4⟩; have HW4 := Aside0.mk (blk_below HH.out HB4.out); have hc2_4 : w4.cell? ⟨w.heap.size, 2, none⟩ = some (.int .i64 a0_2) := (blk_cell HW4.out 2).trans rfl; have hc6_4 : w4.cell? ⟨w.heap.size, 6, none⟩ = some (.int .u16 a0_6) := (blk_cell HW4.out 6).trans rfl)))
        all_goals
          go_wp2_with (fail)
          go_ret
          exact ⟨v4, rfl, FIN.out _ _ HO4.out HB4.out⟩
      · rw [if_neg c3] at h
        have e3 : (a0_0 == 3) = false := beq_eq_false_iff_ne.mpr c3
        clear c3
        obtain ⟨q, h2, h3⟩ := Option.bind_eq_some_iff.mp h
        have H2 := Aside0.mk h2
        have H3 := Aside0.mk h3
        clear h h2 h3
        go_enter Try.func21, Try.ntmps21
        go_wp2_with (fail)
        rw [← HE.out]
        go_region_held3 (fun w' => w'.cell? ⟨w.heap.size, 1, none⟩ = some (.int .u64 a0_1)) (go_keep)
          ((first | ((with_reducible refine (message_body.place_any k w.heap.size _ [] a0_0 a0_1 a0_2 a0_3 a0_4 a0_5 a0_6 q B _ HH.out ?sa6 ?sb6 H2.out).mono ?_); (case sa6 => first | exact HR.out | exact below_drew1 HR.out); (case sb6 => first | exact HN.out | exact Kd.R_drew HN.out); rintro e w3 ⟨v3, rfl, HO3, HB3⟩; have HW3 := Aside0.mk (blk_below HH.out HB3.out); have hc1_3 : w3.cell? ⟨w.heap.size, 1, none⟩ = some (.int .u64 a0_1) := (blk_cell HW3.out 1).trans rfl) | ((with_reducible refine (message_body.put k v3 q a0_1 r B _ ?sa7 ?sb7 H3.out).mono ?_); (case sa7 => first | exact HB3.out | exact below_drew1 HB3.out); (case sb7 => first | exact HO3.out | exact Kd.R_drew HO3.out); rintro e w4 ⟨v4, rfl, HO4, HB4⟩; have HW4 := Aside0.mk (blk_below HH.out HB4.out); have hc1_4 : w4.cell? ⟨w.heap.size, 1, none⟩ = some (.int .u64 a0_1) := (blk_cell HW4.out 1).trans rfl)))
        all_goals
          go_wp2_with (fail)
          go_ret
          exact ⟨v4, rfl, FIN.out _ _ HO4.out HB4.out⟩

/-! ### tally_line: function 44 -/
def tally_line.l0 : Nat → Int → Int → Option (Int)
  | 0, _, _ => none
  | k + 1, x3, x6 => if x6 < 8 then (if (Go.bits .and .u32 x3 1) = 1 then (tally_line.l0 k (Go.bits .xor .u32 (x3 / 2) 2197175160) (wrap64 (x6 + 1))) else (tally_line.l0 k (x3 / 2) (wrap64 (x6 + 1)))) else (some x3)
def tally_line.f (k : Nat) (a0 : Int) : Option (Int) := tally_line.l0 k ((a0) % 4294967296) 0
theorem tally_line.mono_l : ∀ k, (∀ y0 y1, LeO (tally_line.l0 k y0 y1) (tally_line.l0 (k + 1) y0 y1))
  | 0 => fun _ _ r h => by simp [tally_line.l0] at h
  | k + 1 => by
    have ih0 := tally_line.mono_l k
    · intro y0 y1
      unfold tally_line.l0
      repeat' first
      | (with_reducible exact ih0 _ _)
      | (with_reducible exact LeO.refl _)
      | (with_reducible exact LeO.none _)
      | (with_reducible refine LeO.ite ?_ ?_)
      | (with_reducible refine LeO.bind ?_ (fun _ => ?_))
      | exact ih0 _ _
      | exact LeO.none _
      | refine LeO.ite ?_ ?_
      | refine LeO.bind ?_ (fun _ => ?_)
theorem tally_line.mono : ∀ a0 k, LeO (tally_line.f k a0) (tally_line.f (k + 1) a0) := by
  intro a0 k
  have ih0 := tally_line.mono_l k
  unfold tally_line.f
  repeat' first
      | (with_reducible exact ih0 _ _)
      | (with_reducible exact LeO.refl _)
      | (with_reducible exact LeO.none _)
      | (with_reducible refine LeO.ite ?_ ?_)
      | (with_reducible refine LeO.bind ?_ (fun _ => ?_))
      | exact ih0 _ _
      | exact LeO.none _
      | refine LeO.ite ?_ ?_
      | refine LeO.bind ?_ (fun _ => ?_)
set_option maxHeartbeats 8000000 in
set_option maxRecDepth 100000 in
theorem tally_line.calls (k : Nat) (a0 : Int) (r : Int) (w : World) (h : tally_line.f k a0 = some r) :
    Calls Try.prog 44 #[.int .u8 a0] w fun e w' => e = .returned (.int .u32 r) ∧ Drawn0 w w' := by
  have H : (tally_line.l0 k ((a0) % 4294967296) 0) = some r := h
  clear h
  have H' := Aside0.mk H
  clear H
  go_enter Try.func44, Try.ntmps44
  go_wp2
  go_loopg [3, 6] k (fun kq v3 v6 w' => ∃ (x3_1 : Int) (x6_1 : Int), v3 = .int .u32 x3_1 ∧ v6 = .int .i64 x6_1 ∧ Aside0 (tally_line.l0 kq x3_1 x6_1 = some r) ∧ Aside0 (kq ≤ k) ∧ Drawn0 w w')
  case atStart => exact ⟨((a0) % 4294967296), (0), (by first | rfl | (simp; done) | (simp [*]; done) | (refine qa_int ?_; omega) | (refine qa_int ?_; simp <;> omega)), (by first | rfl | (simp; done) | (simp [*]; done) | (refine qa_int ?_; omega) | (refine qa_int ?_; simp <;> omega)), H', ⟨Nat.le_refl _⟩, by repeat (first | exact Drawn0.refl _ | apply Drawn0.step)⟩
  case round =>
    clear H'
    obtain ⟨x3_1, x6_1, rfl, rfl, HA, HK1, ⟨m1, rfl⟩⟩ := hrel
    cases gk with
    | zero => exact absurd HA.out (by simp [tally_line.l0])
    | succ k1 =>
      have H := HA.out
      clear HA
      simp only [tally_line.l0] at H
      by_cases c2 : x6_1 < 8
      · rw [if_pos c2] at H
        have c2b0 : decide (x6_1 < 8) = true := decide_eq_true c2
        clear c2
        by_cases c3 : (Go.bits .and .u32 x3_1 1) = 1
        · rw [if_pos c3] at H
          have c3b0 : ((Go.bits .and .u32 x3_1 1) == 1) = true := beq_iff_eq.mpr c3
          have c3b1 : ((Go.bits .and .u32 x3_1 1) != 1) = false := bne_eq_false_iff_eq.mpr c3
          clear c3
          have H' := Aside0.mk H
          clear H
          go_wp2
          go_roundg k1
          case measure => have := HK1.out; omega
          case rel => exact ⟨(Go.bits .xor .u32 (x3_1 / 2) 2197175160), (wrap64 (x6_1 + 1)), (by first | rfl | (simp; done) | (simp [*]; done) | (refine qa_int ?_; omega) | (refine qa_int ?_; simp <;> omega)), (by first | rfl | (simp; done) | (simp [*]; done) | (refine qa_int ?_; omega) | (refine qa_int ?_; simp <;> omega)), H', ⟨by have := HK1.out; omega⟩, by repeat (first | exact Drawn0.refl _ | apply Drawn0.step)⟩
        · rw [if_neg c3] at H
          have c3b0 : ((Go.bits .and .u32 x3_1 1) == 1) = false := beq_eq_false_iff_ne.mpr c3
          have c3b1 : ((Go.bits .and .u32 x3_1 1) != 1) = true := bne_iff_ne.mpr c3
          have H' := Aside0.mk H
          clear H
          go_wp2
          go_roundg k1
          case measure => have := HK1.out; omega
          case rel => exact ⟨(x3_1 / 2), (wrap64 (x6_1 + 1)), (by first | rfl | (simp; done) | (simp [*]; done) | (refine qa_int ?_; omega) | (refine qa_int ?_; simp <;> omega)), (by first | rfl | (simp; done) | (simp [*]; done) | (refine qa_int ?_; omega) | (refine qa_int ?_; simp <;> omega)), H', ⟨by have := HK1.out; omega⟩, by repeat (first | exact Drawn0.refl _ | apply Drawn0.step)⟩
      · rw [if_neg c2] at H
        have c2b0 : decide (x6_1 < 8) = false := decide_eq_false c2
        clear c2
        obtain rfl := Option.some.inj H
        simp only [Option.some.injEq, Prod.mk.injEq] at H
        obtain ⟨rfl⟩ := H
        go_wp2
        go_ret
        exact ⟨by first | rfl | (simp; done) | (simp [*]; done) | (refine qa_int ?_; omega) | (refine qa_int ?_; simp <;> omega), by repeat (first | exact Drawn0.refl _ | apply Drawn0.step)⟩

/-! ### tally_More: function 38 -/
def tally_More.l0 : Nat → Int → List Int → Int → Int → Option (Int)
  | 0, _, _, _, _ => none
  | k + 1, x5, x10, x11, x12 => if x12 < x11 then (if 0 ≤ x12 then (if x12 < (x10.length : Int) then ((tally_line.f k (Go.bits .xor .u8 ((x5) % 256) (rd x10 x12))).bind fun t127 => (tally_More.l0 k (Go.bits .xor .u32 (x5 / 256) t127) x10 x11 (wrap64 (x12 + 1)))) else (none)) else (none)) else (some (Go.bits .xor .u32 IntKind.u32.max x5))
def tally_More.f (k : Nat) (a0 : Int) (l1 : List Int) : Option (Int) := tally_More.l0 k (Go.bits .xor .u32 IntKind.u32.max a0) l1 (l1.length : Int) 0
theorem tally_More.mono_l : ∀ k, (∀ y0 y1 y2 y3, LeO (tally_More.l0 k y0 y1 y2 y3) (tally_More.l0 (k + 1) y0 y1 y2 y3))
  | 0 => fun _ _ _ _ r h => by simp [tally_More.l0] at h
  | k + 1 => by
    have ih0 := tally_More.mono_l k
    · intro y0 y1 y2 y3
      unfold tally_More.l0
      repeat' first
      | (with_reducible exact ih0 _ _ _ _)
      | (with_reducible exact tally_line.mono _ _)
      | (with_reducible exact LeO.refl _)
      | (with_reducible exact LeO.none _)
      | (with_reducible refine LeO.ite ?_ ?_)
      | (with_reducible refine LeO.bind ?_ (fun _ => ?_))
      | exact ih0 _ _ _ _
      | exact tally_line.mono _ _
      | exact LeO.none _
      | refine LeO.ite ?_ ?_
      | refine LeO.bind ?_ (fun _ => ?_)
theorem tally_More.mono : ∀ a0 a1 k, LeO (tally_More.f k a0 a1) (tally_More.f (k + 1) a0 a1) := by
  intro a0 a1 k
  have ih0 := tally_More.mono_l k
  unfold tally_More.f
  repeat' first
      | (with_reducible exact ih0 _ _ _ _)
      | (with_reducible exact tally_line.mono _ _)
      | (with_reducible exact LeO.refl _)
      | (with_reducible exact LeO.none _)
      | (with_reducible refine LeO.ite ?_ ?_)
      | (with_reducible refine LeO.bind ?_ (fun _ => ?_))
      | exact ih0 _ _ _ _
      | exact tally_line.mono _ _
      | exact LeO.none _
      | refine LeO.ite ?_ ?_
      | refine LeO.bind ?_ (fun _ => ?_)
set_option maxHeartbeats 8000000 in
set_option maxRecDepth 100000 in
theorem tally_More.calls (k : Nat) (a0 : Int) (A1 : Option Addr) (c1 : Nat) (l1 : List Int) (r : Int) (w : World) (hr1 : Kd.C (Kd.int .u8) w A1 l1.length l1) (hc1 : l1.length ≤ c1) (h : tally_More.f k a0 l1 = some r) :
    Calls Try.prog 38 #[.int .u32 a0, .slice A1 l1.length c1] w fun e w' => e = .returned (.int .u32 r) ∧ Drawn0 w w' := by
  have HR1 := Aside0.mk hr1
  have HC1 := Aside0.mk hc1
  clear hr1 hc1
  have H : (tally_More.l0 k (Go.bits .xor .u32 IntKind.u32.max a0) l1 (l1.length : Int) 0) = some r := h
  clear h
  have H' := Aside0.mk H
  clear H
  go_enter Try.func38, Try.ntmps38
  go_wp2
  go_loopg [5, 12] k (fun kq v5 v12 w' => ∃ (x5_1 : Int) (x12_1 : Int), v5 = .int .u32 x5_1 ∧ v12 = .int .i64 x12_1 ∧ Aside0 (tally_More.l0 kq x5_1 l1 (l1.length : Int) x12_1 = some r) ∧ Aside0 (kq ≤ k) ∧ Drawn0 w w')
  case atStart => exact ⟨(Go.bits .xor .u32 IntKind.u32.max a0), (0), (by first | rfl | (simp; done) | (simp [*]; done) | (refine qa_int ?_; omega) | (refine qa_int ?_; simp <;> omega)), (by first | rfl | (simp; done) | (simp [*]; done) | (refine qa_int ?_; omega) | (refine qa_int ?_; simp <;> omega)), H', ⟨Nat.le_refl _⟩, by repeat (first | exact Drawn0.refl _ | apply Drawn0.step)⟩
  case round =>
    clear H'
    try clear c1
    try clear p2
    obtain ⟨x5_1, x12_1, rfl, rfl, HA, HK1, ⟨m1, rfl⟩⟩ := hrel
    cases gk with
    | zero => exact absurd HA.out (by simp [tally_More.l0])
    | succ k1 =>
      have H := HA.out
      clear HA
      simp only [tally_More.l0] at H
      by_cases c3 : x12_1 < (l1.length : Int)
      · rw [if_pos c3] at H
        have c3b0 : decide (x12_1 < (l1.length : Int)) = true := decide_eq_true c3
        clear c3
        by_cases c4 : 0 ≤ x12_1
        · rw [if_pos c4] at H
          have c4b0 : decide (0 ≤ x12_1) = true := decide_eq_true c4
          clear c4
          by_cases c5 : x12_1 < (l1.length : Int)
          · rw [if_pos c5] at H
            have c5b0 : decide (x12_1 < (l1.length : Int)) = true := decide_eq_true c5
            clear c5
            replace H := Option.bind_eq_some_iff.mp H
            obtain ⟨t127, A60, H⟩ := H
            replace H : (tally_More.l0 k1 (Go.bits .xor .u32 (x5_1 / 256) t127) l1 (l1.length : Int) (wrap64 (x12_1 + 1))) = some r := H
            have A6 := Aside0.mk A60
            clear A60
            have H' := Aside0.mk H
            clear H
            have p126 : 0 ≤ (x12_1 : Int) := of_decide_eq_true (by first | (with_reducible assumption) | assumption)
            have q126 : x12_1 < (l1.length : Int) := of_decide_eq_true (by first | (with_reducible assumption) | assumption)
            obtain ⟨ad126, e126, hx126_0⟩ := Kd.at_int HR1.out x12_1 p126 q126
            cases e126
            replace p126 := eq_true p126
            replace q126 := eq_true q126
            go_wp2_with (first | ((with_reducible refine gate_callee (f := 44) rfl ?_); refine goesL_ (some 22) rfl rfl Try.func44 (by kernel_rfl) rfl #[.int .u8 (Go.bits .xor .u8 ((x5_1) % 256) (rd l1 x12_1))] rfl (by (try simp only [List.map_toArray, List.map_cons, List.map_nil]); first | done | rfl | (simp only [List.length_drop, List.length_take]; rfl) | (simp; done) | (refine qa_arr ?_; (repeat' (first | rfl | refine qa_cons ?_ ?_ | refine qa_int ?_ | refine qa_agg ?_ | refine qa_arr ?_ | omega)); done)) ?_; (with_reducible refine (tally_line.calls k1 (Go.bits .xor .u8 ((x5_1) % 256) (rd l1 x12_1)) t127 _ A6.out).mono ?_); rintro e w' ⟨rfl, ⟨nd, rfl⟩⟩; refine ⟨_, rfl, ?_⟩) | ((with_reducible refine gate_callee (f := 44) rfl ?_); refine goesL_ _ rfl rfl Try.func44 (by kernel_rfl) rfl #[.int .u8 (Go.bits .xor .u8 ((x5_1) % 256) (rd l1 x12_1))] rfl (by (try simp only [List.map_toArray, List.map_cons, List.map_nil]); first | done | rfl | (simp only [List.length_drop, List.length_take]; rfl) | (simp; done) | (refine qa_arr ?_; (repeat' (first | rfl | refine qa_cons ?_ ?_ | refine qa_int ?_ | refine qa_agg ?_ | refine qa_arr ?_ | omega)); done)) ?_; (with_reducible refine (tally_line.calls k1 (Go.bits .xor .u8 ((x5_1) % 256) (rd l1 x12_1)) t127 _ A6.out).mono ?_); rintro e w' ⟨rfl, ⟨nd, rfl⟩⟩; refine ⟨_, rfl, ?_⟩))
            go_roundg k1
            case measure => have := HK1.out; omega
            case rel => exact ⟨(Go.bits .xor .u32 (x5_1 / 256) t127), (wrap64 (x12_1 + 1)), (by first | rfl | (simp; done) | (simp [*]; done) | (refine qa_int ?_; omega) | (refine qa_int ?_; simp <;> omega)), (by first | rfl | (simp; done) | (simp [*]; done) | (refine qa_int ?_; omega) | (refine qa_int ?_; simp <;> omega)), H', ⟨by have := HK1.out; omega⟩, by repeat (first | exact Drawn0.refl _ | apply Drawn0.step)⟩
          · rw [if_neg c5] at H
            exact absurd H (by simp)
        · rw [if_neg c4] at H
          exact absurd H (by simp)
      · rw [if_neg c3] at H
        have c3b0 : decide (x12_1 < (l1.length : Int)) = false := decide_eq_false c3
        clear c3
        obtain rfl := Option.some.inj H
        simp only [Option.some.injEq, Prod.mk.injEq] at H
        obtain ⟨rfl⟩ := H
        go_wp2
        go_ret
        exact ⟨by first | rfl | (simp; done) | (simp [*]; done) | (refine qa_int ?_; omega) | (refine qa_int ?_; simp <;> omega), by repeat (first | exact Drawn0.refl _ | apply Drawn0.step)⟩

/-! ### tally_Sum: function 22 -/
def tally_Sum.f (k : Nat) (l0 : List Int) : Option (Int) := (tally_More.f k 0 l0).bind fun t128 => (some t128)
theorem tally_Sum.mono : ∀ a0 k, LeO (tally_Sum.f k a0) (tally_Sum.f (k + 1) a0) := by
  intro a0 k
  unfold tally_Sum.f
  repeat' first
      | (with_reducible exact tally_More.mono _ _ _)
      | (with_reducible exact LeO.refl _)
      | (with_reducible exact LeO.none _)
      | (with_reducible refine LeO.ite ?_ ?_)
      | (with_reducible refine LeO.bind ?_ (fun _ => ?_))
      | exact tally_More.mono _ _ _
      | exact LeO.none _
      | refine LeO.ite ?_ ?_
      | refine LeO.bind ?_ (fun _ => ?_)
set_option maxHeartbeats 8000000 in
set_option maxRecDepth 100000 in
theorem tally_Sum.calls (k : Nat) (A0 : Option Addr) (c0 : Nat) (l0 : List Int) (r : Int) (w : World) (hr0 : Kd.C (Kd.int .u8) w A0 l0.length l0) (hc0 : l0.length ≤ c0) (h : tally_Sum.f k l0 = some r) :
    Calls Try.prog 22 #[.slice A0 l0.length c0] w fun e w' => e = .returned (.int .u32 r) ∧ Drawn0 w w' := by
  have HR0 := Aside0.mk hr0
  have HC0 := Aside0.mk hc0
  clear hr0 hc0
  have H : ((tally_More.f k 0 l0).bind fun t128 => (some t128)) = some r := h
  clear h
  replace H := Option.bind_eq_some_iff.mp H
  obtain ⟨t128, A20, H⟩ := H
  replace H : (some t128) = some r := H
  have A2 := Aside0.mk A20
  clear A20
  obtain rfl := Option.some.inj H
  simp only [Option.some.injEq, Prod.mk.injEq] at H
  obtain ⟨rfl⟩ := H
  go_enter Try.func22, Try.ntmps22
  go_wp2_with (first | ((with_reducible refine gate_callee (f := 38) rfl ?_); refine goesL_ (some 4) rfl rfl Try.func38 (by kernel_rfl) rfl #[.int .u32 0, .slice A0 l0.length c0] rfl (by (try simp only [List.map_toArray, List.map_cons, List.map_nil]); first | done | rfl | (simp only [List.length_drop, List.length_take]; rfl) | (simp; done) | (refine qa_arr ?_; (repeat' (first | rfl | refine qa_cons ?_ ?_ | refine qa_int ?_ | refine qa_agg ?_ | refine qa_arr ?_ | omega)); done)) ?_; (with_reducible refine (tally_More.calls k 0 _ _ l0 t128 _ ?side1 ?side2 A2.out).mono ?_); (case side1 => repeat (first | exact HR0.out | (with_reducible refine Kd.C_alloc ?_ _) | (with_reducible refine Kd.C_drewN ?_ _) | (with_reducible refine Kd.C_drew ?_))); (case side2 => exact HC0.out); rintro e w' ⟨rfl, ⟨nd, rfl⟩⟩; refine ⟨_, rfl, ?_⟩) | ((with_reducible refine gate_callee (f := 38) rfl ?_); refine goesL_ _ rfl rfl Try.func38 (by kernel_rfl) rfl #[.int .u32 0, .slice A0 l0.length c0] rfl (by (try simp only [List.map_toArray, List.map_cons, List.map_nil]); first | done | rfl | (simp only [List.length_drop, List.length_take]; rfl) | (simp; done) | (refine qa_arr ?_; (repeat' (first | rfl | refine qa_cons ?_ ?_ | refine qa_int ?_ | refine qa_agg ?_ | refine qa_arr ?_ | omega)); done)) ?_; (with_reducible refine (tally_More.calls k 0 _ _ l0 t128 _ ?side1b ?side2b A2.out).mono ?_); (case side1b => repeat (first | exact HR0.out | (with_reducible refine Kd.C_alloc ?_ _) | (with_reducible refine Kd.C_drewN ?_ _) | (with_reducible refine Kd.C_drew ?_))); (case side2b => exact HC0.out); rintro e w' ⟨rfl, ⟨nd, rfl⟩⟩; refine ⟨_, rfl, ?_⟩) | (go_at_call 38; (with_reducible refine (tally_More.calls k 0 _ _ l0 t128 _ ?side1c ?side2c A2.out).mono ?_); (case side1c => repeat (first | exact HR0.out | (with_reducible refine Kd.C_alloc ?_ _) | (with_reducible refine Kd.C_drewN ?_ _) | (with_reducible refine Kd.C_drew ?_))); (case side2c => exact HC0.out); rintro e w' ⟨rfl, ⟨nd, rfl⟩⟩))
  go_ret
  exact ⟨by first | rfl | (simp; done) | (simp [*]; done) | (refine qa_int ?_; omega) | (refine qa_int ?_; simp <;> omega), by repeat (first | exact Drawn0.refl _ | apply Drawn0.step)⟩

end Go.Proofs.Ytnfdgpmdakciiaa.QMessageReads
