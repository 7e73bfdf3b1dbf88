-- Lines by a program of this session, for this claim.
import Derived.Test.YtllcighpfikpkaaQFrameCutsx0
import Derived.Test.YtllcighpfikpkaaQFrameCutsx2
import Derived.Test.YtllcighpfikpkaaQFrameCutsx3
import Derived.Test.YtllcighpfikpkaaQFrameCutsx4
namespace Go.Proofs.Ytllcighpfikpkaa.QFrameCuts
open Go.RowKit Go.Proofs.YtllcighpfikpkaaW.PrintWords Go.Proofs.YtllcighpfikpkaaW.PrintLast Go.Proofs.YtllcighpfikpkaaW.PrintMore
attribute [local go_sem] max2_int min2_int max_two min_two max_three min_three max_four min_four   -- for this text's walks alone
set_option linter.unusedVariables false
set_option linter.unusedSimpArgs false

/-! ### milestonelaw06_FrameCuts: function 6 -/
mutual
def milestonelaw06_FrameCuts.j0 : Nat → List (List Int) → Int → Bool → Option (Bool)
  | 0, _, _, _ => none
  | k + 1, x0, x1, x20 => if x20 = true then ((milestonelaw06_awake.f k).bind fun t195 => (some t195)) else (milestonelaw06_FrameCuts.l0 k x0 x1 ([] : List Int) ([] : List Int) 0)
def milestonelaw06_FrameCuts.l0 : Nat → List (List Int) → Int → List Int → List Int → Int → Option (Bool)
  | 0, _, _, _, _, _ => none
  | k + 1, x0, x1, x5, x6, x7 => if x7 < (x0.length : Int) then (if 0 ≤ x7 then ((milestoneref05_Pack.f k ((x7) % 256) (rd_L1 x0 x7)).bind fun t197 => (if x5.length + t197.length < 140737488355328 then ((some (x5 ++ t197 : List Int)).bind fun y200 => (if x6.length < 17592186044416 then (milestonelaw06_FrameCuts.l0 k x0 x1 y200 (x6 ++ [(y200.length : Int)]) (wrap64 (x7 + 1))) else (none))) else (none))) else (none)) else (if (wrap64 ((x5.length : Int) + 1)) = 0 then (none) else (if 0 ≤ (Int.tmod (wrap64 (x1)) (wrap64 ((x5.length : Int) + 1))) then (if (Int.tmod (wrap64 (x1)) (wrap64 ((x5.length : Int) + 1))) ≤ (x5.length : Int) then ((frame_Scan.f k (x5.take ((Int.tmod (wrap64 (x1)) (wrap64 ((x5.length : Int) + 1))) : Int).toNat)).bind fun bt210 => (milestonelaw06_FrameCuts.l1 k x6 (Int.tmod (wrap64 (x1)) (wrap64 ((x5.length : Int) + 1))) bt210.1 bt210.2.1 bt210.2.2 0 0)) else (none)) else (none)))
def milestonelaw06_FrameCuts.l1 : Nat → List Int → Int → List (S52) → Int → Int → Int → Int → Option (Bool)
  | 0, _, _, _, _, _, _, _ => none
  | k + 1, x6, x8, x9, x10, x11, x12, x13 => if x12 < (x6.length : Int) then (if 0 ≤ x12 then (if (rd x6 x12) ≤ x8 then (milestonelaw06_FrameCuts.l1 k x6 x8 x9 x10 x11 (wrap64 (x12 + 1)) (rd x6 x12)) else (if (x9.length : Int) = x12 then (if x10 = x13 then (if ((x11 == 0) == (x13 == x8)) = true then (if x11 = 0 then (some true) else (some (x11 == 5))) else (some false)) else (some false)) else (some false))) else (none)) else (if (x9.length : Int) = x12 then (if x10 = x13 then (if ((x11 == 0) == (x13 == x8)) = true then (if x11 = 0 then (some true) else (some (x11 == 5))) else (some false)) else (some false)) else (some false))
end
def milestonelaw06_FrameCuts.f (k : Nat) (l0 : List (List Int)) (a1 : Int) : Option (Bool) := (milestonelaw06_awake.f k).bind fun t193 => (if t193 = true then ((milestonelaw06_short.f k l0).bind fun t194 => (milestonelaw06_FrameCuts.j0 k l0 a1 (!t194))) else (milestonelaw06_FrameCuts.j0 k l0 a1 true))
theorem milestonelaw06_FrameCuts.mono_l : ∀ k, (∀ y0 y1 y2, LeO (milestonelaw06_FrameCuts.j0 k y0 y1 y2) (milestonelaw06_FrameCuts.j0 (k + 1) y0 y1 y2)) ∧ (∀ y0 y1 y2 y3 y4, LeO (milestonelaw06_FrameCuts.l0 k y0 y1 y2 y3 y4) (milestonelaw06_FrameCuts.l0 (k + 1) y0 y1 y2 y3 y4)) ∧ (∀ y0 y1 y2 y3 y4 y5 y6, LeO (milestonelaw06_FrameCuts.l1 k y0 y1 y2 y3 y4 y5 y6) (milestonelaw06_FrameCuts.l1 (k + 1) y0 y1 y2 y3 y4 y5 y6))
  | 0 => ⟨fun _ _ _ r h => by simp [milestonelaw06_FrameCuts.j0] at h, fun _ _ _ _ _ r h => by simp [milestonelaw06_FrameCuts.l0] at h, fun _ _ _ _ _ _ _ r h => by simp [milestonelaw06_FrameCuts.l1] at h⟩
  | k + 1 => by
    obtain ⟨ih0, ih1, ih2⟩ := milestonelaw06_FrameCuts.mono_l k
    refine ⟨?_, ?_, ?_⟩
    · intro y0 y1 y2
      unfold milestonelaw06_FrameCuts.j0
      repeat' first
      | (with_reducible exact ih0 _ _ _)
      | (with_reducible exact ih1 _ _ _ _ _)
      | (with_reducible exact ih2 _ _ _ _ _ _ _)
      | (with_reducible exact frame_Scan.mono _ _)
      | (with_reducible exact milestonelaw06_awake.mono _)
      | (with_reducible exact milestonelaw06_short.mono _ _)
      | (with_reducible exact milestoneref05_Pack.mono _ _ _)
      | (with_reducible exact LeO.refl _)
      | (with_reducible exact LeO.none _)
      | (with_reducible refine LeO.ite ?_ ?_)
      | (with_reducible refine LeO.bind ?_ (fun _ => ?_))
      | exact ih0 _ _ _
      | exact ih1 _ _ _ _ _
      | exact ih2 _ _ _ _ _ _ _
      | exact frame_Scan.mono _ _
      | exact milestonelaw06_awake.mono _
      | exact milestonelaw06_short.mono _ _
      | exact milestoneref05_Pack.mono _ _ _
      | exact LeO.none _
      | refine LeO.ite ?_ ?_
      | refine LeO.bind ?_ (fun _ => ?_)
    · intro y0 y1 y2 y3 y4
      unfold milestonelaw06_FrameCuts.l0
      repeat' first
      | (with_reducible exact ih0 _ _ _)
      | (with_reducible exact ih1 _ _ _ _ _)
      | (with_reducible exact ih2 _ _ _ _ _ _ _)
      | (with_reducible exact frame_Scan.mono _ _)
      | (with_reducible exact milestonelaw06_awake.mono _)
      | (with_reducible exact milestonelaw06_short.mono _ _)
      | (with_reducible exact milestoneref05_Pack.mono _ _ _)
      | (with_reducible exact LeO.refl _)
      | (with_reducible exact LeO.none _)
      | (with_reducible refine LeO.ite ?_ ?_)
      | (with_reducible refine LeO.bind ?_ (fun _ => ?_))
      | exact ih0 _ _ _
      | exact ih1 _ _ _ _ _
      | exact ih2 _ _ _ _ _ _ _
      | exact frame_Scan.mono _ _
      | exact milestonelaw06_awake.mono _
      | exact milestonelaw06_short.mono _ _
      | exact milestoneref05_Pack.mono _ _ _
      | exact LeO.none _
      | refine LeO.ite ?_ ?_
      | refine LeO.bind ?_ (fun _ => ?_)
    · intro y0 y1 y2 y3 y4 y5 y6
      unfold milestonelaw06_FrameCuts.l1
      repeat' first
      | (with_reducible exact ih0 _ _ _)
      | (with_reducible exact ih1 _ _ _ _ _)
      | (with_reducible exact ih2 _ _ _ _ _ _ _)
      | (with_reducible exact frame_Scan.mono _ _)
      | (with_reducible exact milestonelaw06_awake.mono _)
      | (with_reducible exact milestonelaw06_short.mono _ _)
      | (with_reducible exact milestoneref05_Pack.mono _ _ _)
      | (with_reducible exact LeO.refl _)
      | (with_reducible exact LeO.none _)
      | (with_reducible refine LeO.ite ?_ ?_)
      | (with_reducible refine LeO.bind ?_ (fun _ => ?_))
      | exact ih0 _ _ _
      | exact ih1 _ _ _ _ _
      | exact ih2 _ _ _ _ _ _ _
      | exact frame_Scan.mono _ _
      | exact milestonelaw06_awake.mono _
      | exact milestonelaw06_short.mono _ _
      | exact milestoneref05_Pack.mono _ _ _
      | exact LeO.none _
      | refine LeO.ite ?_ ?_
      | refine LeO.bind ?_ (fun _ => ?_)
theorem milestonelaw06_FrameCuts.mono : ∀ a0 a1 k, LeO (milestonelaw06_FrameCuts.f k a0 a1) (milestonelaw06_FrameCuts.f (k + 1) a0 a1) := by
  intro a0 a1 k
  obtain ⟨ih0, ih1, ih2⟩ := milestonelaw06_FrameCuts.mono_l k
  unfold milestonelaw06_FrameCuts.f
  repeat' first
      | (with_reducible exact ih0 _ _ _)
      | (with_reducible exact ih1 _ _ _ _ _)
      | (with_reducible exact ih2 _ _ _ _ _ _ _)
      | (with_reducible exact frame_Scan.mono _ _)
      | (with_reducible exact milestonelaw06_awake.mono _)
      | (with_reducible exact milestonelaw06_short.mono _ _)
      | (with_reducible exact milestoneref05_Pack.mono _ _ _)
      | (with_reducible exact LeO.refl _)
      | (with_reducible exact LeO.none _)
      | (with_reducible refine LeO.ite ?_ ?_)
      | (with_reducible refine LeO.bind ?_ (fun _ => ?_))
      | exact ih0 _ _ _
      | exact ih1 _ _ _ _ _
      | exact ih2 _ _ _ _ _ _ _
      | exact frame_Scan.mono _ _
      | exact milestonelaw06_awake.mono _
      | exact milestonelaw06_short.mono _ _
      | exact milestoneref05_Pack.mono _ _ _
      | exact LeO.none _
      | refine LeO.ite ?_ ?_
      | refine LeO.bind ?_ (fun _ => ?_)
set_option maxHeartbeats 8000000 in
set_option maxRecDepth 100000 in
theorem milestonelaw06_FrameCuts.calls (k : Nat) (A0 : Option Addr) (c0 : Nat) (l0 : List (List Int)) (a1 : Int) (r : Bool) (w : World) (hr0 : Kd.C (Kd.slice 5 (Kd.int .u8)) w A0 l0.length l0) (hc0 : l0.length ≤ c0) (h : milestonelaw06_FrameCuts.f k l0 a1 = some r) (hT : r = true) :
    Calls Try.prog 6 #[.slice A0 l0.length c0, .int .u16 a1] w fun e w' => e = .returned (.bool r) ∧ Below w.heap.size w w' := by
  have HT := Aside0.mk hT
  clear hT
  have HR0 := Aside0.mk hr0
  have HC0 := Aside0.mk hc0
  clear hr0 hc0
  have HB := Aside0.mk (Below.refl w.heap.size w)
  have H : ((milestonelaw06_awake.f k).bind fun t193 => (if t193 = true then ((milestonelaw06_short.f k l0).bind fun t194 => (milestonelaw06_FrameCuts.j0 k l0 a1 (!t194))) else (milestonelaw06_FrameCuts.j0 k l0 a1 true))) = some r := h
  clear h
  have HC3 := Aside0.mk H
  clear H
  go_enter Try.func6, Try.ntmps6
  go_upto_region 1 with (fail)
  go_cut [20] (fun v20 wc => ∃ (kq : Nat) (x20_2 : Bool), v20 = .bool x20_2 ∧ Aside0 (milestonelaw06_FrameCuts.j0 kq l0 a1 x20_2 = some r) ∧ Aside0 (kq ≤ k) ∧ Aside0 (Below w.heap.size w wc))
  case first =>
    have H := HC3.out
    clear HC3
    replace H := Option.bind_eq_some_iff.mp H
    obtain ⟨t193, A40, H⟩ := H
    replace H : (if t193 = true then ((milestonelaw06_short.f k l0).bind fun t194 => (milestonelaw06_FrameCuts.j0 k l0 a1 (!t194))) else (milestonelaw06_FrameCuts.j0 k l0 a1 true)) = some r := H
    have A4 := Aside0.mk A40
    clear A40
    by_cases c5 : t193 = true
    · subst c5
      have H1 : ((milestonelaw06_short.f k l0).bind fun t194 => (milestonelaw06_FrameCuts.j0 k l0 a1 (!t194))) = some r := by rw [if_pos rfl] at H; exact H
      clear H
      have H := H1
      clear H1
      replace H := Option.bind_eq_some_iff.mp H
      obtain ⟨t194, A60, H⟩ := H
      replace H : (milestonelaw06_FrameCuts.j0 k l0 a1 (!t194)) = some r := H
      have A6 := Aside0.mk A60
      clear A60
      have H' := Aside0.mk H
      clear H
      go_wp2_with (first | ((with_reducible refine gate_callee (f := 15) rfl ?_); refine goesL_ (some 14) rfl rfl Try.func15 (by kernel_rfl) rfl #[] rfl (by (try simp only [List.map_toArray, List.map_cons, List.map_nil]); first | done | rfl | (simp only [List.length_drop, List.length_take]; rfl) | (simp; done) | (refine qa_arr ?_; (repeat' (first | rfl | refine qa_cons ?_ ?_ | refine qa_int ?_ | refine qa_agg ?_ | refine qa_arr ?_ | omega)); done)) ?_; (with_reducible refine (milestonelaw06_awake.calls k  true _ A4.out).mono ?_); rintro e w7 ⟨rfl, hb⟩; refine ⟨_, rfl, ?_⟩; have n0_ := Aside0.mk (below_step (by repeat (first | (with_reducible first | exact HB.out | apply below_alloc | apply pw_below_drewN | apply below_drew1) | exact HB.out)) hb); clear HB; have HB := n0_; clear n0_; (try clear hb); (try clear hb2); (try clear hk); (try clear hi)) | (go_at_call 16; (with_reducible refine (milestonelaw06_short.calls k _ _ l0 t194 _ ?side1 ?side2 A6.out).mono ?_); (case side1 => repeat (first | exact (Kd.C_below HR0.out HB.out) | (with_reducible refine Kd.C_alloc ?_ _) | (with_reducible refine Kd.C_drewN ?_ _) | (with_reducible refine Kd.C_drew ?_))); (case side2 => exact HC0.out); rintro e w' ⟨rfl, ⟨nd, rfl⟩⟩) | (go_at_call 16; (refine calls_of_args (args' := #[.slice A0 l0.length c0]) ?_ ?_; focus (first | rfl | (simp; done) | (refine qa_arr ?_; (repeat' (first | rfl | refine qa_cons ?_ ?_ | refine qa_int ?_ | refine qa_agg ?_ | refine qa_arr ?_ | omega)); done)); (with_reducible refine (milestonelaw06_short.calls k _ _ l0 t194 _ ?side1 ?side2 A6.out).mono ?_)); (case side1 => repeat (first | exact (Kd.C_below HR0.out HB.out) | (with_reducible refine Kd.C_alloc ?_ _) | (with_reducible refine Kd.C_drewN ?_ _) | (with_reducible refine Kd.C_drew ?_))); (case side2 => exact HC0.out); rintro e w' ⟨rfl, ⟨nd, rfl⟩⟩) | (go_at_call 16; (with_reducible refine (milestonelaw06_short.calls k _ _ l0 t194 _ ?side1b ?side2b A6.out).mono ?_); (case side1b => repeat (first | exact (Kd.C_below HR0.out HB.out) | (with_reducible refine Kd.C_alloc ?_ _) | (with_reducible refine Kd.C_drewN ?_ _) | (with_reducible refine Kd.C_drew ?_))); (case side2b => exact HC0.out); rintro e w' ⟨rfl, ⟨nd, rfl⟩⟩) | (go_at_call 16; (with_reducible refine (milestonelaw06_short.calls k _ _ l0 t194 _ ?side1c ?side2c A6.out).mono ?_); (case side1c => repeat (first | exact (Kd.C_below HR0.out HB.out) | (with_reducible refine Kd.C_alloc ?_ _) | (with_reducible refine Kd.C_drewN ?_ _) | (with_reducible refine Kd.C_drew ?_))); (case side2c => exact HC0.out); rintro e w' ⟨rfl, ⟨nd, rfl⟩⟩))
      go_meet
      case rel => exact ⟨_, (!t194), (by first | rfl | (simp; done) | (simp [*]; done) | (refine qa_int ?_; omega) | (refine qa_int ?_; simp <;> omega)), H', ⟨by first | omega | exact Nat.le_refl _⟩, ⟨by repeat (first | (with_reducible first | exact HB.out | apply below_alloc | apply pw_below_drewN | apply below_drew1) | exact HB.out)⟩⟩
    · replace c5 := Bool.eq_false_iff.mpr c5
      subst c5
      have H1 : (milestonelaw06_FrameCuts.j0 k l0 a1 true) = some r := by rw [if_neg (show ¬ (false = true) by decide)] at H; exact H
      clear H
      have H := H1
      clear H1
      have H' := Aside0.mk H
      clear H
      go_wp2_with (first | ((with_reducible refine gate_callee (f := 15) rfl ?_); refine goesL_ (some 14) rfl rfl Try.func15 (by kernel_rfl) rfl #[] rfl (by (try simp only [List.map_toArray, List.map_cons, List.map_nil]); first | done | rfl | (simp only [List.length_drop, List.length_take]; rfl) | (simp; done) | (refine qa_arr ?_; (repeat' (first | rfl | refine qa_cons ?_ ?_ | refine qa_int ?_ | refine qa_agg ?_ | refine qa_arr ?_ | omega)); done)) ?_; (with_reducible refine (milestonelaw06_awake.calls k  false _ A4.out).mono ?_); rintro e w8 ⟨rfl, hb⟩; refine ⟨_, rfl, ?_⟩; have n0_ := Aside0.mk (below_step (by repeat (first | (with_reducible first | exact HB.out | apply below_alloc | apply pw_below_drewN | apply below_drew1) | exact HB.out)) hb); clear HB; have HB := n0_; clear n0_; (try clear hb); (try clear hb2); (try clear hk); (try clear hi)))
      go_meet
      case rel => exact ⟨_, (true), (by first | rfl | (simp; done) | (simp [*]; done) | (refine qa_int ?_; omega) | (refine qa_int ?_; simp <;> omega)), H', ⟨by first | omega | exact Nat.le_refl _⟩, ⟨by repeat (first | (with_reducible first | exact HB.out | apply below_alloc | apply pw_below_drewN | apply below_drew1) | exact HB.out)⟩⟩
  case rest =>
    clear HC3
    try clear c1
    try clear p2
    try clear c5
    try clear c6
    obtain ⟨kq, x20_2, rfl, HA, HJ2, HB⟩ := hcut
    cases kq with
    | zero => exact absurd HA.out (by simp [milestonelaw06_FrameCuts.j0])
    | succ kj2 =>
      have H := HA.out
      clear HA
      simp only [milestonelaw06_FrameCuts.j0] at H
      by_cases c9 : x20_2 = true
      · subst c9
        have H1 : ((milestonelaw06_awake.f kj2).bind fun t195 => (some t195)) = some r := by rw [if_pos rfl] at H; exact H
        clear H
        have H := H1
        clear H1
        replace H := Option.bind_eq_some_iff.mp H
        obtain ⟨t195, A100, H⟩ := H
        replace H : (some t195) = some r := H
        have A10 := Aside0.mk A100
        clear A100
        obtain rfl := Option.some.inj H
        simp only [Option.some.injEq, Prod.mk.injEq] at H
        obtain ⟨rfl⟩ := H
        go_wp2_with (first | ((with_reducible refine gate_callee (f := 15) rfl ?_); refine goesL_ (some 21) rfl rfl Try.func15 (by kernel_rfl) rfl #[] rfl (by (try simp only [List.map_toArray, List.map_cons, List.map_nil]); first | done | rfl | (simp only [List.length_drop, List.length_take]; rfl) | (simp; done) | (refine qa_arr ?_; (repeat' (first | rfl | refine qa_cons ?_ ?_ | refine qa_int ?_ | refine qa_agg ?_ | refine qa_arr ?_ | omega)); done)) ?_; (with_reducible refine (milestonelaw06_awake.calls kj2  t195 _ A10.out).mono ?_); rintro e w11 ⟨rfl, hb⟩; refine ⟨_, rfl, ?_⟩; have n0_ := Aside0.mk (below_step (by repeat (first | (with_reducible first | exact HB.out | apply below_alloc | apply pw_below_drewN | apply below_drew1) | exact HB.out)) hb); clear HB; have HB := n0_; clear n0_; (try clear hb); (try clear hb2); (try clear hk); (try clear hi)))
        go_ret
        exact ⟨by first | rfl | (simp [errW_none, errW_some] <;> rfl) | (simp [*, errW_none, errW_some] <;> rfl), by repeat (first | (with_reducible first | exact HB.out | apply below_alloc | apply pw_below_drewN | apply below_drew1) | exact HB.out)⟩
      · replace c9 := Bool.eq_false_iff.mpr c9
        subst c9
        have H1 : (milestonelaw06_FrameCuts.l0 kj2 l0 a1 ([] : List Int) ([] : List Int) 0) = some r := by rw [if_neg (show ¬ (false = true) by decide)] at H; exact H
        clear H
        have H := H1
        clear H1
        have H' := Aside0.mk H
        clear H
        go_wp2
        go_loopg [5, 6, 7] kj2 (fun kq v5 v6 v7 w' => ∃ (x5_2 : List Int) (x6_2 : List Int) (x7_2 : Int), v7 = .int .i64 x7_2 ∧ Aside0 (milestonelaw06_FrameCuts.l0 kq l0 a1 x5_2 x6_2 x7_2 = some r) ∧ Aside0 (kq ≤ kj2) ∧ Aside0 (Kd.R (Kd.int .u8) 5 w' w.heap.size (fun _ => True) v5 x5_2) ∧ Aside0 (Kd.R (Kd.int .i64) 3 w' w.heap.size (fun _ => True) v6 x6_2) ∧ Aside0 (Below w.heap.size w w'))
        case atStart => exact ⟨(([] : List Int)), (([] : List Int)), (0), (by first | rfl | (simp; done) | (simp [*]; done) | (refine qa_int ?_; omega) | (refine qa_int ?_; simp <;> omega)), H', ⟨Nat.le_refl _⟩, ⟨by first | exact Kd.R_nil _ _ _ _ _ | exact Kd.N_nil _ _ _ _ _ | exact Kd.V_nil _ _ _ _ _ | exact Kd.Q_nil _ _ _ _ _ | exact Kd.S_nil _ _ _ _ _⟩, ⟨by first | exact Kd.R_nil _ _ _ _ _ | exact Kd.N_nil _ _ _ _ _ | exact Kd.V_nil _ _ _ _ _ | exact Kd.Q_nil _ _ _ _ _ | exact Kd.S_nil _ _ _ _ _⟩, ⟨by repeat (first | (with_reducible first | exact HB.out | apply below_alloc | apply pw_below_drewN | apply below_drew1) | exact HB.out)⟩⟩
        case round =>
          clear H'
          try clear c1
          try clear p2
          try clear c5
          try clear c6
          try clear c9
          try clear p2
          obtain ⟨x5_2, x6_2, x7_2, rfl, HA, HK2, HO_5, HO_6, HB⟩ := hrel
          cases gk with
          | zero => exact absurd HA.out (by simp [milestonelaw06_FrameCuts.l0])
          | succ k2 =>
            have H := HA.out
            clear HA
            simp only [milestonelaw06_FrameCuts.l0] at H
            by_cases c12 : x7_2 < (l0.length : Int)
            · rw [if_pos c12] at H
              have c12b0 : decide (x7_2 < (l0.length : Int)) = true := decide_eq_true c12
              clear c12
              by_cases c13 : 0 ≤ x7_2
              · rw [if_pos c13] at H
                have c13b0 : decide (0 ≤ x7_2) = true := decide_eq_true c13
                clear c13
                replace H := Option.bind_eq_some_iff.mp H
                obtain ⟨t197, A140, H⟩ := H
                replace H : (if x5_2.length + t197.length < 140737488355328 then ((some (x5_2 ++ t197 : List Int)).bind fun y200 => (if x6_2.length < 17592186044416 then (milestonelaw06_FrameCuts.l0 k2 l0 a1 y200 (x6_2 ++ [(y200.length : Int)]) (wrap64 (x7_2 + 1))) else (none))) else (none)) = some r := H
                have A14 := Aside0.mk A140
                clear A140
                by_cases c15 : x5_2.length + t197.length < 140737488355328
                · rw [if_pos c15] at H
                  have LMc15 := Aside0.mk c15
                  clear c15
                  obtain ⟨y200, hy200⟩ : ∃ y_ : List Int, y_ = (x5_2 ++ t197) := ⟨_, rfl⟩
                  replace H : (if x6_2.length < 17592186044416 then (milestonelaw06_FrameCuts.l0 k2 l0 a1 y200 (x6_2 ++ [(y200.length : Int)]) (wrap64 (x7_2 + 1))) else (none)) = some r := by first | (rw [hy200]; with_reducible exact H) | (have H2_ := (Option.bind_some _ _).symm.trans H; rw [hy200]; with_reducible exact H2_) | (have H2_ := (Option.bind_some _ _).symm.trans H; with_reducible exact H2_) | with_reducible exact H | (rw [hy200]; exact H) | exact H
                  have Ny200 := Aside0.mk hy200
                  clear hy200
                  by_cases c16 : x6_2.length < 17592186044416
                  · rw [if_pos c16] at H
                    have LMc16 := Aside0.mk c16
                    clear c16
                    obtain ⟨y203, hy203⟩ : ∃ y_ : List Int, y_ = (x6_2 ++ [(y200.length : Int)]) := ⟨_, rfl⟩
                    replace H : (milestonelaw06_FrameCuts.l0 k2 l0 a1 y200 y203 (wrap64 (x7_2 + 1))) = some r := by first | (rw [hy203]; with_reducible exact H) | (have H2_ := (Option.bind_some _ _).symm.trans H; rw [hy203]; with_reducible exact H2_) | (have H2_ := (Option.bind_some _ _).symm.trans H; with_reducible exact H2_) | with_reducible exact H | (rw [hy203]; exact H) | exact H
                    have Ny203 := Aside0.mk hy203
                    clear hy203
                    have H' := Aside0.mk H
                    clear H
                    have p196 : 0 ≤ (x7_2 : Int) := of_decide_eq_true (by first | (with_reducible assumption) | assumption)
                    have q196 : x7_2 < (l0.length : Int) := of_decide_eq_true (by first | (with_reducible assumption) | assumption)
                    obtain ⟨ad196, A196_0, c196_0, e196, hx196_0, hl196_0, hi196_0⟩ := at_L1 HR0.out x7_2 p196 q196
                    cases e196
                    replace hx196_0 := (HB.out.cell (World.block_lt_of_cell? w _ hx196_0)).trans hx196_0
                    have HR196_0 := Aside0.mk hi196_0
                    have HC196_0 := Aside0.mk hl196_0
                    clear hi196_0 hl196_0
                    replace p196 := eq_true p196
                    replace q196 := eq_true q196
                    go_wp2_with (first | ((with_reducible refine gate_callee (f := 17) rfl ?_); refine goesL_ (some 35) rfl rfl Try.func17 (by kernel_rfl) rfl #[.int .u8 ((x7_2) % 256), .slice A196_0 (rd_L1 l0 x7_2).length c196_0] rfl (by (try simp only [List.map_toArray, List.map_cons, List.map_nil]); first | done | rfl | (simp only [List.length_drop, List.length_take]; rfl) | (simp; done) | (refine qa_arr ?_; (repeat' (first | rfl | refine qa_cons ?_ ?_ | refine qa_int ?_ | refine qa_agg ?_ | refine qa_arr ?_ | omega)); done)) ?_; (with_reducible refine (milestoneref05_Pack.calls k2 ((x7_2) % 256) _ _ (rd_L1 l0 x7_2) t197 _ ?side1 ?side2 A14.out).mono ?_); (case side1 => repeat (first | exact (Kd.C_below HR196_0.out HB.out) | (with_reducible refine Kd.C_alloc ?_ _) | (with_reducible refine Kd.C_drewN ?_ _) | (with_reducible refine Kd.C_drew ?_))); (case side2 => exact HC196_0.out); rintro e w17 ⟨v198, rfl, ho0, hb⟩; refine ⟨_, rfl, ?_⟩; have n0_ := Aside0.mk (Kd.R_elder' (by (with_reducible repeat (first | apply Kd.R_alloc | apply Kd.R_drewN | apply Kd.R_drew)); exact HO_5.out) (Kd.R_base ho0) hb); have n1_ := Aside0.mk (Kd.R_below (by (with_reducible repeat (first | apply Kd.R_alloc | apply Kd.R_drewN | apply Kd.R_drew)); exact HO_6.out) hb); have n2_ := Aside0.mk (Kd.R_lower (Kd.R_new' ho0 (Kd.R_lt (by (with_reducible repeat (first | apply Kd.R_alloc | apply Kd.R_drewN | apply Kd.R_drew)); exact HO_5.out))) (below_size (by repeat (first | (with_reducible first | exact HB.out | apply below_alloc | apply pw_below_drewN | apply below_drew1) | exact HB.out)))); have n3_ := Aside0.mk (below_step (by repeat (first | (with_reducible first | exact HB.out | apply below_alloc | apply pw_below_drewN | apply below_drew1) | exact HB.out)) hb); clear HO_5; clear HO_6; clear HB; have HO_5 := n0_; have HO_6 := n1_; have HO199 := n2_; have HB := n3_; clear n0_ n1_ n2_ n3_; (try clear hb); (try clear hb2); (try clear hk); (try clear hi); (try clear ho0); obtain ⟨Ao19, co19, eo19⟩ := Kd.R_slice HO199.out; subst eo19) | ((with_reducible refine gate_builtin (b := .append) (xs := #[.tmp 28, .tmp 35]) rfl ?_); at_builtin; refine Kd.R_append_rows (Kd.int .u8) (w0 := w) w.heap.size rfl (.tmp 28) (.tmp 35) 33 5 (.int .u8 0) 1 rfl Try.underlying33 info5 rfl (by decide) (by omega) u5 x5_2 t197 _ _ _ (fun k_ => some k_ ≠ (.slice Ao19 t197.length co19 : Value).ownBlock) (fun _ => False) rfl rfl ?aO ?aR (fun _ _ h => h) (fun _ h => h.elim) ?aF ?aB ?aS ?aL ?_; (case aR => repeat (first | exact (Kd.R_reads' HO199.out).2.2 | (with_reducible refine Kd.C_alloc ?_ _) | (with_reducible refine Kd.C_drewN ?_ _) | (with_reducible refine Kd.C_drew ?_))); (case aB => exact (by repeat (first | (with_reducible first | exact HB.out | apply below_alloc | apply pw_below_drewN | apply below_drew1) | exact HB.out))); (case aF => exact (fun k_ hk => Kd.fresh' (Kd.R_lt (by (with_reducible repeat (first | apply Kd.R_alloc | apply Kd.R_drewN | apply Kd.R_drew)); exact HO199.out)) k_ hk)); (case aO => exact (by (with_reducible repeat (first | apply Kd.R_alloc | apply Kd.R_drewN | apply Kd.R_drew)); exact Kd.R_mono HO_5.out (fun _ hk => hk.2))); (case aS => exact (below_size (by repeat (first | (with_reducible first | exact HB.out | apply below_alloc | apply pw_below_drewN | apply below_drew1) | exact HB.out)))); (case aL => have := LMc15.out; omega); intro v201 w18 ho hb hg hat; rw [← Ny200.out] at ho; have n0_ := Aside0.mk (Kd.R_over' (by (with_reducible repeat (first | apply Kd.R_alloc | apply Kd.R_drewN | apply Kd.R_drew)); exact HO_6.out) (Kd.R_typed (by (with_reducible repeat (first | apply Kd.R_alloc | apply Kd.R_drewN | apply Kd.R_drew)); exact HO_5.out)) (by decide) hg); have n1_ := Aside0.mk (Kd.R_after (ok := (fun _ => True)) (by (with_reducible repeat (first | apply Kd.R_alloc | apply Kd.R_drewN | apply Kd.R_drew)); exact HO199.out) hg hat); have n2_ := Aside0.mk (hb); have n3_ := Aside0.mk (ho); clear HO_6; clear HO199; clear HB; clear HO_5; have HO_6 := n0_; have HO199 := n1_; have HB := n2_; have HO202 := n3_; clear n0_ n1_ n2_ n3_; clear ho hb hg hat; obtain ⟨Ao20, co20, eo20⟩ := Kd.R_slice HO202.out; subst eo20) | ((with_reducible refine gate_builtin (b := .append) (xs := #[.tmp 37, .tmp 40]) rfl ?_); at_builtin; refine Kd.R_append (Kd.int .i64) (w0 := w) w.heap.size rfl (.tmp 37) (.tmp 40) 54 3 (.int .i64 0) 8 rfl Try.underlying54 info3 rfl (by decide) (by omega) u6 x6_2 (y200.length : Int) [.int .i64 (y200.length : Int)] (fun _ => True) (fun _ => False) rfl rfl ?aP (fun _ hk => hk.elim) ?aF ?aO ?aB ?aS ?aL ?_; (case aP => exact rfl); (case aB => exact (by repeat (first | (with_reducible first | exact HB.out | apply below_alloc | apply pw_below_drewN | apply below_drew1) | exact HB.out))); (case aF => exact (fun _ _ => trivial)); (case aO => exact (by (with_reducible repeat (first | apply Kd.R_alloc | apply Kd.R_drewN | apply Kd.R_drew)); exact HO_6.out)); (case aS => exact (below_size (by repeat (first | (with_reducible first | exact HB.out | apply below_alloc | apply pw_below_drewN | apply below_drew1) | exact HB.out)))); (case aL => have := LMc16.out; omega); intro v204 w21 ho hb hg hat; rw [← Ny203.out] at ho; have n0_ := Aside0.mk (Kd.R_over' (by (with_reducible repeat (first | apply Kd.R_alloc | apply Kd.R_drewN | apply Kd.R_drew)); exact HO199.out) (Kd.R_typed (by (with_reducible repeat (first | apply Kd.R_alloc | apply Kd.R_drewN | apply Kd.R_drew)); exact HO_6.out)) (by decide) hg); have n1_ := Aside0.mk (Kd.R_over' (by (with_reducible repeat (first | apply Kd.R_alloc | apply Kd.R_drewN | apply Kd.R_drew)); exact HO202.out) (Kd.R_typed (by (with_reducible repeat (first | apply Kd.R_alloc | apply Kd.R_drewN | apply Kd.R_drew)); exact HO_6.out)) (by decide) hg); have n2_ := Aside0.mk (hb); have n3_ := Aside0.mk (ho); clear HO199; clear HO202; clear HB; clear HO_6; have HO199 := n0_; have HO202 := n1_; have HB := n2_; have HO205 := n3_; clear n0_ n1_ n2_ n3_; clear ho hb hg hat))
                    go_roundg k2
                    case measure => have := HJ2.out; have := HK2.out; omega
                    case rel => exact ⟨(y200), (y203), (wrap64 (x7_2 + 1)), (by first | rfl | (simp; done) | (simp [*]; done) | (refine qa_int ?_; omega) | (refine qa_int ?_; simp <;> omega)), H', ⟨by have := HJ2.out; have := HK2.out; omega⟩, ⟨by (with_reducible repeat (first | apply Kd.R_alloc | apply Kd.R_drewN | apply Kd.R_drew)); exact Kd.R_mono HO202.out (fun _ hk => trivial)⟩, ⟨by (with_reducible repeat (first | apply Kd.R_alloc | apply Kd.R_drewN | apply Kd.R_drew)); exact HO205.out⟩, ⟨by repeat (first | (with_reducible first | exact HB.out | apply below_alloc | apply pw_below_drewN | apply below_drew1) | exact HB.out)⟩⟩
                  · rw [if_neg c16] at H
                    exact absurd H (by simp)
                · rw [if_neg c15] at H
                  exact absurd H (by simp)
              · rw [if_neg c13] at H
                exact absurd H (by simp)
            · rw [if_neg c12] at H
              have c12b0 : decide (x7_2 < (l0.length : Int)) = false := decide_eq_false c12
              clear c12
              by_cases c22 : (wrap64 ((x5_2.length : Int) + 1)) = 0
              · rw [if_pos c22] at H
                exact absurd H (by simp)
              · rw [if_neg c22] at H
                have c22b0 : ((wrap64 ((x5_2.length : Int) + 1)) == 0) = false := beq_eq_false_iff_ne.mpr c22
                have c22b1 : ((wrap64 ((x5_2.length : Int) + 1)) != 0) = true := bne_iff_ne.mpr c22
                obtain ⟨ji23, hji23⟩ : ∃ j_ : Int, (Int.tmod (wrap64 (a1)) (wrap64 ((x5_2.length : Int) + 1))) = j_ := ⟨_, rfl⟩
                replace H : (if 0 ≤ (ji23) then (if (ji23) ≤ (x5_2.length : Int) then ((frame_Scan.f k2 (x5_2.take ((ji23) : Int).toNat)).bind fun bt210 => (milestonelaw06_FrameCuts.l1 k2 x6_2 ji23 bt210.1 bt210.2.1 bt210.2.2 0 0)) else (none)) else (none)) = some r := by first | (rw [hji23] at H; exact H) | (simp only [hji23] at H ⊢; exact H)
                by_cases c24 : 0 ≤ (ji23)
                · rw [if_pos c24] at H
                  have c24b0 := eq_true c24
                  have c24b1 : decide (0 ≤ (ji23)) = true := decide_eq_true c24
                  clear c24
                  by_cases c25 : (ji23) ≤ (x5_2.length : Int)
                  · rw [if_pos c25] at H
                    have c25b0 := eq_true c25
                    have c25b1 : decide ((ji23) ≤ (x5_2.length : Int)) = true := decide_eq_true c25
                    clear c25
                    obtain ⟨y206, hy206⟩ : ∃ y_ : List Int, y_ = (x5_2.take ((ji23) : Int).toNat) := ⟨_, rfl⟩
                    replace H : ((frame_Scan.f k2 y206).bind fun bt210 => (milestonelaw06_FrameCuts.l1 k2 x6_2 ji23 bt210.1 bt210.2.1 bt210.2.2 0 0)) = some r := by first | (rw [hy206]; with_reducible exact H) | (have H2_ := (Option.bind_some _ _).symm.trans H; rw [hy206]; with_reducible exact H2_) | (have H2_ := (Option.bind_some _ _).symm.trans H; with_reducible exact H2_) | with_reducible exact H | (rw [hy206]; exact H) | exact H
                    have Ny206 := Aside0.mk hy206
                    clear hy206
                    replace H := Option.bind_eq_some_iff.mp H
                    obtain ⟨⟨t210, t211, t212⟩, A260, H⟩ := H
                    replace H : (milestonelaw06_FrameCuts.l1 k2 x6_2 ji23 t210 t211 t212 0 0) = some r := H
                    have A26 := Aside0.mk A260
                    clear A260
                    have H' := Aside0.mk H
                    clear H
                    obtain ⟨Ao27, co27, eo27⟩ := Kd.R_slice HO_5.out
                    subst eo27
                    have q28 : ((ji23) : Int) ≤ ((x5_2.length : Int) : Int) := of_decide_eq_true (by first | (with_reducible assumption) | assumption)
                    obtain ⟨i028, hi028, _, hsz28, _⟩ := info_parts info5
                    have hroom28 : x5_2.length ≤ co27 := (Kd.R_reads' HO_5.out).2.1
                    have hC28 : Kd.C (Kd.int .u8) _ Ao27 x5_2.length x5_2 := (Kd.R_reads' HO_5.out).2.2
                    have hcut28 := cut_to (P := Try.prog) 33 5 .i64 Try.underlying33 hi028 Ao27 x5_2.length co27 (ji23) (of_decide_eq_true (by first | (with_reducible assumption) | assumption)) q28 hroom28
                    have hr28 := Kd.C_take (m := ((ji23) : Int).toNat) hC28 (by omega)
                    have hy28 : y206.length = ((ji23) : Int).toNat := (by rw [Ny206.out, List.length_take]; omega)
                    rw [← Ny206.out] at hr28
                    rw [← hy28] at hcut28
                    have HR209 := Aside0.mk hr28
                    have HC209 := Aside0.mk (show y206.length ≤ co27 from by omega)
                    clear hr28 hC28 hroom28 hi028 hsz28
                    have KY28 := Aside0.mk hy28
                    clear hy28
                    have KL28 := Aside0.mk (show ((ji23) : Int).toNat ≤ x5_2.length from by omega)
                    replace q28 := eq_true q28
                    go_wp2_with (first | ((with_reducible refine gate_callee (f := 18) rfl ?_); refine goesL_ (some 52) rfl rfl Try.func18 (by kernel_rfl) rfl #[.slice Ao27 y206.length co27] rfl (by (try simp only [List.map_toArray, List.map_cons, List.map_nil]); first | done | rfl | (simp only [List.length_drop, List.length_take]; rfl) | (simp; done) | (refine qa_arr ?_; (repeat' (first | rfl | refine qa_cons ?_ ?_ | refine qa_int ?_ | refine qa_agg ?_ | refine qa_arr ?_ | omega)); done)) ?_; (with_reducible refine (frame_Scan.calls k2 _ _ y206 t210 t211 t212 _ ?side1 ?side2 A26.out).mono ?_); (case side1 => repeat (first | exact (by repeat (first | (with_reducible exact HR209.out) | (with_reducible refine Kd.C_alloc ?_ _) | (with_reducible refine Kd.C_drewN ?_ _) | (with_reducible refine Kd.C_drew ?_) | exact HR209.out)) | (with_reducible refine Kd.C_alloc ?_ _) | (with_reducible refine Kd.C_drewN ?_ _) | (with_reducible refine Kd.C_drew ?_))); (case side2 => exact HC209.out); rintro e w29 ⟨v213, rfl, ho0, hb⟩; refine ⟨_, rfl, ?_⟩; have n0_ := Aside0.mk (Kd.R_below (by (with_reducible repeat (first | apply Kd.R_alloc | apply Kd.R_drewN | apply Kd.R_drew)); exact HO_5.out) hb); have n1_ := Aside0.mk (Kd.R_below (by (with_reducible repeat (first | apply Kd.R_alloc | apply Kd.R_drewN | apply Kd.R_drew)); exact HO_6.out) hb); have n2_ := Aside0.mk (Kd.S_lower (Kd.S_new' ho0 (Kd.R_lt (by (with_reducible repeat (first | apply Kd.R_alloc | apply Kd.R_drewN | apply Kd.R_drew)); exact HO_5.out))) (below_size (by repeat (first | (with_reducible first | exact HB.out | apply below_alloc | apply pw_below_drewN | apply below_drew1) | exact HB.out)))); have n3_ := Aside0.mk (Kd.C_below (by repeat (first | (with_reducible exact HR209.out) | (with_reducible refine Kd.C_alloc ?_ _) | (with_reducible refine Kd.C_drewN ?_ _) | (with_reducible refine Kd.C_drew ?_) | exact HR209.out)) hb); have n4_ := Aside0.mk (below_step (by repeat (first | (with_reducible first | exact HB.out | apply below_alloc | apply pw_below_drewN | apply below_drew1) | exact HB.out)) hb); clear HO_5; clear HO_6; clear HR209; clear HB; have HO_5 := n0_; have HO_6 := n1_; have HO214 := n2_; have HR209 := n3_; have HB := n4_; clear n0_ n1_ n2_ n3_ n4_; (try clear hb); (try clear hb2); (try clear hk); (try clear hi); (try clear ho0)))
                    go_loopg [12, 13] k2 (fun kq v12 v13 w' => ∃ (x12_3 : Int) (x13_3 : Int), v12 = .int .i64 x12_3 ∧ v13 = .int .i64 x13_3 ∧ Aside0 (milestonelaw06_FrameCuts.l1 kq x6_2 ji23 t210 t211 t212 x12_3 x13_3 = some r) ∧ Aside0 (kq ≤ k2) ∧ Aside0 (Kd.R (Kd.int .i64) 3 w' w.heap.size (fun _ => True) u6 x6_2) ∧ Aside0 (Kd.S k52 52 w' w.heap.size (fun _ => True) v213 t210) ∧ Aside0 (Kd.C (Kd.int .u8) w' Ao27 y206.length y206) ∧ Aside0 (Below w.heap.size w w'))
                    case atStart => exact ⟨(0), (0), (by first | rfl | (simp; done) | (simp [*]; done) | (refine qa_int ?_; omega) | (refine qa_int ?_; simp <;> omega)), (by first | rfl | (simp; done) | (simp [*]; done) | (refine qa_int ?_; omega) | (refine qa_int ?_; simp <;> omega)), H', ⟨Nat.le_refl _⟩, ⟨by (with_reducible repeat (first | apply Kd.R_alloc | apply Kd.R_drewN | apply Kd.R_drew)); exact HO_6.out⟩, ⟨by (with_reducible repeat (first | apply Kd.S_alloc | apply Kd.S_drewN | apply Kd.S_drew)); exact Kd.S_mono HO214.out (fun _ hk => trivial)⟩, ⟨by repeat (first | (with_reducible exact HR209.out) | (with_reducible refine Kd.C_alloc ?_ _) | (with_reducible refine Kd.C_drewN ?_ _) | (with_reducible refine Kd.C_drew ?_) | exact HR209.out)⟩, ⟨by repeat (first | (with_reducible first | exact HB.out | apply below_alloc | apply pw_below_drewN | apply below_drew1) | exact HB.out)⟩⟩
                    case round =>
                      clear H'
                      try clear c1
                      try clear p1
                      try clear q1
                      try clear hx1
                      try clear c2
                      try clear p2
                      try clear q2
                      try clear c5
                      try clear c6
                      try clear p6
                      try clear c9
                      try clear c12
                      try clear c12b0
                      try clear c13
                      try clear c13b0
                      try clear c15
                      try clear c16
                      try clear c17
                      try clear c18
                      try clear c19
                      try clear p19
                      try clear q19
                      try clear hx19
                      try clear c22
                      try clear c22b0
                      try clear c22b1
                      try clear c24
                      try clear c24b0
                      try clear c24b1
                      try clear c25
                      try clear c25b0
                      try clear c25b1
                      try clear q28
                      try clear hx196_0
                      try clear p196
                      try clear p2
                      try clear q196
                      try clear q28
                      obtain ⟨x12_3, x13_3, rfl, rfl, HA, HK3, HO_6, HO_9, HR209, HB⟩ := hrel
                      cases gk with
                      | zero => exact absurd HA.out (by simp [milestonelaw06_FrameCuts.l1])
                      | succ k3 =>
                        have H := HA.out
                        clear HA
                        simp only [milestonelaw06_FrameCuts.l1] at H
                        by_cases c30 : x12_3 < (x6_2.length : Int)
                        · rw [if_pos c30] at H
                          have c30b0 : decide (x12_3 < (x6_2.length : Int)) = true := decide_eq_true c30
                          clear c30
                          by_cases c31 : 0 ≤ x12_3
                          · rw [if_pos c31] at H
                            have c31b0 : decide (0 ≤ x12_3) = true := decide_eq_true c31
                            clear c31
                            by_cases c32 : (rd x6_2 x12_3) ≤ ji23
                            · rw [if_pos c32] at H
                              have c32b0 : decide ((rd x6_2 x12_3) ≤ ji23) = true := decide_eq_true c32
                              clear c32
                              have H' := Aside0.mk H
                              clear H
                              obtain ⟨Ao33, co33, eo33⟩ := Kd.R_slice HO_6.out
                              subst eo33
                              have p215 : 0 ≤ (x12_3 : Int) := of_decide_eq_true (by first | (with_reducible assumption) | assumption)
                              have q215 : x12_3 < (x6_2.length : Int) := of_decide_eq_true (by first | (with_reducible assumption) | assumption)
                              obtain ⟨ad215, e215, hx215_0⟩ := Kd.at_int (Kd.R_reads' HO_6.out).2.2 x12_3 p215 q215
                              cases e215
                              replace p215 := eq_true p215
                              replace q215 := eq_true q215
                              have p216 : 0 ≤ (x12_3 : Int) := of_decide_eq_true (by first | (with_reducible assumption) | assumption)
                              have q216 : x12_3 < (x6_2.length : Int) := of_decide_eq_true (by first | (with_reducible assumption) | assumption)
                              obtain ⟨ad216, e216, hx216_0⟩ := Kd.at_int (Kd.R_reads' HO_6.out).2.2 x12_3 p216 q216
                              obtain rfl : ad215 = ad216 := (by injection e216)
                              replace p216 := eq_true p216
                              replace q216 := eq_true q216
                              go_wp2
                              go_roundg k3
                              case measure => have := HJ2.out; have := HK2.out; have := HK3.out; omega
                              case rel => exact ⟨(wrap64 (x12_3 + 1)), (rd x6_2 x12_3), (by first | rfl | (simp; done) | (simp [*]; done) | (refine qa_int ?_; omega) | (refine qa_int ?_; simp <;> omega)), (by first | rfl | (simp; done) | (simp [*]; done) | (refine qa_int ?_; omega) | (refine qa_int ?_; simp <;> omega)), H', ⟨by have := HJ2.out; have := HK2.out; have := HK3.out; omega⟩, ⟨by (with_reducible repeat (first | apply Kd.R_alloc | apply Kd.R_drewN | apply Kd.R_drew)); exact HO_6.out⟩, ⟨by (with_reducible repeat (first | apply Kd.S_alloc | apply Kd.S_drewN | apply Kd.S_drew)); exact HO_9.out⟩, ⟨by repeat (first | (with_reducible exact HR209.out) | (with_reducible refine Kd.C_alloc ?_ _) | (with_reducible refine Kd.C_drewN ?_ _) | (with_reducible refine Kd.C_drew ?_) | exact HR209.out)⟩, ⟨by repeat (first | (with_reducible first | exact HB.out | apply below_alloc | apply pw_below_drewN | apply below_drew1) | exact HB.out)⟩⟩
                            · rw [if_neg c32] at H
                              have c32b0 : decide ((rd x6_2 x12_3) ≤ ji23) = false := decide_eq_false c32
                              clear c32
                              by_cases c34 : (t210.length : Int) = x12_3
                              · rw [if_pos c34] at H
                                have c34b0 : ((t210.length : Int) == x12_3) = true := beq_iff_eq.mpr c34
                                have c34b1 : ((t210.length : Int) != x12_3) = false := bne_eq_false_iff_eq.mpr c34
                                clear c34
                                by_cases c35 : t211 = x13_3
                                · rw [if_pos c35] at H
                                  have c35b0 : (t211 == x13_3) = true := beq_iff_eq.mpr c35
                                  have c35b1 : (t211 != x13_3) = false := bne_eq_false_iff_eq.mpr c35
                                  clear c35
                                  by_cases c36 : ((t212 == 0) == (x13_3 == ji23)) = true
                                  · rw [if_pos c36] at H
                                    have c36b0 : ((t212 == 0) == (x13_3 == ji23)) = true := c36
                                    (try (have c36b1 : decide ((t212 == 0) = (x13_3 == ji23)) = true := by simpa using c36))
                                    (try (have c36b2 : ((t212 == 0) == (x13_3 == ji23)) = true := by simpa using c36))
                                    clear c36
                                    by_cases c37 : t212 = 0
                                    · rw [if_pos c37] at H
                                      have c37b0 : (t212 == 0) = true := beq_iff_eq.mpr c37
                                      (try (have c36zc37 := c36b0; rw [c37b0] at c36zc37; simp at c36zc37))
                                      (try (have c36zt37 := beq_iff_eq.mpr c36zc37))
                                      (try (have c36zf37 := beq_eq_false_iff_ne.mpr c36zc37))
                                      (try clear c36zc37)
                                      have c37b1 : (t212 != 0) = false := bne_eq_false_iff_eq.mpr c37
                                      clear c37
                                      obtain rfl := Option.some.inj H
                                      simp only [Option.some.injEq, Prod.mk.injEq] at H
                                      obtain ⟨rfl⟩ := H
                                      obtain ⟨Ao38, co38, eo38⟩ := Kd.R_slice HO_6.out
                                      subst eo38
                                      have p215 : 0 ≤ (x12_3 : Int) := of_decide_eq_true (by first | (with_reducible assumption) | assumption)
                                      have q215 : x12_3 < (x6_2.length : Int) := of_decide_eq_true (by first | (with_reducible assumption) | assumption)
                                      obtain ⟨ad215, e215, hx215_0⟩ := Kd.at_int (Kd.R_reads' HO_6.out).2.2 x12_3 p215 q215
                                      cases e215
                                      replace p215 := eq_true p215
                                      replace q215 := eq_true q215
                                      obtain ⟨Ao39, co39, eo39⟩ := Kd.S_slice HO_9.out
                                      subst eo39
                                      go_wp2
                                      go_ret
                                      exact ⟨by first | rfl | (simp [errW_none, errW_some] <;> rfl) | (simp only [← hji23]; first | rfl | (simp [errW_none, errW_some] <;> rfl)) | (simp [*, errW_none, errW_some] <;> rfl), by repeat (first | (with_reducible first | exact HB.out | apply below_alloc | apply pw_below_drewN | apply below_drew1) | exact HB.out)⟩
                                    · rw [if_neg c37] at H
                                      have c37b0 : (t212 == 0) = false := beq_eq_false_iff_ne.mpr c37
                                      (try (have c36zc37 := c36b0; rw [c37b0] at c36zc37; simp at c36zc37))
                                      (try (have c36zt37 := beq_iff_eq.mpr c36zc37))
                                      (try (have c36zf37 := beq_eq_false_iff_ne.mpr c36zc37))
                                      (try clear c36zc37)
                                      have c37b1 : (t212 != 0) = true := bne_iff_ne.mpr c37
                                      obtain rfl := Option.some.inj H
                                      simp only [Option.some.injEq, Prod.mk.injEq] at H
                                      obtain ⟨rfl⟩ := H
                                      obtain ⟨Ao40, co40, eo40⟩ := Kd.R_slice HO_6.out
                                      subst eo40
                                      have p215 : 0 ≤ (x12_3 : Int) := of_decide_eq_true (by first | (with_reducible assumption) | assumption)
                                      have q215 : x12_3 < (x6_2.length : Int) := of_decide_eq_true (by first | (with_reducible assumption) | assumption)
                                      obtain ⟨ad215, e215, hx215_0⟩ := Kd.at_int (Kd.R_reads' HO_6.out).2.2 x12_3 p215 q215
                                      cases e215
                                      replace p215 := eq_true p215
                                      replace q215 := eq_true q215
                                      obtain ⟨Ao41, co41, eo41⟩ := Kd.S_slice HO_9.out
                                      subst eo41
                                      go_wp2
                                      go_ret
                                      exact ⟨by first | rfl | (simp [errW_none, errW_some] <;> rfl) | (simp only [← hji23]; first | rfl | (simp [errW_none, errW_some] <;> rfl)) | (simp [*, errW_none, errW_some] <;> rfl), by repeat (first | (with_reducible first | exact HB.out | apply below_alloc | apply pw_below_drewN | apply below_drew1) | exact HB.out)⟩
                                  · rw [if_neg c36] at H
                                    have c36b0 : ((t212 == 0) == (x13_3 == ji23)) = false := by simpa using c36
                                    (try (have c36b1 : decide ((t212 == 0) = (x13_3 == ji23)) = false := by simpa using c36))
                                    (try (have c36b2 : ((t212 == 0) == (x13_3 == ji23)) = false := by simpa using c36))
                                    (try (have c36b3 : ¬ ((t212 == 0) = (x13_3 == ji23)) := by simpa using c36))
                                    clear c36
                                    obtain rfl := Option.some.inj H
                                    exact absurd HT.out (by decide)
                                · rw [if_neg c35] at H
                                  have c35b0 : (t211 == x13_3) = false := beq_eq_false_iff_ne.mpr c35
                                  have c35b1 : (t211 != x13_3) = true := bne_iff_ne.mpr c35
                                  obtain rfl := Option.some.inj H
                                  exact absurd HT.out (by decide)
                              · rw [if_neg c34] at H
                                have c34b0 : ((t210.length : Int) == x12_3) = false := beq_eq_false_iff_ne.mpr c34
                                have c34b1 : ((t210.length : Int) != x12_3) = true := bne_iff_ne.mpr c34
                                obtain rfl := Option.some.inj H
                                exact absurd HT.out (by decide)
                          · rw [if_neg c31] at H
                            exact absurd H (by simp)
                        · rw [if_neg c30] at H
                          have c30b0 : decide (x12_3 < (x6_2.length : Int)) = false := decide_eq_false c30
                          clear c30
                          by_cases c42 : (t210.length : Int) = x12_3
                          · rw [if_pos c42] at H
                            have c42b0 : ((t210.length : Int) == x12_3) = true := beq_iff_eq.mpr c42
                            have c42b1 : ((t210.length : Int) != x12_3) = false := bne_eq_false_iff_eq.mpr c42
                            clear c42
                            by_cases c43 : t211 = x13_3
                            · rw [if_pos c43] at H
                              have c43b0 : (t211 == x13_3) = true := beq_iff_eq.mpr c43
                              have c43b1 : (t211 != x13_3) = false := bne_eq_false_iff_eq.mpr c43
                              clear c43
                              by_cases c44 : ((t212 == 0) == (x13_3 == ji23)) = true
                              · rw [if_pos c44] at H
                                have c44b0 : ((t212 == 0) == (x13_3 == ji23)) = true := c44
                                (try (have c44b1 : decide ((t212 == 0) = (x13_3 == ji23)) = true := by simpa using c44))
                                (try (have c44b2 : ((t212 == 0) == (x13_3 == ji23)) = true := by simpa using c44))
                                clear c44
                                by_cases c45 : t212 = 0
                                · rw [if_pos c45] at H
                                  have c45b0 : (t212 == 0) = true := beq_iff_eq.mpr c45
                                  (try (have c36zc45 := c36b0; rw [c45b0] at c36zc45; simp at c36zc45))
                                  (try (have c36zt45 := beq_iff_eq.mpr c36zc45))
                                  (try (have c36zf45 := beq_eq_false_iff_ne.mpr c36zc45))
                                  (try clear c36zc45)
                                  (try (have c44zc45 := c44b0; rw [c45b0] at c44zc45; simp at c44zc45))
                                  (try (have c44zt45 := beq_iff_eq.mpr c44zc45))
                                  (try (have c44zf45 := beq_eq_false_iff_ne.mpr c44zc45))
                                  (try clear c44zc45)
                                  have c45b1 : (t212 != 0) = false := bne_eq_false_iff_eq.mpr c45
                                  clear c45
                                  obtain rfl := Option.some.inj H
                                  simp only [Option.some.injEq, Prod.mk.injEq] at H
                                  obtain ⟨rfl⟩ := H
                                  obtain ⟨Ao46, co46, eo46⟩ := Kd.R_slice HO_6.out
                                  subst eo46
                                  obtain ⟨Ao47, co47, eo47⟩ := Kd.S_slice HO_9.out
                                  subst eo47
                                  go_wp2
                                  go_ret
                                  exact ⟨by first | rfl | (simp [errW_none, errW_some] <;> rfl) | (simp only [← hji23]; first | rfl | (simp [errW_none, errW_some] <;> rfl)) | (simp [*, errW_none, errW_some] <;> rfl), by repeat (first | (with_reducible first | exact HB.out | apply below_alloc | apply pw_below_drewN | apply below_drew1) | exact HB.out)⟩
                                · rw [if_neg c45] at H
                                  have c45b0 : (t212 == 0) = false := beq_eq_false_iff_ne.mpr c45
                                  (try (have c36zc45 := c36b0; rw [c45b0] at c36zc45; simp at c36zc45))
                                  (try (have c36zt45 := beq_iff_eq.mpr c36zc45))
                                  (try (have c36zf45 := beq_eq_false_iff_ne.mpr c36zc45))
                                  (try clear c36zc45)
                                  (try (have c44zc45 := c44b0; rw [c45b0] at c44zc45; simp at c44zc45))
                                  (try (have c44zt45 := beq_iff_eq.mpr c44zc45))
                                  (try (have c44zf45 := beq_eq_false_iff_ne.mpr c44zc45))
                                  (try clear c44zc45)
                                  have c45b1 : (t212 != 0) = true := bne_iff_ne.mpr c45
                                  obtain rfl := Option.some.inj H
                                  simp only [Option.some.injEq, Prod.mk.injEq] at H
                                  obtain ⟨rfl⟩ := H
                                  obtain ⟨Ao48, co48, eo48⟩ := Kd.R_slice HO_6.out
                                  subst eo48
                                  obtain ⟨Ao49, co49, eo49⟩ := Kd.S_slice HO_9.out
                                  subst eo49
                                  go_wp2
                                  go_ret
                                  exact ⟨by first | rfl | (simp [errW_none, errW_some] <;> rfl) | (simp only [← hji23]; first | rfl | (simp [errW_none, errW_some] <;> rfl)) | (simp [*, errW_none, errW_some] <;> rfl), by repeat (first | (with_reducible first | exact HB.out | apply below_alloc | apply pw_below_drewN | apply below_drew1) | exact HB.out)⟩
                              · rw [if_neg c44] at H
                                have c44b0 : ((t212 == 0) == (x13_3 == ji23)) = false := by simpa using c44
                                (try (have c44b1 : decide ((t212 == 0) = (x13_3 == ji23)) = false := by simpa using c44))
                                (try (have c44b2 : ((t212 == 0) == (x13_3 == ji23)) = false := by simpa using c44))
                                (try (have c44b3 : ¬ ((t212 == 0) = (x13_3 == ji23)) := by simpa using c44))
                                clear c44
                                obtain rfl := Option.some.inj H
                                exact absurd HT.out (by decide)
                            · rw [if_neg c43] at H
                              have c43b0 : (t211 == x13_3) = false := beq_eq_false_iff_ne.mpr c43
                              have c43b1 : (t211 != x13_3) = true := bne_iff_ne.mpr c43
                              obtain rfl := Option.some.inj H
                              exact absurd HT.out (by decide)
                          · rw [if_neg c42] at H
                            have c42b0 : ((t210.length : Int) == x12_3) = false := beq_eq_false_iff_ne.mpr c42
                            have c42b1 : ((t210.length : Int) != x12_3) = true := bne_iff_ne.mpr c42
                            obtain rfl := Option.some.inj H
                            exact absurd HT.out (by decide)
                  · rw [if_neg c25] at H
                    exact absurd H (by simp)
                · rw [if_neg c24] at H
                  exact absurd H (by simp)

/-- THE ONE PURE STATEMENT of milestonelaw06_FrameCuts: yours. -/
def milestonelaw06_FrameCuts.Pure : Prop := ∀ (l0 : List (List Int)) (a1 : Int), l0.length ≤ maxLen → (∀ x ∈ l0, (x.length ≤ maxLen ∧ ∀ y ∈ x, (Lit.int .u8 y).wf = true)) → (Lit.int .u16 a1).wf = true → ∃ k, milestonelaw06_FrameCuts.f k l0 a1 = some true
theorem milestonelaw06_FrameCuts.walk (P : milestonelaw06_FrameCuts.Pure) (a0 : Option Addr) (cap0 : Nat) (l0 : List (List Int)) (a1 : Int) (w : World) (hr0 : Kd.C (Kd.slice 5 (Kd.int .u8)) w a0 l0.length l0) (hc0 : l0.length ≤ cap0) (hm0 : l0.length ≤ maxLen) (hw0 : ∀ x ∈ l0, (x.length ≤ maxLen ∧ ∀ y ∈ x, (Lit.int .u8 y).wf = true)) (w1 : (Lit.int .u16 a1).wf = true) :
    Calls Try.prog 6 #[.slice a0 l0.length cap0, .int .u16 a1] w fun e w' => e = .returned (.bool true) ∧ Below w.heap.size w w' := by
  obtain ⟨k, h⟩ := P l0 a1 hm0 hw0 w1
  refine (milestonelaw06_FrameCuts.calls k _ _ l0 a1 true w hr0 hc0 h rfl).mono ?_
  rintro e w' ⟨rfl, hd⟩
  exact ⟨rfl, hd⟩

end Go.Proofs.Ytllcighpfikpkaa.QFrameCuts
