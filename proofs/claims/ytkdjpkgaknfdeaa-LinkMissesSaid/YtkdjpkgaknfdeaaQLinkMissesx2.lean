-- Lines by a program of this session, for this claim.
import Derived.Test.YtkdjpkgaknfdeaaQLinkMissesx0
import Derived.Test.YtkdjpkgaknfdeaaQLinkMissesx1
namespace Go.Proofs.Ytkdjpkgaknfdeaa.QLinkMisses
open Go.RowKit Go.Proofs.YtkdjpkgaknfdeaaW.PrintWords Go.Proofs.YtkdjpkgaknfdeaaW.PrintLast Go.Proofs.YtkdjpkgaknfdeaaW.PrintMore
attribute [local go_sem] max2_int min2_int max_two min_two max_three min_three max_four min_four   -- for this text's walks alone
set_option linter.unusedVariables false
set_option linter.unusedSimpArgs false

/-! ### milestonelaw14_LinkMisses: function 3 -/
mutual
def milestonelaw14_LinkMisses.j0 : Nat → List Bool → Bool → Option (Bool)
  | 0, _, _ => none
  | k + 1, x0, x16 => if x16 = true then ((milestonelaw14_awake.f).bind fun t143 => (some t143)) else ((link_New.f 0).bind fun bt144 => (milestonelaw14_LinkMisses.l0 k x0 ([] : List Bool) 0 bt144.1 bt144.2.1 bt144.2.2.1 bt144.2.2.2.1 bt144.2.2.2.2))
def milestonelaw14_LinkMisses.l0 : Nat → List Bool → List Bool → Int → Int → Int → Int → Int → Int → Option (Bool)
  | 0, _, _, _, _, _, _, _, _ => none
  | k + 1, x0, x4, x5, x150000, x150001, x150002, x150003, x150004 => if x5 < (x0.length : Int) then (if 0 ≤ x5 then (if rdOf false x0 x5 = true then (if x4.length < 140737488355328 then (milestonelaw14_LinkMisses.l0 k x0 (x4 ++ [false]) (wrap64 (x5 + 1)) x150000 x150001 x150002 x150003 x150004) else (none)) else (if x4.length < 140737488355328 then ((some (x4 ++ [true] : List Bool)).bind fun y154 => ((link_Link_Hello.f x150000 x150001 x150002 x150003 x150004 (IntKind.u64.wrap (x5)) (IntKind.u64.wrap (wrap64 (2 * x5)))).bind fun bt157 => (milestonelaw14_LinkMisses.l1 k x0 y154 x5 0 0 (wrap64 ((y154.length : Int) - 1)) bt157.1 bt157.2.1 bt157.2.2.1 bt157.2.2.2.1 bt157.2.2.2.2))) else (none))) else (none)) else (some true)
def milestonelaw14_LinkMisses.l1 : Nat → List Bool → List Bool → Int → Int → Int → Int → Int → Int → Int → Int → Int → Option (Bool)
  | 0, _, _, _, _, _, _, _, _, _, _, _ => none
  | k + 1, x0, x4, x5, x6, x7, x8, x150000, x150001, x150002, x150003, x150004 => if x8 ≥ 0 then (milestonelaw14_LinkMisses.j3 k x0 x4 x5 x6 x7 x8 (decide (x8 ≥ (wrap64 ((x4.length : Int) - 3)))) x150000 x150001 x150002 x150003 x150004) else (milestonelaw14_LinkMisses.j3 k x0 x4 x5 x6 x7 x8 false x150000 x150001 x150002 x150003 x150004)
def milestonelaw14_LinkMisses.j3 : Nat → List Bool → List Bool → Int → Int → Int → Int → Bool → Int → Int → Int → Int → Int → Option (Bool)
  | 0, _, _, _, _, _, _, _, _, _, _, _, _ => none
  | k + 1, x0, x4, x5, x6, x7, x8, x53, x150000, x150001, x150002, x150003, x150004 => if x53 = true then (if 0 ≤ x8 then (if x8 < (x4.length : Int) then (if rdOf false x4 x8 = true then (milestonelaw14_LinkMisses.l1 k x0 x4 x5 (wrap64 (x6 + 1)) x7 (wrap64 (x8 - 1)) x150000 x150001 x150002 x150003 x150004) else (milestonelaw14_LinkMisses.l1 k x0 x4 x5 x6 x7 (wrap64 (x8 - 1)) x150000 x150001 x150002 x150003 x150004)) else (none)) else (none)) else (milestonelaw14_LinkMisses.l2 k x0 x4 x5 x6 x7 (wrap64 ((x4.length : Int) - 2)) x150000 x150001 x150002 x150003 x150004)
def milestonelaw14_LinkMisses.j5 : Nat → List Bool → List Bool → Int → Int → Int → Int → Int → Int → Int → Int → Option (Bool)
  | 0, _, _, _, _, _, _, _, _, _, _ => none
  | k + 1, x0, x4, x5, x6, x7, x150000, x150001, x150002, x150003, x150004 => if x7 ≥ 16 then (milestonelaw14_LinkMisses.j6 k x0 x4 x5 1 x150000 x150001 x150002 x150003 x150004) else (milestonelaw14_LinkMisses.j6 k x0 x4 x5 x6 x150000 x150001 x150002 x150003 x150004)
def milestonelaw14_LinkMisses.j6 : Nat → List Bool → List Bool → Int → Int → Int → Int → Int → Int → Int → Option (Bool)
  | 0, _, _, _, _, _, _, _, _, _ => none
  | k + 1, x0, x4, x5, x6, x150000, x150001, x150002, x150003, x150004 => (link_Link_Receives.f x150000 x150001 x150002 x150003 x150004).bind fun bt164 => (if ((bt164.1 == 96) != (decide (x6 ≥ 2))) = true then (some false) else ((link_Link_Alive.f bt164.2.1 bt164.2.2.1 bt164.2.2.2.1 bt164.2.2.2.2.1 bt164.2.2.2.2.2).bind fun bt170 => (if bt170.1 = true then (milestonelaw14_LinkMisses.l0 k x0 x4 (wrap64 (x5 + 1)) bt170.2.1 bt170.2.2.1 bt170.2.2.2.1 bt170.2.2.2.2.1 bt170.2.2.2.2.2) else (some false))))
def milestonelaw14_LinkMisses.l2 : Nat → List Bool → List Bool → Int → Int → Int → Int → Int → Int → Int → Int → Int → Option (Bool)
  | 0, _, _, _, _, _, _, _, _, _, _, _ => none
  | k + 1, x0, x4, x5, x6, x7, x9, x150000, x150001, x150002, x150003, x150004 => if x9 ≥ 0 then (if 0 ≤ x9 then (if x9 < (x4.length : Int) then (if rdOf false x4 x9 = true then (milestonelaw14_LinkMisses.j5 k x0 x4 x5 x6 x7 x150000 x150001 x150002 x150003 x150004) else (milestonelaw14_LinkMisses.l2 k x0 x4 x5 x6 (wrap64 (x7 + 1)) (wrap64 (x9 - 1)) x150000 x150001 x150002 x150003 x150004)) else (none)) else (none)) else (milestonelaw14_LinkMisses.j5 k x0 x4 x5 x6 x7 x150000 x150001 x150002 x150003 x150004)
end
def milestonelaw14_LinkMisses.f (k : Nat) (l0 : List Bool) : Option (Bool) := (milestonelaw14_awake.f).bind fun t142 => (if t142 = true then (milestonelaw14_LinkMisses.j0 k l0 (decide ((l0.length : Int) > 60))) else (milestonelaw14_LinkMisses.j0 k l0 true))
theorem milestonelaw14_LinkMisses.mono_l : ∀ k, (∀ y0 y1, LeO (milestonelaw14_LinkMisses.j0 k y0 y1) (milestonelaw14_LinkMisses.j0 (k + 1) y0 y1)) ∧ (∀ y0 y1 y2 y3 y4 y5 y6 y7, LeO (milestonelaw14_LinkMisses.l0 k y0 y1 y2 y3 y4 y5 y6 y7) (milestonelaw14_LinkMisses.l0 (k + 1) y0 y1 y2 y3 y4 y5 y6 y7)) ∧ (∀ y0 y1 y2 y3 y4 y5 y6 y7 y8 y9 y10, LeO (milestonelaw14_LinkMisses.l1 k y0 y1 y2 y3 y4 y5 y6 y7 y8 y9 y10) (milestonelaw14_LinkMisses.l1 (k + 1) y0 y1 y2 y3 y4 y5 y6 y7 y8 y9 y10)) ∧ (∀ y0 y1 y2 y3 y4 y5 y6 y7 y8 y9 y10 y11, LeO (milestonelaw14_LinkMisses.j3 k y0 y1 y2 y3 y4 y5 y6 y7 y8 y9 y10 y11) (milestonelaw14_LinkMisses.j3 (k + 1) y0 y1 y2 y3 y4 y5 y6 y7 y8 y9 y10 y11)) ∧ (∀ y0 y1 y2 y3 y4 y5 y6 y7 y8 y9, LeO (milestonelaw14_LinkMisses.j5 k y0 y1 y2 y3 y4 y5 y6 y7 y8 y9) (milestonelaw14_LinkMisses.j5 (k + 1) y0 y1 y2 y3 y4 y5 y6 y7 y8 y9)) ∧ (∀ y0 y1 y2 y3 y4 y5 y6 y7 y8, LeO (milestonelaw14_LinkMisses.j6 k y0 y1 y2 y3 y4 y5 y6 y7 y8) (milestonelaw14_LinkMisses.j6 (k + 1) y0 y1 y2 y3 y4 y5 y6 y7 y8)) ∧ (∀ y0 y1 y2 y3 y4 y5 y6 y7 y8 y9 y10, LeO (milestonelaw14_LinkMisses.l2 k y0 y1 y2 y3 y4 y5 y6 y7 y8 y9 y10) (milestonelaw14_LinkMisses.l2 (k + 1) y0 y1 y2 y3 y4 y5 y6 y7 y8 y9 y10))
  | 0 => ⟨fun _ _ r h => by simp [milestonelaw14_LinkMisses.j0] at h, fun _ _ _ _ _ _ _ _ r h => by simp [milestonelaw14_LinkMisses.l0] at h, fun _ _ _ _ _ _ _ _ _ _ _ r h => by simp [milestonelaw14_LinkMisses.l1] at h, fun _ _ _ _ _ _ _ _ _ _ _ _ r h => by simp [milestonelaw14_LinkMisses.j3] at h, fun _ _ _ _ _ _ _ _ _ _ r h => by simp [milestonelaw14_LinkMisses.j5] at h, fun _ _ _ _ _ _ _ _ _ r h => by simp [milestonelaw14_LinkMisses.j6] at h, fun _ _ _ _ _ _ _ _ _ _ _ r h => by simp [milestonelaw14_LinkMisses.l2] at h⟩
  | k + 1 => by
    obtain ⟨ih0, ih1, ih2, ih3, ih4, ih5, ih6⟩ := milestonelaw14_LinkMisses.mono_l k
    refine ⟨?_, ?_, ?_, ?_, ?_, ?_, ?_⟩
    · intro y0 y1
      unfold milestonelaw14_LinkMisses.j0
      repeat' first
      | (with_reducible exact ih0 _ _)
      | (with_reducible exact ih1 _ _ _ _ _ _ _ _)
      | (with_reducible exact ih2 _ _ _ _ _ _ _ _ _ _ _)
      | (with_reducible exact ih3 _ _ _ _ _ _ _ _ _ _ _ _)
      | (with_reducible exact ih4 _ _ _ _ _ _ _ _ _ _)
      | (with_reducible exact ih5 _ _ _ _ _ _ _ _ _)
      | (with_reducible exact ih6 _ _ _ _ _ _ _ _ _ _ _)
      | (with_reducible exact LeO.refl _)
      | (with_reducible exact LeO.none _)
      | (with_reducible refine LeO.ite ?_ ?_)
      | (with_reducible refine LeO.bind ?_ (fun _ => ?_))
      | exact ih0 _ _
      | exact ih1 _ _ _ _ _ _ _ _
      | exact ih2 _ _ _ _ _ _ _ _ _ _ _
      | exact ih3 _ _ _ _ _ _ _ _ _ _ _ _
      | exact ih4 _ _ _ _ _ _ _ _ _ _
      | exact ih5 _ _ _ _ _ _ _ _ _
      | exact ih6 _ _ _ _ _ _ _ _ _ _ _
      | exact LeO.none _
      | refine LeO.ite ?_ ?_
      | refine LeO.bind ?_ (fun _ => ?_)
    · intro y0 y1 y2 y3 y4 y5 y6 y7
      unfold milestonelaw14_LinkMisses.l0
      repeat' first
      | (with_reducible exact ih0 _ _)
      | (with_reducible exact ih1 _ _ _ _ _ _ _ _)
      | (with_reducible exact ih2 _ _ _ _ _ _ _ _ _ _ _)
      | (with_reducible exact ih3 _ _ _ _ _ _ _ _ _ _ _ _)
      | (with_reducible exact ih4 _ _ _ _ _ _ _ _ _ _)
      | (with_reducible exact ih5 _ _ _ _ _ _ _ _ _)
      | (with_reducible exact ih6 _ _ _ _ _ _ _ _ _ _ _)
      | (with_reducible exact LeO.refl _)
      | (with_reducible exact LeO.none _)
      | (with_reducible refine LeO.ite ?_ ?_)
      | (with_reducible refine LeO.bind ?_ (fun _ => ?_))
      | exact ih0 _ _
      | exact ih1 _ _ _ _ _ _ _ _
      | exact ih2 _ _ _ _ _ _ _ _ _ _ _
      | exact ih3 _ _ _ _ _ _ _ _ _ _ _ _
      | exact ih4 _ _ _ _ _ _ _ _ _ _
      | exact ih5 _ _ _ _ _ _ _ _ _
      | exact ih6 _ _ _ _ _ _ _ _ _ _ _
      | exact LeO.none _
      | refine LeO.ite ?_ ?_
      | refine LeO.bind ?_ (fun _ => ?_)
    · intro y0 y1 y2 y3 y4 y5 y6 y7 y8 y9 y10
      unfold milestonelaw14_LinkMisses.l1
      repeat' first
      | (with_reducible exact ih0 _ _)
      | (with_reducible exact ih1 _ _ _ _ _ _ _ _)
      | (with_reducible exact ih2 _ _ _ _ _ _ _ _ _ _ _)
      | (with_reducible exact ih3 _ _ _ _ _ _ _ _ _ _ _ _)
      | (with_reducible exact ih4 _ _ _ _ _ _ _ _ _ _)
      | (with_reducible exact ih5 _ _ _ _ _ _ _ _ _)
      | (with_reducible exact ih6 _ _ _ _ _ _ _ _ _ _ _)
      | (with_reducible exact LeO.refl _)
      | (with_reducible exact LeO.none _)
      | (with_reducible refine LeO.ite ?_ ?_)
      | (with_reducible refine LeO.bind ?_ (fun _ => ?_))
      | exact ih0 _ _
      | exact ih1 _ _ _ _ _ _ _ _
      | exact ih2 _ _ _ _ _ _ _ _ _ _ _
      | exact ih3 _ _ _ _ _ _ _ _ _ _ _ _
      | exact ih4 _ _ _ _ _ _ _ _ _ _
      | exact ih5 _ _ _ _ _ _ _ _ _
      | exact ih6 _ _ _ _ _ _ _ _ _ _ _
      | exact LeO.none _
      | refine LeO.ite ?_ ?_
      | refine LeO.bind ?_ (fun _ => ?_)
    · intro y0 y1 y2 y3 y4 y5 y6 y7 y8 y9 y10 y11
      unfold milestonelaw14_LinkMisses.j3
      repeat' first
      | (with_reducible exact ih0 _ _)
      | (with_reducible exact ih1 _ _ _ _ _ _ _ _)
      | (with_reducible exact ih2 _ _ _ _ _ _ _ _ _ _ _)
      | (with_reducible exact ih3 _ _ _ _ _ _ _ _ _ _ _ _)
      | (with_reducible exact ih4 _ _ _ _ _ _ _ _ _ _)
      | (with_reducible exact ih5 _ _ _ _ _ _ _ _ _)
      | (with_reducible exact ih6 _ _ _ _ _ _ _ _ _ _ _)
      | (with_reducible exact LeO.refl _)
      | (with_reducible exact LeO.none _)
      | (with_reducible refine LeO.ite ?_ ?_)
      | (with_reducible refine LeO.bind ?_ (fun _ => ?_))
      | exact ih0 _ _
      | exact ih1 _ _ _ _ _ _ _ _
      | exact ih2 _ _ _ _ _ _ _ _ _ _ _
      | exact ih3 _ _ _ _ _ _ _ _ _ _ _ _
      | exact ih4 _ _ _ _ _ _ _ _ _ _
      | exact ih5 _ _ _ _ _ _ _ _ _
      | exact ih6 _ _ _ _ _ _ _ _ _ _ _
      | exact LeO.none _
      | refine LeO.ite ?_ ?_
      | refine LeO.bind ?_ (fun _ => ?_)
    · intro y0 y1 y2 y3 y4 y5 y6 y7 y8 y9
      unfold milestonelaw14_LinkMisses.j5
      repeat' first
      | (with_reducible exact ih0 _ _)
      | (with_reducible exact ih1 _ _ _ _ _ _ _ _)
      | (with_reducible exact ih2 _ _ _ _ _ _ _ _ _ _ _)
      | (with_reducible exact ih3 _ _ _ _ _ _ _ _ _ _ _ _)
      | (with_reducible exact ih4 _ _ _ _ _ _ _ _ _ _)
      | (with_reducible exact ih5 _ _ _ _ _ _ _ _ _)
      | (with_reducible exact ih6 _ _ _ _ _ _ _ _ _ _ _)
      | (with_reducible exact LeO.refl _)
      | (with_reducible exact LeO.none _)
      | (with_reducible refine LeO.ite ?_ ?_)
      | (with_reducible refine LeO.bind ?_ (fun _ => ?_))
      | exact ih0 _ _
      | exact ih1 _ _ _ _ _ _ _ _
      | exact ih2 _ _ _ _ _ _ _ _ _ _ _
      | exact ih3 _ _ _ _ _ _ _ _ _ _ _ _
      | exact ih4 _ _ _ _ _ _ _ _ _ _
      | exact ih5 _ _ _ _ _ _ _ _ _
      | exact ih6 _ _ _ _ _ _ _ _ _ _ _
      | exact LeO.none _
      | refine LeO.ite ?_ ?_
      | refine LeO.bind ?_ (fun _ => ?_)
    · intro y0 y1 y2 y3 y4 y5 y6 y7 y8
      unfold milestonelaw14_LinkMisses.j6
      repeat' first
      | (with_reducible exact ih0 _ _)
      | (with_reducible exact ih1 _ _ _ _ _ _ _ _)
      | (with_reducible exact ih2 _ _ _ _ _ _ _ _ _ _ _)
      | (with_reducible exact ih3 _ _ _ _ _ _ _ _ _ _ _ _)
      | (with_reducible exact ih4 _ _ _ _ _ _ _ _ _ _)
      | (with_reducible exact ih5 _ _ _ _ _ _ _ _ _)
      | (with_reducible exact ih6 _ _ _ _ _ _ _ _ _ _ _)
      | (with_reducible exact LeO.refl _)
      | (with_reducible exact LeO.none _)
      | (with_reducible refine LeO.ite ?_ ?_)
      | (with_reducible refine LeO.bind ?_ (fun _ => ?_))
      | exact ih0 _ _
      | exact ih1 _ _ _ _ _ _ _ _
      | exact ih2 _ _ _ _ _ _ _ _ _ _ _
      | exact ih3 _ _ _ _ _ _ _ _ _ _ _ _
      | exact ih4 _ _ _ _ _ _ _ _ _ _
      | exact ih5 _ _ _ _ _ _ _ _ _
      | exact ih6 _ _ _ _ _ _ _ _ _ _ _
      | exact LeO.none _
      | refine LeO.ite ?_ ?_
      | refine LeO.bind ?_ (fun _ => ?_)
    · intro y0 y1 y2 y3 y4 y5 y6 y7 y8 y9 y10
      unfold milestonelaw14_LinkMisses.l2
      repeat' first
      | (with_reducible exact ih0 _ _)
      | (with_reducible exact ih1 _ _ _ _ _ _ _ _)
      | (with_reducible exact ih2 _ _ _ _ _ _ _ _ _ _ _)
      | (with_reducible exact ih3 _ _ _ _ _ _ _ _ _ _ _ _)
      | (with_reducible exact ih4 _ _ _ _ _ _ _ _ _ _)
      | (with_reducible exact ih5 _ _ _ _ _ _ _ _ _)
      | (with_reducible exact ih6 _ _ _ _ _ _ _ _ _ _ _)
      | (with_reducible exact LeO.refl _)
      | (with_reducible exact LeO.none _)
      | (with_reducible refine LeO.ite ?_ ?_)
      | (with_reducible refine LeO.bind ?_ (fun _ => ?_))
      | exact ih0 _ _
      | exact ih1 _ _ _ _ _ _ _ _
      | exact ih2 _ _ _ _ _ _ _ _ _ _ _
      | exact ih3 _ _ _ _ _ _ _ _ _ _ _ _
      | exact ih4 _ _ _ _ _ _ _ _ _ _
      | exact ih5 _ _ _ _ _ _ _ _ _
      | exact ih6 _ _ _ _ _ _ _ _ _ _ _
      | exact LeO.none _
      | refine LeO.ite ?_ ?_
      | refine LeO.bind ?_ (fun _ => ?_)
theorem milestonelaw14_LinkMisses.mono : ∀ a0 k, LeO (milestonelaw14_LinkMisses.f k a0) (milestonelaw14_LinkMisses.f (k + 1) a0) := by
  intro a0 k
  obtain ⟨ih0, ih1, ih2, ih3, ih4, ih5, ih6⟩ := milestonelaw14_LinkMisses.mono_l k
  unfold milestonelaw14_LinkMisses.f
  repeat' first
      | (with_reducible exact ih0 _ _)
      | (with_reducible exact ih1 _ _ _ _ _ _ _ _)
      | (with_reducible exact ih2 _ _ _ _ _ _ _ _ _ _ _)
      | (with_reducible exact ih3 _ _ _ _ _ _ _ _ _ _ _ _)
      | (with_reducible exact ih4 _ _ _ _ _ _ _ _ _ _)
      | (with_reducible exact ih5 _ _ _ _ _ _ _ _ _)
      | (with_reducible exact ih6 _ _ _ _ _ _ _ _ _ _ _)
      | (with_reducible exact LeO.refl _)
      | (with_reducible exact LeO.none _)
      | (with_reducible refine LeO.ite ?_ ?_)
      | (with_reducible refine LeO.bind ?_ (fun _ => ?_))
      | exact ih0 _ _
      | exact ih1 _ _ _ _ _ _ _ _
      | exact ih2 _ _ _ _ _ _ _ _ _ _ _
      | exact ih3 _ _ _ _ _ _ _ _ _ _ _ _
      | exact ih4 _ _ _ _ _ _ _ _ _ _
      | exact ih5 _ _ _ _ _ _ _ _ _
      | exact ih6 _ _ _ _ _ _ _ _ _ _ _
      | exact LeO.none _
      | refine LeO.ite ?_ ?_
      | refine LeO.bind ?_ (fun _ => ?_)
set_option maxHeartbeats 8000000 in
set_option maxRecDepth 100000 in
theorem milestonelaw14_LinkMisses.calls (k : Nat) (A0 : Option Addr) (c0 : Nat) (l0 : List Bool) (r : Bool) (w : World) (hr0 : Kd.C Kd.bool w A0 l0.length l0) (hc0 : l0.length ≤ c0) (h : milestonelaw14_LinkMisses.f k l0 = some r) :
    Calls Try.prog 3 #[.slice A0 l0.length c0] w fun e w' => e = .returned (.bool r) ∧ Below w.heap.size w w' := by
  have HR0 := Aside0.mk hr0
  have HC0 := Aside0.mk hc0
  clear hr0 hc0
  have HB := Aside0.mk (Below.refl w.heap.size w)
  have H : ((milestonelaw14_awake.f).bind fun t142 => (if t142 = true then (milestonelaw14_LinkMisses.j0 k l0 (decide ((l0.length : Int) > 60))) else (milestonelaw14_LinkMisses.j0 k l0 true))) = some r := h
  clear h
  have HC2 := Aside0.mk H
  clear H
  go_enter Try.func3, Try.ntmps3
  go_upto_region 1 with (fail)
  go_cut [16] (fun v16 wc => ∃ (kq : Nat) (x16_1 : Bool), v16 = .bool x16_1 ∧ Aside0 (milestonelaw14_LinkMisses.j0 kq l0 x16_1 = some r) ∧ Aside0 (kq ≤ k) ∧ Aside0 (Below w.heap.size w wc))
  case first =>
    have H := HC2.out
    clear HC2
    replace H := Option.bind_eq_some_iff.mp H
    obtain ⟨t142, A30, H⟩ := H
    replace H : (if t142 = true then (milestonelaw14_LinkMisses.j0 k l0 (decide ((l0.length : Int) > 60))) else (milestonelaw14_LinkMisses.j0 k l0 true)) = some r := H
    have A3 := Aside0.mk A30
    clear A30
    by_cases c4 : t142 = true
    · subst c4
      have H1 : (milestonelaw14_LinkMisses.j0 k l0 (decide ((l0.length : Int) > 60))) = some r := by rw [if_pos rfl] at H; exact H
      clear H
      have H := H1
      clear H1
      have H' := Aside0.mk H
      clear H
      go_wp2_with (first | ((with_reducible refine gate_callee (f := 8) rfl ?_); refine goesL_ (some 10) rfl rfl Try.func8 (by kernel_rfl) rfl #[] rfl (by (try simp only [List.map_toArray, List.map_cons, List.map_nil]); first | done | rfl | (simp only [List.length_drop, List.length_take]; rfl) | (simp; done) | (refine qa_arr ?_; (repeat' (first | rfl | refine qa_cons ?_ ?_ | refine qa_int ?_ | refine qa_agg ?_ | refine qa_arr ?_ | omega)); done)) ?_; (with_reducible refine (milestonelaw14_awake.calls  true _ A3.out).mono ?_); rintro e w5 ⟨rfl, hb⟩; refine ⟨_, rfl, ?_⟩; have n0_ := Aside0.mk (below_step (by repeat (first | (with_reducible first | exact HB.out | apply below_alloc | apply pw_below_drewN | apply below_drew1) | exact HB.out)) hb); clear HB; have HB := n0_; clear n0_; (try clear hb); (try clear hb2); (try clear hk); (try clear hi)))
      go_meet
      case rel => exact ⟨_, (decide ((l0.length : Int) > 60)), (by first | rfl | (simp; done) | (simp [*]; done) | (refine qa_int ?_; omega) | (refine qa_int ?_; simp <;> omega)), H', ⟨by first | omega | exact Nat.le_refl _⟩, ⟨by repeat (first | (with_reducible first | exact HB.out | apply below_alloc | apply pw_below_drewN | apply below_drew1) | exact HB.out)⟩⟩
    · replace c4 := Bool.eq_false_iff.mpr c4
      subst c4
      have H1 : (milestonelaw14_LinkMisses.j0 k l0 true) = some r := by rw [if_neg (show ¬ (false = true) by decide)] at H; exact H
      clear H
      have H := H1
      clear H1
      have H' := Aside0.mk H
      clear H
      go_wp2_with (first | ((with_reducible refine gate_callee (f := 8) rfl ?_); refine goesL_ (some 10) rfl rfl Try.func8 (by kernel_rfl) rfl #[] rfl (by (try simp only [List.map_toArray, List.map_cons, List.map_nil]); first | done | rfl | (simp only [List.length_drop, List.length_take]; rfl) | (simp; done) | (refine qa_arr ?_; (repeat' (first | rfl | refine qa_cons ?_ ?_ | refine qa_int ?_ | refine qa_agg ?_ | refine qa_arr ?_ | omega)); done)) ?_; (with_reducible refine (milestonelaw14_awake.calls  false _ A3.out).mono ?_); rintro e w6 ⟨rfl, hb⟩; refine ⟨_, rfl, ?_⟩; have n0_ := Aside0.mk (below_step (by repeat (first | (with_reducible first | exact HB.out | apply below_alloc | apply pw_below_drewN | apply below_drew1) | exact HB.out)) hb); clear HB; have HB := n0_; clear n0_; (try clear hb); (try clear hb2); (try clear hk); (try clear hi)))
      go_meet
      case rel => exact ⟨_, (true), (by first | rfl | (simp; done) | (simp [*]; done) | (refine qa_int ?_; omega) | (refine qa_int ?_; simp <;> omega)), H', ⟨by first | omega | exact Nat.le_refl _⟩, ⟨by repeat (first | (with_reducible first | exact HB.out | apply below_alloc | apply pw_below_drewN | apply below_drew1) | exact HB.out)⟩⟩
  case rest =>
    clear HC2
    try clear p2
    try clear c3
    try clear c4
    obtain ⟨kq, x16_1, rfl, HA, HJ1, HB⟩ := hcut
    cases kq with
    | zero => exact absurd HA.out (by simp [milestonelaw14_LinkMisses.j0])
    | succ kj1 =>
      have H := HA.out
      clear HA
      simp only [milestonelaw14_LinkMisses.j0] at H
      by_cases c7 : x16_1 = true
      · subst c7
        have H1 : ((milestonelaw14_awake.f).bind fun t143 => (some t143)) = some r := by rw [if_pos rfl] at H; exact H
        clear H
        have H := H1
        clear H1
        replace H := Option.bind_eq_some_iff.mp H
        obtain ⟨t143, A80, H⟩ := H
        replace H : (some t143) = some r := H
        have A8 := Aside0.mk A80
        clear A80
        obtain rfl := Option.some.inj H
        go_wp2_with (first | ((with_reducible refine gate_callee (f := 8) rfl ?_); refine goesL_ (some 17) rfl rfl Try.func8 (by kernel_rfl) rfl #[] rfl (by (try simp only [List.map_toArray, List.map_cons, List.map_nil]); first | done | rfl | (simp only [List.length_drop, List.length_take]; rfl) | (simp; done) | (refine qa_arr ?_; (repeat' (first | rfl | refine qa_cons ?_ ?_ | refine qa_int ?_ | refine qa_agg ?_ | refine qa_arr ?_ | omega)); done)) ?_; (with_reducible refine (milestonelaw14_awake.calls  t143 _ A8.out).mono ?_); rintro e w9 ⟨rfl, hb⟩; refine ⟨_, rfl, ?_⟩; have n0_ := Aside0.mk (below_step (by repeat (first | (with_reducible first | exact HB.out | apply below_alloc | apply pw_below_drewN | apply below_drew1) | exact HB.out)) hb); clear HB; have HB := n0_; clear n0_; (try clear hb); (try clear hb2); (try clear hk); (try clear hi)))
        go_ret
        exact ⟨by first | rfl | (simp [errW_none, errW_some] <;> rfl) | (simp [*, errW_none, errW_some] <;> rfl), by repeat (first | (with_reducible first | exact HB.out | apply below_alloc | apply pw_below_drewN | apply below_drew1) | exact HB.out)⟩
      · replace c7 := Bool.eq_false_iff.mpr c7
        subst c7
        have H1 : ((link_New.f 0).bind fun bt144 => (milestonelaw14_LinkMisses.l0 kj1 l0 ([] : List Bool) 0 bt144.1 bt144.2.1 bt144.2.2.1 bt144.2.2.2.1 bt144.2.2.2.2)) = some r := by rw [if_neg (show ¬ (false = true) by decide)] at H; exact H
        clear H
        have H := H1
        clear H1
        replace H := Option.bind_eq_some_iff.mp H
        obtain ⟨⟨t144, t145, t146, t147, t148⟩, A100, H⟩ := H
        replace H : (milestonelaw14_LinkMisses.l0 kj1 l0 ([] : List Bool) 0 t144 t145 t146 t147 t148) = some r := H
        have A10 := Aside0.mk A100
        clear A100
        have H' := Aside0.mk H
        clear H
        go_wp2_with (first | ((with_reducible refine gate_callee (f := 9) rfl ?_); refine goesL_ (some 18) rfl rfl Try.func9 (by kernel_rfl) rfl #[.int .u64 0] rfl (by (try simp only [List.map_toArray, List.map_cons, List.map_nil]); first | done | rfl | (simp only [List.length_drop, List.length_take]; rfl) | (simp; done) | (refine qa_arr ?_; (repeat' (first | rfl | refine qa_cons ?_ ?_ | refine qa_int ?_ | refine qa_agg ?_ | refine qa_arr ?_ | omega)); done)) ?_; (with_reducible refine (link_New.calls 0 t144 t145 t146 t147 t148 w _ ?side1 A10.out).mono ?_); (case side1 => repeat (first | (with_reducible first | exact HB.out | apply below_alloc | apply pw_below_drewN | apply below_drew1) | exact HB.out)); rintro e w11 ⟨g149, rfl, hi, hb, hb2⟩; refine ⟨_, rfl, ?_⟩; have n0_ := Aside0.mk (hb); have n1_ := Aside0.mk (hi); clear HB; have HB := n0_; have HI149 := n1_; clear n0_ n1_; (try clear hb); (try clear hb2); (try clear hk); (try clear hi)))
        go_loopg [4, 5] kj1 (fun kq v4 v5 w' => ∃ (x4_2 : List Bool) (x5_2 : Int) (x150000_2 : Int) (x150001_2 : Int) (x150002_2 : Int) (x150003_2 : Int) (x150004_2 : Int), v5 = .int .i64 x5_2 ∧ Aside0 (milestonelaw14_LinkMisses.l0 kq l0 x4_2 x5_2 x150000_2 x150001_2 x150002_2 x150003_2 x150004_2 = some r) ∧ Aside0 (kq ≤ kj1) ∧ Aside0 (Kd.R Kd.bool 4 w' w.heap.size (fun _ => True) v4 x4_2) ∧ Aside0 (IsS41 w w' g149 x150000_2 x150001_2 x150002_2 x150003_2 x150004_2) ∧ Aside0 (Below w.heap.size w w'))
        case atStart => exact ⟨(([] : List Bool)), (0), (t144), (t145), (t146), (t147), (t148), (by first | rfl | (simp; done) | (simp [*]; done) | (refine qa_int ?_; omega) | (refine qa_int ?_; simp <;> omega)), H', ⟨Nat.le_refl _⟩, ⟨by first | exact Kd.R_nil _ _ _ _ _ | exact Kd.N_nil _ _ _ _ _ | exact Kd.V_nil _ _ _ _ _ | exact Kd.Q_nil _ _ _ _ _ | exact Kd.S_nil _ _ _ _ _⟩, ⟨by repeat (first | (with_reducible first | exact HI149.out | apply IsS41.alloc | apply IsS41.drewN | apply IsS41.drew | apply IsS41.set_0 | apply IsS41.set_1 | apply IsS41.set_2 | apply IsS41.set_3 | apply IsS41.set_4) | exact HI149.out)⟩, ⟨by repeat (first | (with_reducible first | exact HB.out | apply below_alloc | apply pw_below_drewN | apply below_drew1 | refine below_set ?_ (IsS41.ge HI149.out)) | exact HB.out)⟩⟩
        case round =>
          clear H'
          try clear p2
          try clear c3
          try clear c4
          try clear c7
          try clear c8
          try clear c9
          try clear p2
          obtain ⟨x4_2, x5_2, x150000_2, x150001_2, x150002_2, x150003_2, x150004_2, rfl, HA, HK2, HO_4, HI149, HB⟩ := hrel
          cases gk with
          | zero => exact absurd HA.out (by simp [milestonelaw14_LinkMisses.l0])
          | succ k2 =>
            have H := HA.out
            clear HA
            simp only [milestonelaw14_LinkMisses.l0] at H
            by_cases c12 : x5_2 < (l0.length : Int)
            · rw [if_pos c12] at H
              have c12b0 : decide (x5_2 < (l0.length : Int)) = true := decide_eq_true c12
              clear c12
              by_cases c13 : 0 ≤ x5_2
              · rw [if_pos c13] at H
                have c13b0 : decide (0 ≤ x5_2) = true := decide_eq_true c13
                clear c13
                obtain ⟨bq14, hbq14⟩ : ∃ b_ : Bool, b_ = (rdOf false l0 x5_2) := ⟨_, rfl⟩
                replace H : (if bq14 = true then (if x4_2.length < 140737488355328 then (milestonelaw14_LinkMisses.l0 k2 l0 (x4_2 ++ [false]) (wrap64 (x5_2 + 1)) x150000_2 x150001_2 x150002_2 x150003_2 x150004_2) else (none)) else (if x4_2.length < 140737488355328 then ((some (x4_2 ++ [true] : List Bool)).bind fun y154 => ((link_Link_Hello.f x150000_2 x150001_2 x150002_2 x150003_2 x150004_2 (IntKind.u64.wrap (x5_2)) (IntKind.u64.wrap (wrap64 (2 * x5_2)))).bind fun bt157 => (milestonelaw14_LinkMisses.l1 k2 l0 y154 x5_2 0 0 (wrap64 ((y154.length : Int) - 1)) bt157.1 bt157.2.1 bt157.2.2.1 bt157.2.2.2.1 bt157.2.2.2.2))) else (none))) = some r := by rw [← hbq14] at H; exact H
                have Nbq14 := Aside0.mk hbq14
                clear hbq14
                by_cases c15 : bq14 = true
                · subst c15
                  have H1 : (if x4_2.length < 140737488355328 then (milestonelaw14_LinkMisses.l0 k2 l0 (x4_2 ++ [false]) (wrap64 (x5_2 + 1)) x150000_2 x150001_2 x150002_2 x150003_2 x150004_2) else (none)) = some r := by rw [if_pos rfl] at H; exact H
                  clear H
                  have H := H1
                  clear H1
                  by_cases c16 : x4_2.length < 140737488355328
                  · rw [if_pos c16] at H
                    have LMc16 := Aside0.mk c16
                    clear c16
                    obtain ⟨y151, hy151⟩ : ∃ y_ : List Bool, y_ = (x4_2 ++ [false]) := ⟨_, rfl⟩
                    replace H : (milestonelaw14_LinkMisses.l0 k2 l0 y151 (wrap64 (x5_2 + 1)) x150000_2 x150001_2 x150002_2 x150003_2 x150004_2) = some r := by first | (rw [hy151]; with_reducible exact H) | (have H2_ := (Option.bind_some _ _).symm.trans H; rw [hy151]; with_reducible exact H2_) | (have H2_ := (Option.bind_some _ _).symm.trans H; with_reducible exact H2_) | with_reducible exact H | (rw [hy151]; exact H) | exact H
                    have Ny151 := Aside0.mk hy151
                    clear hy151
                    have H' := Aside0.mk H
                    clear H
                    have p150 : 0 ≤ (x5_2 : Int) := of_decide_eq_true (by first | (with_reducible assumption) | assumption)
                    have q150 : x5_2 < (l0.length : Int) := of_decide_eq_true (by first | (with_reducible assumption) | assumption)
                    obtain ⟨ad150, e150, hx150_0⟩ := Kd.at_bool HR0.out x5_2 p150 q150
                    (try rw [← Nbq14.out] at hx150_0)
                    cases e150
                    replace hx150_0 := (HB.out.cell (World.block_lt_of_cell? w _ hx150_0)).trans hx150_0
                    replace p150 := eq_true p150
                    replace q150 := eq_true q150
                    go_wp2_with (first | ((with_reducible refine gate_builtin (b := .append) (xs := #[.tmp 29, .tmp 30]) rfl ?_); (try (refine gate_guard (by rfl) ?_; dsimp only)); at_builtin; refine Kd.R_append Kd.bool (w0 := w) w.heap.size rfl (.tmp 29) (.tmp 30) 22 4 (.bool false) 1 rfl Try.underlying22 info4 rfl (by decide) (by omega) u4 x4_2 false [.bool false] (fun _ => True) (fun _ => False) rfl rfl ?aP (fun _ hk => hk.elim) ?aF ?aO ?aB ?aS ?aL ?_; (case aP => exact rfl); (case aB => exact (by repeat (first | (with_reducible first | exact HB.out | apply below_alloc | apply pw_below_drewN | apply below_drew1 | refine below_set ?_ (IsS41.ge HI149.out)) | exact HB.out))); (case aF => exact (fun _ _ => trivial)); (case aO => exact (by (with_reducible repeat (first | apply Kd.R_alloc | apply Kd.R_drewN | apply Kd.R_drew)); exact HO_4.out)); (case aS => exact (below_size (by repeat (first | (with_reducible first | exact HB.out | apply below_alloc | apply pw_below_drewN | apply below_drew1 | refine below_set ?_ (IsS41.ge HI149.out)) | exact HB.out)))); (case aL => have := LMc16.out; omega); intro v152 w17 ho hb hg hat; rw [← Ny151.out] at ho; have n0_ := Aside0.mk (IsS41.grown (by repeat (first | (with_reducible first | exact HI149.out | apply IsS41.alloc | apply IsS41.drewN | apply IsS41.drew | apply IsS41.set_0 | apply IsS41.set_1 | apply IsS41.set_2 | apply IsS41.set_3 | apply IsS41.set_4) | exact HI149.out)) hg (IsS41.own_ne HI149.out HO_4.out (by decide))); have n1_ := Aside0.mk (hb); have n2_ := Aside0.mk (ho); clear HI149; clear HB; clear HO_4; have HI149 := n0_; have HB := n1_; have HO153 := n2_; clear n0_ n1_ n2_; clear ho hb hg hat))
                    go_roundg k2
                    case measure => have := HJ1.out; have := HK2.out; omega
                    case rel => exact ⟨(y151), (wrap64 (x5_2 + 1)), (x150000_2), (x150001_2), (x150002_2), (x150003_2), (x150004_2), (by first | rfl | (simp; done) | (simp [*]; done) | (refine qa_int ?_; omega) | (refine qa_int ?_; simp <;> omega)), H', ⟨by have := HJ1.out; have := HK2.out; omega⟩, ⟨by (with_reducible repeat (first | apply Kd.R_alloc | apply Kd.R_drewN | apply Kd.R_drew)); exact HO153.out⟩, ⟨by repeat (first | (with_reducible first | exact HI149.out | apply IsS41.alloc | apply IsS41.drewN | apply IsS41.drew | apply IsS41.set_0 | apply IsS41.set_1 | apply IsS41.set_2 | apply IsS41.set_3 | apply IsS41.set_4) | exact HI149.out)⟩, ⟨by repeat (first | (with_reducible first | exact HB.out | apply below_alloc | apply pw_below_drewN | apply below_drew1 | refine below_set ?_ (IsS41.ge HI149.out)) | exact HB.out)⟩⟩
                  · rw [if_neg c16] at H
                    exact absurd H (by simp)
                · replace c15 := Bool.eq_false_iff.mpr c15
                  subst c15
                  have H1 : (if x4_2.length < 140737488355328 then ((some (x4_2 ++ [true] : List Bool)).bind fun y154 => ((link_Link_Hello.f x150000_2 x150001_2 x150002_2 x150003_2 x150004_2 (IntKind.u64.wrap (x5_2)) (IntKind.u64.wrap (wrap64 (2 * x5_2)))).bind fun bt157 => (milestonelaw14_LinkMisses.l1 k2 l0 y154 x5_2 0 0 (wrap64 ((y154.length : Int) - 1)) bt157.1 bt157.2.1 bt157.2.2.1 bt157.2.2.2.1 bt157.2.2.2.2))) else (none)) = some r := by rw [if_neg (show ¬ (false = true) by decide)] at H; exact H
                  clear H
                  have H := H1
                  clear H1
                  by_cases c18 : x4_2.length < 140737488355328
                  · rw [if_pos c18] at H
                    have LMc18 := Aside0.mk c18
                    clear c18
                    obtain ⟨y154, hy154⟩ : ∃ y_ : List Bool, y_ = (x4_2 ++ [true]) := ⟨_, rfl⟩
                    replace H : ((link_Link_Hello.f x150000_2 x150001_2 x150002_2 x150003_2 x150004_2 (IntKind.u64.wrap (x5_2)) (IntKind.u64.wrap (wrap64 (2 * x5_2)))).bind fun bt157 => (milestonelaw14_LinkMisses.l1 k2 l0 y154 x5_2 0 0 (wrap64 ((y154.length : Int) - 1)) bt157.1 bt157.2.1 bt157.2.2.1 bt157.2.2.2.1 bt157.2.2.2.2)) = some r := by first | (rw [hy154]; with_reducible exact H) | (have H2_ := (Option.bind_some _ _).symm.trans H; rw [hy154]; with_reducible exact H2_) | (have H2_ := (Option.bind_some _ _).symm.trans H; with_reducible exact H2_) | with_reducible exact H | (rw [hy154]; exact H) | exact H
                    have Ny154 := Aside0.mk hy154
                    clear hy154
                    replace H := Option.bind_eq_some_iff.mp H
                    obtain ⟨⟨t157, t158, t159, t160, t161⟩, A190, H⟩ := H
                    replace H : (milestonelaw14_LinkMisses.l1 k2 l0 y154 x5_2 0 0 (wrap64 ((y154.length : Int) - 1)) t157 t158 t159 t160 t161) = some r := H
                    have A19 := Aside0.mk A190
                    clear A190
                    have H' := Aside0.mk H
                    clear H
                    have p150 : 0 ≤ (x5_2 : Int) := of_decide_eq_true (by first | (with_reducible assumption) | assumption)
                    have q150 : x5_2 < (l0.length : Int) := of_decide_eq_true (by first | (with_reducible assumption) | assumption)
                    obtain ⟨ad150, e150, hx150_0⟩ := Kd.at_bool HR0.out x5_2 p150 q150
                    (try rw [← Nbq14.out] at hx150_0)
                    cases e150
                    replace hx150_0 := (HB.out.cell (World.block_lt_of_cell? w _ hx150_0)).trans hx150_0
                    replace p150 := eq_true p150
                    replace q150 := eq_true q150
                    go_wp2_with (first | ((with_reducible refine gate_builtin (b := .append) (xs := #[.tmp 32, .tmp 33]) rfl ?_); (try (refine gate_guard (by rfl) ?_; dsimp only)); at_builtin; refine Kd.R_append Kd.bool (w0 := w) w.heap.size rfl (.tmp 32) (.tmp 33) 22 4 (.bool false) 1 rfl Try.underlying22 info4 rfl (by decide) (by omega) u4 x4_2 true [.bool true] (fun _ => True) (fun _ => False) rfl rfl ?aP (fun _ hk => hk.elim) ?aF ?aO ?aB ?aS ?aL ?_; (case aP => exact rfl); (case aB => exact (by repeat (first | (with_reducible first | exact HB.out | apply below_alloc | apply pw_below_drewN | apply below_drew1 | refine below_set ?_ (IsS41.ge HI149.out)) | exact HB.out))); (case aF => exact (fun _ _ => trivial)); (case aO => exact (by (with_reducible repeat (first | apply Kd.R_alloc | apply Kd.R_drewN | apply Kd.R_drew)); exact HO_4.out)); (case aS => exact (below_size (by repeat (first | (with_reducible first | exact HB.out | apply below_alloc | apply pw_below_drewN | apply below_drew1 | refine below_set ?_ (IsS41.ge HI149.out)) | exact HB.out)))); (case aL => have := LMc18.out; omega); intro v155 w20 ho hb hg hat; rw [← Ny154.out] at ho; have n0_ := Aside0.mk (IsS41.grown (by repeat (first | (with_reducible first | exact HI149.out | apply IsS41.alloc | apply IsS41.drewN | apply IsS41.drew | apply IsS41.set_0 | apply IsS41.set_1 | apply IsS41.set_2 | apply IsS41.set_3 | apply IsS41.set_4) | exact HI149.out)) hg (IsS41.own_ne HI149.out HO_4.out (by decide))); have n1_ := Aside0.mk (hb); have n2_ := Aside0.mk (ho); clear HI149; clear HB; clear HO_4; have HI149 := n0_; have HB := n1_; have HO156 := n2_; clear n0_ n1_ n2_; clear ho hb hg hat) | ((with_reducible refine gate_callee (f := 10) rfl ?_); refine goesL_ (some 41) rfl rfl Try.func10 (by kernel_rfl) rfl #[.pointer (some ⟨g149, 0, none⟩), .int .u64 (IntKind.u64.wrap (x5_2)), .int .u64 (IntKind.u64.wrap (wrap64 (2 * x5_2)))] rfl (by (try simp only [List.map_toArray, List.map_cons, List.map_nil]); first | done | rfl | (simp only [List.length_drop, List.length_take]; rfl) | (simp; done) | (refine qa_arr ?_; (repeat' (first | rfl | refine qa_cons ?_ ?_ | refine qa_int ?_ | refine qa_agg ?_ | refine qa_arr ?_ | omega)); done)) ?_; (with_reducible refine (link_Link_Hello.calls g149 x150000_2 x150001_2 x150002_2 x150003_2 x150004_2 (IntKind.u64.wrap (x5_2)) (IntKind.u64.wrap (wrap64 (2 * x5_2))) t157 t158 t159 t160 t161 w _ ?side1 ?side2 A19.out).mono ?_); (case side1 => repeat (first | (with_reducible first | exact HI149.out | apply IsS41.alloc | apply IsS41.drewN | apply IsS41.drew | apply IsS41.set_0 | apply IsS41.set_1 | apply IsS41.set_2 | apply IsS41.set_3 | apply IsS41.set_4) | exact HI149.out)); (case side2 => repeat (first | (with_reducible first | exact HB.out | apply below_alloc | apply pw_below_drewN | apply below_drew1 | refine below_set ?_ (IsS41.ge HI149.out)) | exact HB.out)); rintro e w21 ⟨rfl, hi, hb, hk⟩; refine ⟨_, rfl, ?_⟩; have n0_ := Aside0.mk (Kd.R_mono (Kd.R_keep (IsS41.apart (show IsS41 w _ g149 x150000_2 x150001_2 x150002_2 x150003_2 x150004_2 from by repeat (first | (with_reducible first | exact HI149.out | apply IsS41.alloc | apply IsS41.drewN | apply IsS41.drew | apply IsS41.set_0 | apply IsS41.set_1 | apply IsS41.set_2 | apply IsS41.set_3 | apply IsS41.set_4) | exact HI149.out)) (by (with_reducible repeat (first | apply Kd.R_alloc | apply Kd.R_drewN | apply Kd.R_drew)); exact HO156.out) (by decide)) hk (fun _ h => h.2)) (fun _ h => h.1)); have n1_ := Aside0.mk (hb); have n2_ := Aside0.mk (hi); clear HO156; clear HB; clear HI149; have HO156 := n0_; have HB := n1_; have HI149 := n2_; clear n0_ n1_ n2_; (try clear hb); (try clear hb2); (try clear hk); (try clear hi); obtain ⟨Ao22, co22, eo22⟩ := Kd.R_slice HO156.out; subst eo22))
                    go_loopg [6, 8] k2 (fun kq v6 v8 w' => ∃ (x6_3 : Int) (x8_3 : Int), v6 = .int .i64 x6_3 ∧ v8 = .int .i64 x8_3 ∧ Aside0 (milestonelaw14_LinkMisses.l1 kq l0 y154 x5_2 x6_3 0 x8_3 t157 t158 t159 t160 t161 = some r) ∧ Aside0 (kq ≤ k2) ∧ Aside0 (Kd.R Kd.bool 4 w' w.heap.size (fun _ => True) (.slice Ao22 y154.length co22) y154) ∧ Aside0 (IsS41 w w' g149 t157 t158 t159 t160 t161) ∧ Aside0 (Below w.heap.size w w'))
                    case atStart => exact ⟨(0), (wrap64 ((y154.length : Int) - 1)), (by first | rfl | (simp; done) | (simp [*]; done) | (refine qa_int ?_; omega) | (refine qa_int ?_; simp <;> omega)), (by first | rfl | (simp; done) | (simp [*]; done) | (refine qa_int ?_; omega) | (refine qa_int ?_; simp <;> omega)), H', ⟨Nat.le_refl _⟩, ⟨by (with_reducible repeat (first | apply Kd.R_alloc | apply Kd.R_drewN | apply Kd.R_drew)); exact HO156.out⟩, ⟨by repeat (first | (with_reducible first | exact HI149.out | apply IsS41.alloc | apply IsS41.drewN | apply IsS41.drew | apply IsS41.set_0 | apply IsS41.set_1 | apply IsS41.set_2 | apply IsS41.set_3 | apply IsS41.set_4) | exact HI149.out)⟩, ⟨by repeat (first | (with_reducible first | exact HB.out | apply below_alloc | apply pw_below_drewN | apply below_drew1 | refine below_set ?_ (IsS41.ge HI149.out)) | exact HB.out)⟩⟩
                    case round =>
                      clear H'
                      try clear c1
                      try clear p1
                      try clear q1
                      try clear hx1
                      try clear p2
                      try clear c3
                      try clear c4
                      try clear p6
                      try clear c7
                      try clear c8
                      try clear c9
                      try clear c10
                      try clear c12
                      try clear c12b0
                      try clear c13
                      try clear c13b0
                      try clear q14
                      try clear c15
                      try clear p15
                      try clear q15
                      try clear hx15
                      try clear c16
                      try clear c18
                      try clear hx150_0
                      try clear p150
                      try clear p2
                      try clear q150
                      obtain ⟨x6_3, x8_3, rfl, rfl, HA, HK3, HO_4, HI149, HB⟩ := hrel
                      cases gk with
                      | zero => exact absurd HA.out (by simp [milestonelaw14_LinkMisses.l1])
                      | succ k3 =>
                        have H := HA.out
                        clear HA
                        simp only [milestonelaw14_LinkMisses.l1] at H
                        have HC23 := Aside0.mk H
                        clear H
                        go_upto_region 15 with (fail)
                        go_cut [53] (fun v53 wc => ∃ (kq : Nat) (x53_22 : Bool), v53 = .bool x53_22 ∧ Aside0 (milestonelaw14_LinkMisses.j3 kq l0 y154 x5_2 x6_3 0 x8_3 x53_22 t157 t158 t159 t160 t161 = some r) ∧ Aside0 (kq ≤ k3) ∧ Aside0 (Kd.R Kd.bool 4 wc w.heap.size (fun _ => True) (.slice Ao22 y154.length co22) y154) ∧ Aside0 (IsS41 w wc g149 t157 t158 t159 t160 t161) ∧ Aside0 (Below w.heap.size w wc))
                        case first =>
                          have H := HC23.out
                          clear HC23
                          by_cases c24 : x8_3 ≥ 0
                          · rw [if_pos c24] at H
                            have c24b0 : decide (0 ≤ x8_3) = true := decide_eq_true c24
                            clear c24
                            (first | rw [c24b0] | (simp only [i64_w, i32_w]; rw [c24b0]) | skip)
                            have H' := Aside0.mk H
                            clear H
                            go_wp2
                            go_meet
                            case rel => exact ⟨_, (decide (x8_3 ≥ (wrap64 ((y154.length : Int) - 3)))), (by first | rfl | (simp; done) | (simp [*]; done) | (refine qa_int ?_; omega) | (refine qa_int ?_; simp <;> omega)), H', ⟨by have := HJ1.out; have := HK2.out; have := HK3.out; first | omega | exact Nat.le_refl _⟩, ⟨by (with_reducible repeat (first | apply Kd.R_alloc | apply Kd.R_drewN | apply Kd.R_drew)); exact HO_4.out⟩, ⟨by repeat (first | (with_reducible first | exact HI149.out | apply IsS41.alloc | apply IsS41.drewN | apply IsS41.drew | apply IsS41.set_0 | apply IsS41.set_1 | apply IsS41.set_2 | apply IsS41.set_3 | apply IsS41.set_4) | exact HI149.out)⟩, ⟨by repeat (first | (with_reducible first | exact HB.out | apply below_alloc | apply pw_below_drewN | apply below_drew1 | refine below_set ?_ (IsS41.ge HI149.out)) | exact HB.out)⟩⟩
                          · rw [if_neg c24] at H
                            have c24b0 : decide (0 ≤ x8_3) = false := decide_eq_false c24
                            clear c24
                            (first | rw [c24b0] | (simp only [i64_w, i32_w]; rw [c24b0]) | skip)
                            have H' := Aside0.mk H
                            clear H
                            go_wp2
                            go_meet
                            case rel => exact ⟨_, (false), (by first | rfl | (simp; done) | (simp [*]; done) | (refine qa_int ?_; omega) | (refine qa_int ?_; simp <;> omega)), H', ⟨by have := HJ1.out; have := HK2.out; have := HK3.out; first | omega | exact Nat.le_refl _⟩, ⟨by (with_reducible repeat (first | apply Kd.R_alloc | apply Kd.R_drewN | apply Kd.R_drew)); exact HO_4.out⟩, ⟨by repeat (first | (with_reducible first | exact HI149.out | apply IsS41.alloc | apply IsS41.drewN | apply IsS41.drew | apply IsS41.set_0 | apply IsS41.set_1 | apply IsS41.set_2 | apply IsS41.set_3 | apply IsS41.set_4) | exact HI149.out)⟩, ⟨by repeat (first | (with_reducible first | exact HB.out | apply below_alloc | apply pw_below_drewN | apply below_drew1 | refine below_set ?_ (IsS41.ge HI149.out)) | exact HB.out)⟩⟩
                        case rest =>
                          clear HC23
                          try clear c1
                          try clear p1
                          try clear q1
                          try clear hx1
                          try clear c2
                          try clear p2
                          try clear c3
                          try clear c4
                          try clear p6
                          try clear c7
                          try clear c8
                          try clear c9
                          try clear c10
                          try clear c12
                          try clear c12b0
                          try clear c13
                          try clear c13b0
                          try clear q14
                          try clear c15
                          try clear p15
                          try clear q15
                          try clear hx15
                          try clear c16
                          try clear c18
                          try clear c24
                          try clear c24b0
                          try clear hx150_0
                          try clear p1
                          try clear p15
                          try clear p150
                          try clear p2
                          try clear p6
                          try clear q1
                          try clear q14
                          try clear q15
                          try clear q150
                          obtain ⟨kq, x53_22, rfl, HA, HJ22, HO_4, HI149, HB⟩ := hcut
                          cases kq with
                          | zero => exact absurd HA.out (by simp [milestonelaw14_LinkMisses.j3])
                          | succ kj22 =>
                            have H := HA.out
                            clear HA
                            simp only [milestonelaw14_LinkMisses.j3] at H
                            by_cases c25 : x53_22 = true
                            · subst c25
                              have H1 : (if 0 ≤ x8_3 then (if x8_3 < (y154.length : Int) then (if rdOf false y154 x8_3 = true then (milestonelaw14_LinkMisses.l1 kj22 l0 y154 x5_2 (wrap64 (x6_3 + 1)) 0 (wrap64 (x8_3 - 1)) t157 t158 t159 t160 t161) else (milestonelaw14_LinkMisses.l1 kj22 l0 y154 x5_2 x6_3 0 (wrap64 (x8_3 - 1)) t157 t158 t159 t160 t161)) else (none)) else (none)) = some r := by rw [if_pos rfl] at H; exact H
                              clear H
                              have H := H1
                              clear H1
                              by_cases c26 : 0 ≤ x8_3
                              · rw [if_pos c26] at H
                                have c26b0 : decide (0 ≤ x8_3) = true := decide_eq_true c26
                                clear c26
                                by_cases c27 : x8_3 < (y154.length : Int)
                                · rw [if_pos c27] at H
                                  have c27b0 : decide (x8_3 < (y154.length : Int)) = true := decide_eq_true c27
                                  clear c27
                                  obtain ⟨bq28, hbq28⟩ : ∃ b_ : Bool, b_ = (rdOf false y154 x8_3) := ⟨_, rfl⟩
                                  replace H : (if bq28 = true then (milestonelaw14_LinkMisses.l1 kj22 l0 y154 x5_2 (wrap64 (x6_3 + 1)) 0 (wrap64 (x8_3 - 1)) t157 t158 t159 t160 t161) else (milestonelaw14_LinkMisses.l1 kj22 l0 y154 x5_2 x6_3 0 (wrap64 (x8_3 - 1)) t157 t158 t159 t160 t161)) = some r := by rw [← hbq28] at H; exact H
                                  have Nbq28 := Aside0.mk hbq28
                                  clear hbq28
                                  by_cases c29 : bq28 = true
                                  · subst c29
                                    have H1 : (milestonelaw14_LinkMisses.l1 kj22 l0 y154 x5_2 (wrap64 (x6_3 + 1)) 0 (wrap64 (x8_3 - 1)) t157 t158 t159 t160 t161) = some r := by rw [if_pos rfl] at H; exact H
                                    clear H
                                    have H := H1
                                    clear H1
                                    have H' := Aside0.mk H
                                    clear H
                                    have p162 : 0 ≤ (x8_3 : Int) := of_decide_eq_true (by first | (with_reducible assumption) | assumption)
                                    have q162 : x8_3 < (y154.length : Int) := of_decide_eq_true (by first | (with_reducible assumption) | assumption)
                                    obtain ⟨ad162, e162, hx162_0⟩ := Kd.at_bool (Kd.R_reads' HO_4.out).2.2 x8_3 p162 q162
                                    (try rw [← Nbq14.out] at hx162_0)
                                    (try rw [← Nbq28.out] at hx162_0)
                                    cases e162
                                    replace p162 := eq_true p162
                                    replace q162 := eq_true q162
                                    go_wp2
                                    go_roundg kj22
                                    case measure => have := HJ1.out; have := HK2.out; have := HK3.out; have := HJ22.out; omega
                                    case rel => exact ⟨(wrap64 (x6_3 + 1)), (wrap64 (x8_3 - 1)), (by first | rfl | (simp; done) | (simp [*]; done) | (refine qa_int ?_; omega) | (refine qa_int ?_; simp <;> omega)), (by first | rfl | (simp; done) | (simp [*]; done) | (refine qa_int ?_; omega) | (refine qa_int ?_; simp <;> omega)), H', ⟨by have := HJ1.out; have := HK2.out; have := HK3.out; have := HJ22.out; omega⟩, ⟨by (with_reducible repeat (first | apply Kd.R_alloc | apply Kd.R_drewN | apply Kd.R_drew)); exact HO_4.out⟩, ⟨by repeat (first | (with_reducible first | exact HI149.out | apply IsS41.alloc | apply IsS41.drewN | apply IsS41.drew | apply IsS41.set_0 | apply IsS41.set_1 | apply IsS41.set_2 | apply IsS41.set_3 | apply IsS41.set_4) | exact HI149.out)⟩, ⟨by repeat (first | (with_reducible first | exact HB.out | apply below_alloc | apply pw_below_drewN | apply below_drew1 | refine below_set ?_ (IsS41.ge HI149.out)) | exact HB.out)⟩⟩
                                  · replace c29 := Bool.eq_false_iff.mpr c29
                                    subst c29
                                    have H1 : (milestonelaw14_LinkMisses.l1 kj22 l0 y154 x5_2 x6_3 0 (wrap64 (x8_3 - 1)) t157 t158 t159 t160 t161) = some r := by rw [if_neg (show ¬ (false = true) by decide)] at H; exact H
                                    clear H
                                    have H := H1
                                    clear H1
                                    have H' := Aside0.mk H
                                    clear H
                                    have p162 : 0 ≤ (x8_3 : Int) := of_decide_eq_true (by first | (with_reducible assumption) | assumption)
                                    have q162 : x8_3 < (y154.length : Int) := of_decide_eq_true (by first | (with_reducible assumption) | assumption)
                                    obtain ⟨ad162, e162, hx162_0⟩ := Kd.at_bool (Kd.R_reads' HO_4.out).2.2 x8_3 p162 q162
                                    (try rw [← Nbq14.out] at hx162_0)
                                    (try rw [← Nbq28.out] at hx162_0)
                                    cases e162
                                    replace p162 := eq_true p162
                                    replace q162 := eq_true q162
                                    go_wp2
                                    go_roundg kj22
                                    case measure => have := HJ1.out; have := HK2.out; have := HK3.out; have := HJ22.out; omega
                                    case rel => exact ⟨(x6_3), (wrap64 (x8_3 - 1)), (by first | rfl | (simp; done) | (simp [*]; done) | (refine qa_int ?_; omega) | (refine qa_int ?_; simp <;> omega)), (by first | rfl | (simp; done) | (simp [*]; done) | (refine qa_int ?_; omega) | (refine qa_int ?_; simp <;> omega)), H', ⟨by have := HJ1.out; have := HK2.out; have := HK3.out; have := HJ22.out; omega⟩, ⟨by (with_reducible repeat (first | apply Kd.R_alloc | apply Kd.R_drewN | apply Kd.R_drew)); exact HO_4.out⟩, ⟨by repeat (first | (with_reducible first | exact HI149.out | apply IsS41.alloc | apply IsS41.drewN | apply IsS41.drew | apply IsS41.set_0 | apply IsS41.set_1 | apply IsS41.set_2 | apply IsS41.set_3 | apply IsS41.set_4) | exact HI149.out)⟩, ⟨by repeat (first | (with_reducible first | exact HB.out | apply below_alloc | apply pw_below_drewN | apply below_drew1 | refine below_set ?_ (IsS41.ge HI149.out)) | exact HB.out)⟩⟩
                                · rw [if_neg c27] at H
                                  exact absurd H (by simp)
                              · rw [if_neg c26] at H
                                exact absurd H (by simp)
                            · replace c25 := Bool.eq_false_iff.mpr c25
                              subst c25
                              have H1 : (milestonelaw14_LinkMisses.l2 kj22 l0 y154 x5_2 x6_3 0 (wrap64 ((y154.length : Int) - 2)) t157 t158 t159 t160 t161) = some r := by rw [if_neg (show ¬ (false = true) by decide)] at H; exact H
                              clear H
                              have H := H1
                              clear H1
                              have HC30 := Aside0.mk H
                              clear H
                              go_upto_block 4 with (fail)
                              go_cut [7] (fun v7 wc => ∃ (kq : Nat) (x7_29 : Int), v7 = .int .i64 x7_29 ∧ Aside0 (milestonelaw14_LinkMisses.j5 kq l0 y154 x5_2 x6_3 x7_29 t157 t158 t159 t160 t161 = some r) ∧ Aside0 (kq ≤ kj22) ∧ Aside0 (Kd.R Kd.bool 4 wc w.heap.size (fun _ => True) (.slice Ao22 y154.length co22) y154) ∧ Aside0 (IsS41 w wc g149 t157 t158 t159 t160 t161) ∧ Aside0 (Below w.heap.size w wc))
                              case first =>
                                have H := HC30.out
                                clear HC30
                                have H' := Aside0.mk H
                                clear H
                                go_wp2
                                go_loopg [7, 9] kj22 (fun kq v7 v9 w' => ∃ (x7_5 : Int) (x9_5 : Int), v7 = .int .i64 x7_5 ∧ v9 = .int .i64 x9_5 ∧ Aside0 (milestonelaw14_LinkMisses.l2 kq l0 y154 x5_2 x6_3 x7_5 x9_5 t157 t158 t159 t160 t161 = some r) ∧ Aside0 (kq ≤ kj22) ∧ Aside0 (Kd.R Kd.bool 4 w' w.heap.size (fun _ => True) (.slice Ao22 y154.length co22) y154) ∧ Aside0 (IsS41 w w' g149 t157 t158 t159 t160 t161) ∧ Aside0 (Below w.heap.size w w'))
                                case atStart => exact ⟨(0), (wrap64 ((y154.length : Int) - 2)), (by first | rfl | (simp; done) | (simp [*]; done) | (refine qa_int ?_; omega) | (refine qa_int ?_; simp <;> omega)), (by first | rfl | (simp; done) | (simp [*]; done) | (refine qa_int ?_; omega) | (refine qa_int ?_; simp <;> omega)), H', ⟨Nat.le_refl _⟩, ⟨by (with_reducible repeat (first | apply Kd.R_alloc | apply Kd.R_drewN | apply Kd.R_drew)); exact HO_4.out⟩, ⟨by repeat (first | (with_reducible first | exact HI149.out | apply IsS41.alloc | apply IsS41.drewN | apply IsS41.drew | apply IsS41.set_0 | apply IsS41.set_1 | apply IsS41.set_2 | apply IsS41.set_3 | apply IsS41.set_4) | exact HI149.out)⟩, ⟨by repeat (first | (with_reducible first | exact HB.out | apply below_alloc | apply pw_below_drewN | apply below_drew1 | refine below_set ?_ (IsS41.ge HI149.out)) | exact HB.out)⟩⟩
                                case round =>
                                  clear H'
                                  try clear c1
                                  try clear p1
                                  try clear q1
                                  try clear hx1
                                  try clear c2
                                  try clear p2
                                  try clear q2
                                  try clear c3
                                  try clear c4
                                  try clear p6
                                  try clear c7
                                  try clear c8
                                  try clear c9
                                  try clear c10
                                  try clear c12
                                  try clear c12b0
                                  try clear c13
                                  try clear c13b0
                                  try clear q14
                                  try clear c15
                                  try clear p15
                                  try clear q15
                                  try clear hx15
                                  try clear c16
                                  try clear p16
                                  try clear q16
                                  try clear hx16
                                  try clear c18
                                  try clear c24
                                  try clear c24b0
                                  try clear c25
                                  try clear c26
                                  try clear c26b0
                                  try clear c27
                                  try clear c27b0
                                  try clear q28
                                  try clear c29
                                  try clear hx150_0
                                  try clear hx162_0
                                  try clear p1
                                  try clear p15
                                  try clear p150
                                  try clear p162
                                  try clear p2
                                  try clear p6
                                  try clear q1
                                  try clear q14
                                  try clear q15
                                  try clear q150
                                  try clear q162
                                  obtain ⟨x7_5, x9_5, rfl, rfl, HA, HK5, HO_4, HI149, HB⟩ := hrel
                                  cases gk with
                                  | zero => exact absurd HA.out (by simp [milestonelaw14_LinkMisses.l2])
                                  | succ k5 =>
                                    have H := HA.out
                                    clear HA
                                    simp only [milestonelaw14_LinkMisses.l2] at H
                                    by_cases c31 : x9_5 ≥ 0
                                    · rw [if_pos c31] at H
                                      have c31b0 : decide (0 ≤ x9_5) = true := decide_eq_true c31
                                      clear c31
                                      (first | rw [c31b0] | (simp only [i64_w, i32_w]; rw [c31b0]) | skip)
                                      by_cases c32 : 0 ≤ x9_5
                                      · rw [if_pos c32] at H
                                        have c32b0 : decide (0 ≤ x9_5) = true := decide_eq_true c32
                                        clear c32
                                        by_cases c33 : x9_5 < (y154.length : Int)
                                        · rw [if_pos c33] at H
                                          have c33b0 : decide (x9_5 < (y154.length : Int)) = true := decide_eq_true c33
                                          clear c33
                                          obtain ⟨bq34, hbq34⟩ : ∃ b_ : Bool, b_ = (rdOf false y154 x9_5) := ⟨_, rfl⟩
                                          replace H : (if bq34 = true then (milestonelaw14_LinkMisses.j5 k5 l0 y154 x5_2 x6_3 x7_5 t157 t158 t159 t160 t161) else (milestonelaw14_LinkMisses.l2 k5 l0 y154 x5_2 x6_3 (wrap64 (x7_5 + 1)) (wrap64 (x9_5 - 1)) t157 t158 t159 t160 t161)) = some r := by rw [← hbq34] at H; exact H
                                          have Nbq34 := Aside0.mk hbq34
                                          clear hbq34
                                          by_cases c35 : bq34 = true
                                          · subst c35
                                            have H1 : (milestonelaw14_LinkMisses.j5 k5 l0 y154 x5_2 x6_3 x7_5 t157 t158 t159 t160 t161) = some r := by rw [if_pos rfl] at H; exact H
                                            clear H
                                            have H := H1
                                            clear H1
                                            have H' := Aside0.mk H
                                            clear H
                                            have p163 : 0 ≤ (x9_5 : Int) := of_decide_eq_true (by first | (with_reducible assumption) | assumption)
                                            have q163 : x9_5 < (y154.length : Int) := of_decide_eq_true (by first | (with_reducible assumption) | assumption)
                                            obtain ⟨ad163, e163, hx163_0⟩ := Kd.at_bool (Kd.R_reads' HO_4.out).2.2 x9_5 p163 q163
                                            (try rw [← Nbq14.out] at hx163_0)
                                            (try rw [← Nbq34.out] at hx163_0)
                                            cases e163
                                            replace p163 := eq_true p163
                                            replace q163 := eq_true q163
                                            go_wp2
                                            go_meet
                                            case rel => exact ⟨_, (x7_5), (by first | rfl | (simp; done) | (simp [*]; done) | (refine qa_int ?_; omega) | (refine qa_int ?_; simp <;> omega)), H', ⟨by have := HJ1.out; have := HK2.out; have := HK3.out; have := HJ22.out; have := HK5.out; first | omega | exact Nat.le_refl _⟩, ⟨by (with_reducible repeat (first | apply Kd.R_alloc | apply Kd.R_drewN | apply Kd.R_drew)); exact HO_4.out⟩, ⟨by repeat (first | (with_reducible first | exact HI149.out | apply IsS41.alloc | apply IsS41.drewN | apply IsS41.drew | apply IsS41.set_0 | apply IsS41.set_1 | apply IsS41.set_2 | apply IsS41.set_3 | apply IsS41.set_4) | exact HI149.out)⟩, ⟨by repeat (first | (with_reducible first | exact HB.out | apply below_alloc | apply pw_below_drewN | apply below_drew1 | refine below_set ?_ (IsS41.ge HI149.out)) | exact HB.out)⟩⟩
                                          · replace c35 := Bool.eq_false_iff.mpr c35
                                            subst c35
                                            have H1 : (milestonelaw14_LinkMisses.l2 k5 l0 y154 x5_2 x6_3 (wrap64 (x7_5 + 1)) (wrap64 (x9_5 - 1)) t157 t158 t159 t160 t161) = some r := by rw [if_neg (show ¬ (false = true) by decide)] at H; exact H
                                            clear H
                                            have H := H1
                                            clear H1
                                            have H' := Aside0.mk H
                                            clear H
                                            have p163 : 0 ≤ (x9_5 : Int) := of_decide_eq_true (by first | (with_reducible assumption) | assumption)
                                            have q163 : x9_5 < (y154.length : Int) := of_decide_eq_true (by first | (with_reducible assumption) | assumption)
                                            obtain ⟨ad163, e163, hx163_0⟩ := Kd.at_bool (Kd.R_reads' HO_4.out).2.2 x9_5 p163 q163
                                            (try rw [← Nbq14.out] at hx163_0)
                                            (try rw [← Nbq34.out] at hx163_0)
                                            cases e163
                                            replace p163 := eq_true p163
                                            replace q163 := eq_true q163
                                            go_wp2
                                            go_roundg k5
                                            case measure => have := HJ1.out; have := HK2.out; have := HK3.out; have := HJ22.out; have := HK5.out; omega
                                            case rel => exact ⟨(wrap64 (x7_5 + 1)), (wrap64 (x9_5 - 1)), (by first | rfl | (simp; done) | (simp [*]; done) | (refine qa_int ?_; omega) | (refine qa_int ?_; simp <;> omega)), (by first | rfl | (simp; done) | (simp [*]; done) | (refine qa_int ?_; omega) | (refine qa_int ?_; simp <;> omega)), H', ⟨by have := HJ1.out; have := HK2.out; have := HK3.out; have := HJ22.out; have := HK5.out; omega⟩, ⟨by (with_reducible repeat (first | apply Kd.R_alloc | apply Kd.R_drewN | apply Kd.R_drew)); exact HO_4.out⟩, ⟨by repeat (first | (with_reducible first | exact HI149.out | apply IsS41.alloc | apply IsS41.drewN | apply IsS41.drew | apply IsS41.set_0 | apply IsS41.set_1 | apply IsS41.set_2 | apply IsS41.set_3 | apply IsS41.set_4) | exact HI149.out)⟩, ⟨by repeat (first | (with_reducible first | exact HB.out | apply below_alloc | apply pw_below_drewN | apply below_drew1 | refine below_set ?_ (IsS41.ge HI149.out)) | exact HB.out)⟩⟩
                                        · rw [if_neg c33] at H
                                          exact absurd H (by simp)
                                      · rw [if_neg c32] at H
                                        exact absurd H (by simp)
                                    · rw [if_neg c31] at H
                                      have c31b0 : decide (0 ≤ x9_5) = false := decide_eq_false c31
                                      clear c31
                                      (first | rw [c31b0] | (simp only [i64_w, i32_w]; rw [c31b0]) | skip)
                                      have H' := Aside0.mk H
                                      clear H
                                      go_wp2
                                      go_meet
                                      case rel => exact ⟨_, (x7_5), (by first | rfl | (simp; done) | (simp [*]; done) | (refine qa_int ?_; omega) | (refine qa_int ?_; simp <;> omega)), H', ⟨by have := HJ1.out; have := HK2.out; have := HK3.out; have := HJ22.out; have := HK5.out; first | omega | exact Nat.le_refl _⟩, ⟨by (with_reducible repeat (first | apply Kd.R_alloc | apply Kd.R_drewN | apply Kd.R_drew)); exact HO_4.out⟩, ⟨by repeat (first | (with_reducible first | exact HI149.out | apply IsS41.alloc | apply IsS41.drewN | apply IsS41.drew | apply IsS41.set_0 | apply IsS41.set_1 | apply IsS41.set_2 | apply IsS41.set_3 | apply IsS41.set_4) | exact HI149.out)⟩, ⟨by repeat (first | (with_reducible first | exact HB.out | apply below_alloc | apply pw_below_drewN | apply below_drew1 | refine below_set ?_ (IsS41.ge HI149.out)) | exact HB.out)⟩⟩
                              case rest =>
                                clear HC30
                                try clear c1
                                try clear p1
                                try clear q1
                                try clear hx1
                                try clear c2
                                try clear p2
                                try clear q2
                                try clear c3
                                try clear q3
                                try clear c4
                                try clear p6
                                try clear c7
                                try clear c8
                                try clear c9
                                try clear c10
                                try clear c12
                                try clear c12b0
                                try clear c13
                                try clear c13b0
                                try clear q14
                                try clear c15
                                try clear p15
                                try clear q15
                                try clear hx15
                                try clear c16
                                try clear p16
                                try clear q16
                                try clear hx16
                                try clear c18
                                try clear c24
                                try clear c24b0
                                try clear c25
                                try clear c26
                                try clear c26b0
                                try clear c27
                                try clear c27b0
                                try clear q28
                                try clear c29
                                try clear c31
                                try clear c31b0
                                try clear c32
                                try clear c32b0
                                try clear c33
                                try clear c33b0
                                try clear q34
                                try clear c35
                                try clear hx150_0
                                try clear hx162_0
                                try clear hx163_0
                                try clear p1
                                try clear p15
                                try clear p150
                                try clear p16
                                try clear p162
                                try clear p163
                                try clear p2
                                try clear p6
                                try clear q1
                                try clear q14
                                try clear q15
                                try clear q150
                                try clear q16
                                try clear q162
                                try clear q163
                                try clear q2
                                try clear q28
                                obtain ⟨kq, x7_29, rfl, HA, HJ29, HO_4, HI149, HB⟩ := hcut
                                cases kq with
                                | zero => exact absurd HA.out (by simp [milestonelaw14_LinkMisses.j5])
                                | succ kj29 =>
                                  have H := HA.out
                                  clear HA
                                  simp only [milestonelaw14_LinkMisses.j5] at H
                                  have HC36 := Aside0.mk H
                                  clear H
                                  go_upto_if 79 with (fail)
                                  go_cut [6] (fun v6 wc => ∃ (kq : Nat) (x6_35 : Int), v6 = .int .i64 x6_35 ∧ Aside0 (milestonelaw14_LinkMisses.j6 kq l0 y154 x5_2 x6_35 t157 t158 t159 t160 t161 = some r) ∧ Aside0 (kq ≤ kj29) ∧ Aside0 (Kd.R Kd.bool 4 wc w.heap.size (fun _ => True) (.slice Ao22 y154.length co22) y154) ∧ Aside0 (IsS41 w wc g149 t157 t158 t159 t160 t161) ∧ Aside0 (Below w.heap.size w wc))
                                  case first =>
                                    have H := HC36.out
                                    clear HC36
                                    by_cases c37 : x7_29 ≥ 16
                                    · rw [if_pos c37] at H
                                      have c37b0 : decide (16 ≤ x7_29) = true := decide_eq_true c37
                                      clear c37
                                      (first | rw [c37b0] | (simp only [i64_w, i32_w]; rw [c37b0]) | skip)
                                      have H' := Aside0.mk H
                                      clear H
                                      go_wp2
                                      go_meet
                                      case rel => exact ⟨_, (1), (by first | rfl | (simp; done) | (simp [*]; done) | (refine qa_int ?_; omega) | (refine qa_int ?_; simp <;> omega)), H', ⟨by have := HJ1.out; have := HK2.out; have := HK3.out; have := HJ22.out; have := HJ29.out; first | omega | exact Nat.le_refl _⟩, ⟨by (with_reducible repeat (first | apply Kd.R_alloc | apply Kd.R_drewN | apply Kd.R_drew)); exact HO_4.out⟩, ⟨by repeat (first | (with_reducible first | exact HI149.out | apply IsS41.alloc | apply IsS41.drewN | apply IsS41.drew | apply IsS41.set_0 | apply IsS41.set_1 | apply IsS41.set_2 | apply IsS41.set_3 | apply IsS41.set_4) | exact HI149.out)⟩, ⟨by repeat (first | (with_reducible first | exact HB.out | apply below_alloc | apply pw_below_drewN | apply below_drew1 | refine below_set ?_ (IsS41.ge HI149.out)) | exact HB.out)⟩⟩
                                    · rw [if_neg c37] at H
                                      have c37b0 : decide (16 ≤ x7_29) = false := decide_eq_false c37
                                      clear c37
                                      (first | rw [c37b0] | (simp only [i64_w, i32_w]; rw [c37b0]) | skip)
                                      have H' := Aside0.mk H
                                      clear H
                                      go_wp2
                                      go_meet
                                      case rel => exact ⟨_, (x6_3), (by first | rfl | (simp; done) | (simp [*]; done) | (refine qa_int ?_; omega) | (refine qa_int ?_; simp <;> omega)), H', ⟨by have := HJ1.out; have := HK2.out; have := HK3.out; have := HJ22.out; have := HJ29.out; first | omega | exact Nat.le_refl _⟩, ⟨by (with_reducible repeat (first | apply Kd.R_alloc | apply Kd.R_drewN | apply Kd.R_drew)); exact HO_4.out⟩, ⟨by repeat (first | (with_reducible first | exact HI149.out | apply IsS41.alloc | apply IsS41.drewN | apply IsS41.drew | apply IsS41.set_0 | apply IsS41.set_1 | apply IsS41.set_2 | apply IsS41.set_3 | apply IsS41.set_4) | exact HI149.out)⟩, ⟨by repeat (first | (with_reducible first | exact HB.out | apply below_alloc | apply pw_below_drewN | apply below_drew1 | refine below_set ?_ (IsS41.ge HI149.out)) | exact HB.out)⟩⟩
                                  case rest =>
                                    clear HC36
                                    try clear c1
                                    try clear p1
                                    try clear q1
                                    try clear hx1
                                    try clear c2
                                    try clear p2
                                    try clear q2
                                    try clear c3
                                    try clear q3
                                    try clear c4
                                    try clear p6
                                    try clear c7
                                    try clear c8
                                    try clear c9
                                    try clear c10
                                    try clear c12
                                    try clear c12b0
                                    try clear c13
                                    try clear c13b0
                                    try clear q14
                                    try clear c15
                                    try clear p15
                                    try clear q15
                                    try clear hx15
                                    try clear c16
                                    try clear p16
                                    try clear q16
                                    try clear hx16
                                    try clear c18
                                    try clear c24
                                    try clear c24b0
                                    try clear c25
                                    try clear c26
                                    try clear c26b0
                                    try clear c27
                                    try clear c27b0
                                    try clear q28
                                    try clear c29
                                    try clear c31
                                    try clear c31b0
                                    try clear c32
                                    try clear c32b0
                                    try clear c33
                                    try clear c33b0
                                    try clear q34
                                    try clear c35
                                    try clear c37
                                    try clear c37b0
                                    try clear hx150_0
                                    try clear hx162_0
                                    try clear hx163_0
                                    try clear p1
                                    try clear p15
                                    try clear p150
                                    try clear p16
                                    try clear p162
                                    try clear p163
                                    try clear p2
                                    try clear p6
                                    try clear q1
                                    try clear q14
                                    try clear q15
                                    try clear q150
                                    try clear q16
                                    try clear q162
                                    try clear q163
                                    try clear q2
                                    try clear q28
                                    try clear q3
                                    try clear q34
                                    obtain ⟨kq, x6_35, rfl, HA, HJ35, HO_4, HI149, HB⟩ := hcut
                                    cases kq with
                                    | zero => exact absurd HA.out (by simp [milestonelaw14_LinkMisses.j6])
                                    | succ kj35 =>
                                      have H := HA.out
                                      clear HA
                                      simp only [milestonelaw14_LinkMisses.j6] at H
                                      replace H := Option.bind_eq_some_iff.mp H
                                      obtain ⟨⟨t164, t165, t166, t167, t168, t169⟩, A380, H⟩ := H
                                      replace H : (if ((t164 == 96) != (decide (x6_35 ≥ 2))) = true then (some false) else ((link_Link_Alive.f t165 t166 t167 t168 t169).bind fun bt170 => (if bt170.1 = true then (milestonelaw14_LinkMisses.l0 kj35 l0 y154 (wrap64 (x5_2 + 1)) bt170.2.1 bt170.2.2.1 bt170.2.2.2.1 bt170.2.2.2.2.1 bt170.2.2.2.2.2) else (some false)))) = some r := H
                                      have A38 := Aside0.mk A380
                                      clear A380
                                      by_cases c39 : ((t164 == 96) != (decide (x6_35 ≥ 2))) = true
                                      · rw [if_pos c39] at H
                                        have c39b0 : ((t164 == 96) != (decide (x6_35 ≥ 2))) = true := c39
                                        (try (have c39b1 : decide ((t164 == 96) = (decide (x6_35 ≥ 2))) = false := by simpa using c39))
                                        (try (have c39b2 : ((t164 == 96) == (decide (x6_35 ≥ 2))) = false := by simpa using c39))
                                        (try (have c39b3 : ¬ ((t164 == 96) = (decide (x6_35 ≥ 2))) := by simpa using c39))
                                        clear c39
                                        obtain rfl := Option.some.inj H
                                        go_wp2_with (first | ((with_reducible refine gate_callee (f := 11) rfl ?_); refine goesL_ (some 81) rfl rfl Try.func11 (by kernel_rfl) rfl #[.pointer (some ⟨g149, 0, none⟩)] rfl (by (try simp only [List.map_toArray, List.map_cons, List.map_nil]); first | done | rfl | (simp only [List.length_drop, List.length_take]; rfl) | (simp; done) | (refine qa_arr ?_; (repeat' (first | rfl | refine qa_cons ?_ ?_ | refine qa_int ?_ | refine qa_agg ?_ | refine qa_arr ?_ | omega)); done)) ?_; (with_reducible refine (link_Link_Receives.calls g149 t157 t158 t159 t160 t161 t164 t165 t166 t167 t168 t169 w _ ?side1 ?side2 A38.out).mono ?_); (case side1 => repeat (first | (with_reducible first | exact HI149.out | apply IsS41.alloc | apply IsS41.drewN | apply IsS41.drew | apply IsS41.set_0 | apply IsS41.set_1 | apply IsS41.set_2 | apply IsS41.set_3 | apply IsS41.set_4) | exact HI149.out)); (case side2 => repeat (first | (with_reducible first | exact HB.out | apply below_alloc | apply pw_below_drewN | apply below_drew1 | refine below_set ?_ (IsS41.ge HI149.out)) | exact HB.out)); rintro e w40 ⟨rfl, hi, hb, hk⟩; refine ⟨_, rfl, ?_⟩; have n0_ := Aside0.mk (Kd.R_mono (Kd.R_keep (IsS41.apart (show IsS41 w _ g149 t157 t158 t159 t160 t161 from by repeat (first | (with_reducible first | exact HI149.out | apply IsS41.alloc | apply IsS41.drewN | apply IsS41.drew | apply IsS41.set_0 | apply IsS41.set_1 | apply IsS41.set_2 | apply IsS41.set_3 | apply IsS41.set_4) | exact HI149.out)) (by (with_reducible repeat (first | apply Kd.R_alloc | apply Kd.R_drewN | apply Kd.R_drew)); exact HO_4.out) (by decide)) hk (fun _ h => h.2)) (fun _ h => h.1)); have n1_ := Aside0.mk (hb); have n2_ := Aside0.mk (hi); clear HO_4; clear HB; clear HI149; have HO_4 := n0_; have HB := n1_; have HI149 := n2_; clear n0_ n1_ n2_; (try clear hb); (try clear hb2); (try clear hk); (try clear hi)))
                                        go_ret
                                        exact ⟨by first | rfl | (simp [errW_none, errW_some] <;> rfl) | (simp [*, errW_none, errW_some] <;> rfl), by repeat (first | (with_reducible first | exact HB.out | apply below_alloc | apply pw_below_drewN | apply below_drew1 | refine below_set ?_ (IsS41.ge HI149.out)) | exact HB.out)⟩
                                      · rw [if_neg c39] at H
                                        have c39b0 : ((t164 == 96) != (decide (x6_35 ≥ 2))) = false := by simpa using c39
                                        (try (have c39b1 : decide ((t164 == 96) = (decide (x6_35 ≥ 2))) = true := by simpa using c39))
                                        (try (have c39b2 : ((t164 == 96) == (decide (x6_35 ≥ 2))) = true := by simpa using c39))
                                        clear c39
                                        replace H := Option.bind_eq_some_iff.mp H
                                        obtain ⟨⟨t170, t171, t172, t173, t174, t175⟩, A410, H⟩ := H
                                        replace H : (if t170 = true then (milestonelaw14_LinkMisses.l0 kj35 l0 y154 (wrap64 (x5_2 + 1)) t171 t172 t173 t174 t175) else (some false)) = some r := H
                                        have A41 := Aside0.mk A410
                                        clear A410
                                        by_cases c42 : t170 = true
                                        · subst c42
                                          have H1 : (milestonelaw14_LinkMisses.l0 kj35 l0 y154 (wrap64 (x5_2 + 1)) t171 t172 t173 t174 t175) = some r := by rw [if_pos rfl] at H; exact H
                                          clear H
                                          have H := H1
                                          clear H1
                                          have H' := Aside0.mk H
                                          clear H
                                          go_wp2_with (first | ((with_reducible refine gate_callee (f := 11) rfl ?_); refine goesL_ (some 81) rfl rfl Try.func11 (by kernel_rfl) rfl #[.pointer (some ⟨g149, 0, none⟩)] rfl (by (try simp only [List.map_toArray, List.map_cons, List.map_nil]); first | done | rfl | (simp only [List.length_drop, List.length_take]; rfl) | (simp; done) | (refine qa_arr ?_; (repeat' (first | rfl | refine qa_cons ?_ ?_ | refine qa_int ?_ | refine qa_agg ?_ | refine qa_arr ?_ | omega)); done)) ?_; (with_reducible refine (link_Link_Receives.calls g149 t157 t158 t159 t160 t161 t164 t165 t166 t167 t168 t169 w _ ?side1 ?side2 A38.out).mono ?_); (case side1 => repeat (first | (with_reducible first | exact HI149.out | apply IsS41.alloc | apply IsS41.drewN | apply IsS41.drew | apply IsS41.set_0 | apply IsS41.set_1 | apply IsS41.set_2 | apply IsS41.set_3 | apply IsS41.set_4) | exact HI149.out)); (case side2 => repeat (first | (with_reducible first | exact HB.out | apply below_alloc | apply pw_below_drewN | apply below_drew1 | refine below_set ?_ (IsS41.ge HI149.out)) | exact HB.out)); rintro e w43 ⟨rfl, hi, hb, hk⟩; refine ⟨_, rfl, ?_⟩; have n0_ := Aside0.mk (Kd.R_mono (Kd.R_keep (IsS41.apart (show IsS41 w _ g149 t157 t158 t159 t160 t161 from by repeat (first | (with_reducible first | exact HI149.out | apply IsS41.alloc | apply IsS41.drewN | apply IsS41.drew | apply IsS41.set_0 | apply IsS41.set_1 | apply IsS41.set_2 | apply IsS41.set_3 | apply IsS41.set_4) | exact HI149.out)) (by (with_reducible repeat (first | apply Kd.R_alloc | apply Kd.R_drewN | apply Kd.R_drew)); exact HO_4.out) (by decide)) hk (fun _ h => h.2)) (fun _ h => h.1)); have n1_ := Aside0.mk (hb); have n2_ := Aside0.mk (hi); clear HO_4; clear HB; clear HI149; have HO_4 := n0_; have HB := n1_; have HI149 := n2_; clear n0_ n1_ n2_; (try clear hb); (try clear hb2); (try clear hk); (try clear hi)) | (go_at_call 12; (with_reducible refine (link_Link_Alive.calls g149 t165 t166 t167 t168 t169 true t171 t172 t173 t174 t175 w _ ?side1 ?side2 A41.out).mono ?_); (case side1 => repeat (first | (with_reducible first | exact HI149.out | apply IsS41.alloc | apply IsS41.drewN | apply IsS41.drew | apply IsS41.set_0 | apply IsS41.set_1 | apply IsS41.set_2 | apply IsS41.set_3 | apply IsS41.set_4) | exact HI149.out)); (case side2 => repeat (first | (with_reducible first | exact HB.out | apply below_alloc | apply pw_below_drewN | apply below_drew1 | refine below_set ?_ (IsS41.ge HI149.out)) | exact HB.out)); rintro e w44 ⟨rfl, hi, hb, hk⟩; have n0_ := Aside0.mk (Kd.R_mono (Kd.R_keep (IsS41.apart (show IsS41 w _ g149 t165 t166 t167 t168 t169 from by repeat (first | (with_reducible first | exact HI149.out | apply IsS41.alloc | apply IsS41.drewN | apply IsS41.drew | apply IsS41.set_0 | apply IsS41.set_1 | apply IsS41.set_2 | apply IsS41.set_3 | apply IsS41.set_4) | exact HI149.out)) (by (with_reducible repeat (first | apply Kd.R_alloc | apply Kd.R_drewN | apply Kd.R_drew)); exact HO_4.out) (by decide)) hk (fun _ h => h.2)) (fun _ h => h.1)); have n1_ := Aside0.mk (hb); have n2_ := Aside0.mk (hi); clear HO_4; clear HB; clear HI149; have HO_4 := n0_; have HB := n1_; have HI149 := n2_; clear n0_ n1_ n2_; (try clear hb); (try clear hb2); (try clear hk); (try clear hi)) | (go_at_call 12; (refine calls_of_args (args' := #[.pointer (some ⟨g149, 0, none⟩)]) ?_ ?_; focus (first | rfl | (simp; done) | (refine qa_arr ?_; (repeat' (first | rfl | refine qa_cons ?_ ?_ | refine qa_int ?_ | refine qa_agg ?_ | refine qa_arr ?_ | omega)); done)); (with_reducible refine (link_Link_Alive.calls g149 t165 t166 t167 t168 t169 true t171 t172 t173 t174 t175 w _ ?side1 ?side2 A41.out).mono ?_)); (case side1 => repeat (first | (with_reducible first | exact HI149.out | apply IsS41.alloc | apply IsS41.drewN | apply IsS41.drew | apply IsS41.set_0 | apply IsS41.set_1 | apply IsS41.set_2 | apply IsS41.set_3 | apply IsS41.set_4) | exact HI149.out)); (case side2 => repeat (first | (with_reducible first | exact HB.out | apply below_alloc | apply pw_below_drewN | apply below_drew1 | refine below_set ?_ (IsS41.ge HI149.out)) | exact HB.out)); rintro e w44 ⟨rfl, hi, hb, hk⟩; have n0_ := Aside0.mk (Kd.R_mono (Kd.R_keep (IsS41.apart (show IsS41 w _ g149 t165 t166 t167 t168 t169 from by repeat (first | (with_reducible first | exact HI149.out | apply IsS41.alloc | apply IsS41.drewN | apply IsS41.drew | apply IsS41.set_0 | apply IsS41.set_1 | apply IsS41.set_2 | apply IsS41.set_3 | apply IsS41.set_4) | exact HI149.out)) (by (with_reducible repeat (first | apply Kd.R_alloc | apply Kd.R_drewN | apply Kd.R_drew)); exact HO_4.out) (by decide)) hk (fun _ h => h.2)) (fun _ h => h.1)); have n1_ := Aside0.mk (hb); have n2_ := Aside0.mk (hi); clear HO_4; clear HB; clear HI149; have HO_4 := n0_; have HB := n1_; have HI149 := n2_; clear n0_ n1_ n2_; (try clear hb); (try clear hb2); (try clear hk); (try clear hi)))
                                          go_roundg kj35
                                          case measure => have := HJ1.out; have := HK2.out; have := HK3.out; have := HJ22.out; have := HJ29.out; have := HJ35.out; omega
                                          case rel => exact ⟨(y154), (wrap64 (x5_2 + 1)), (t171), (t172), (t173), (t174), (t175), (by first | rfl | (simp; done) | (simp [*]; done) | (refine qa_int ?_; omega) | (refine qa_int ?_; simp <;> omega)), H', ⟨by have := HJ1.out; have := HK2.out; have := HK3.out; have := HJ22.out; have := HJ29.out; have := HJ35.out; omega⟩, ⟨by (with_reducible repeat (first | apply Kd.R_alloc | apply Kd.R_drewN | apply Kd.R_drew)); exact HO_4.out⟩, ⟨by repeat (first | (with_reducible first | exact HI149.out | apply IsS41.alloc | apply IsS41.drewN | apply IsS41.drew | apply IsS41.set_0 | apply IsS41.set_1 | apply IsS41.set_2 | apply IsS41.set_3 | apply IsS41.set_4) | exact HI149.out)⟩, ⟨by repeat (first | (with_reducible first | exact HB.out | apply below_alloc | apply pw_below_drewN | apply below_drew1 | refine below_set ?_ (IsS41.ge HI149.out)) | exact HB.out)⟩⟩
                                        · replace c42 := Bool.eq_false_iff.mpr c42
                                          subst c42
                                          have H1 : (some false) = some r := by rw [if_neg (show ¬ (false = true) by decide)] at H; exact H
                                          clear H
                                          have H := H1
                                          clear H1
                                          obtain rfl := Option.some.inj H
                                          go_wp2_with (first | ((with_reducible refine gate_callee (f := 11) rfl ?_); refine goesL_ (some 81) rfl rfl Try.func11 (by kernel_rfl) rfl #[.pointer (some ⟨g149, 0, none⟩)] rfl (by (try simp only [List.map_toArray, List.map_cons, List.map_nil]); first | done | rfl | (simp only [List.length_drop, List.length_take]; rfl) | (simp; done) | (refine qa_arr ?_; (repeat' (first | rfl | refine qa_cons ?_ ?_ | refine qa_int ?_ | refine qa_agg ?_ | refine qa_arr ?_ | omega)); done)) ?_; (with_reducible refine (link_Link_Receives.calls g149 t157 t158 t159 t160 t161 t164 t165 t166 t167 t168 t169 w _ ?side1 ?side2 A38.out).mono ?_); (case side1 => repeat (first | (with_reducible first | exact HI149.out | apply IsS41.alloc | apply IsS41.drewN | apply IsS41.drew | apply IsS41.set_0 | apply IsS41.set_1 | apply IsS41.set_2 | apply IsS41.set_3 | apply IsS41.set_4) | exact HI149.out)); (case side2 => repeat (first | (with_reducible first | exact HB.out | apply below_alloc | apply pw_below_drewN | apply below_drew1 | refine below_set ?_ (IsS41.ge HI149.out)) | exact HB.out)); rintro e w45 ⟨rfl, hi, hb, hk⟩; refine ⟨_, rfl, ?_⟩; have n0_ := Aside0.mk (Kd.R_mono (Kd.R_keep (IsS41.apart (show IsS41 w _ g149 t157 t158 t159 t160 t161 from by repeat (first | (with_reducible first | exact HI149.out | apply IsS41.alloc | apply IsS41.drewN | apply IsS41.drew | apply IsS41.set_0 | apply IsS41.set_1 | apply IsS41.set_2 | apply IsS41.set_3 | apply IsS41.set_4) | exact HI149.out)) (by (with_reducible repeat (first | apply Kd.R_alloc | apply Kd.R_drewN | apply Kd.R_drew)); exact HO_4.out) (by decide)) hk (fun _ h => h.2)) (fun _ h => h.1)); have n1_ := Aside0.mk (hb); have n2_ := Aside0.mk (hi); clear HO_4; clear HB; clear HI149; have HO_4 := n0_; have HB := n1_; have HI149 := n2_; clear n0_ n1_ n2_; (try clear hb); (try clear hb2); (try clear hk); (try clear hi)) | (go_at_call 12; (with_reducible refine (link_Link_Alive.calls g149 t165 t166 t167 t168 t169 false t171 t172 t173 t174 t175 w _ ?side1 ?side2 A41.out).mono ?_); (case side1 => repeat (first | (with_reducible first | exact HI149.out | apply IsS41.alloc | apply IsS41.drewN | apply IsS41.drew | apply IsS41.set_0 | apply IsS41.set_1 | apply IsS41.set_2 | apply IsS41.set_3 | apply IsS41.set_4) | exact HI149.out)); (case side2 => repeat (first | (with_reducible first | exact HB.out | apply below_alloc | apply pw_below_drewN | apply below_drew1 | refine below_set ?_ (IsS41.ge HI149.out)) | exact HB.out)); rintro e w46 ⟨rfl, hi, hb, hk⟩; have n0_ := Aside0.mk (Kd.R_mono (Kd.R_keep (IsS41.apart (show IsS41 w _ g149 t165 t166 t167 t168 t169 from by repeat (first | (with_reducible first | exact HI149.out | apply IsS41.alloc | apply IsS41.drewN | apply IsS41.drew | apply IsS41.set_0 | apply IsS41.set_1 | apply IsS41.set_2 | apply IsS41.set_3 | apply IsS41.set_4) | exact HI149.out)) (by (with_reducible repeat (first | apply Kd.R_alloc | apply Kd.R_drewN | apply Kd.R_drew)); exact HO_4.out) (by decide)) hk (fun _ h => h.2)) (fun _ h => h.1)); have n1_ := Aside0.mk (hb); have n2_ := Aside0.mk (hi); clear HO_4; clear HB; clear HI149; have HO_4 := n0_; have HB := n1_; have HI149 := n2_; clear n0_ n1_ n2_; (try clear hb); (try clear hb2); (try clear hk); (try clear hi)) | (go_at_call 12; (refine calls_of_args (args' := #[.pointer (some ⟨g149, 0, none⟩)]) ?_ ?_; focus (first | rfl | (simp; done) | (refine qa_arr ?_; (repeat' (first | rfl | refine qa_cons ?_ ?_ | refine qa_int ?_ | refine qa_agg ?_ | refine qa_arr ?_ | omega)); done)); (with_reducible refine (link_Link_Alive.calls g149 t165 t166 t167 t168 t169 false t171 t172 t173 t174 t175 w _ ?side1 ?side2 A41.out).mono ?_)); (case side1 => repeat (first | (with_reducible first | exact HI149.out | apply IsS41.alloc | apply IsS41.drewN | apply IsS41.drew | apply IsS41.set_0 | apply IsS41.set_1 | apply IsS41.set_2 | apply IsS41.set_3 | apply IsS41.set_4) | exact HI149.out)); (case side2 => repeat (first | (with_reducible first | exact HB.out | apply below_alloc | apply pw_below_drewN | apply below_drew1 | refine below_set ?_ (IsS41.ge HI149.out)) | exact HB.out)); rintro e w46 ⟨rfl, hi, hb, hk⟩; have n0_ := Aside0.mk (Kd.R_mono (Kd.R_keep (IsS41.apart (show IsS41 w _ g149 t165 t166 t167 t168 t169 from by repeat (first | (with_reducible first | exact HI149.out | apply IsS41.alloc | apply IsS41.drewN | apply IsS41.drew | apply IsS41.set_0 | apply IsS41.set_1 | apply IsS41.set_2 | apply IsS41.set_3 | apply IsS41.set_4) | exact HI149.out)) (by (with_reducible repeat (first | apply Kd.R_alloc | apply Kd.R_drewN | apply Kd.R_drew)); exact HO_4.out) (by decide)) hk (fun _ h => h.2)) (fun _ h => h.1)); have n1_ := Aside0.mk (hb); have n2_ := Aside0.mk (hi); clear HO_4; clear HB; clear HI149; have HO_4 := n0_; have HB := n1_; have HI149 := n2_; clear n0_ n1_ n2_; (try clear hb); (try clear hb2); (try clear hk); (try clear hi)))
                                          go_ret
                                          exact ⟨by first | rfl | (simp [errW_none, errW_some] <;> rfl) | (simp [*, errW_none, errW_some] <;> rfl), by repeat (first | (with_reducible first | exact HB.out | apply below_alloc | apply pw_below_drewN | apply below_drew1 | refine below_set ?_ (IsS41.ge HI149.out)) | exact HB.out)⟩
                  · rw [if_neg c18] at H
                    exact absurd H (by simp)
              · rw [if_neg c13] at H
                exact absurd H (by simp)
            · rw [if_neg c12] at H
              have c12b0 : decide (x5_2 < (l0.length : Int)) = false := decide_eq_false c12
              clear c12
              obtain rfl := Option.some.inj H
              go_wp2
              go_ret
              exact ⟨by first | rfl | (simp [errW_none, errW_some] <;> rfl) | (simp [*, errW_none, errW_some] <;> rfl), by repeat (first | (with_reducible first | exact HB.out | apply below_alloc | apply pw_below_drewN | apply below_drew1 | refine below_set ?_ (IsS41.ge HI149.out)) | exact HB.out)⟩

/-- THE ONE PURE STATEMENT of milestonelaw14_LinkMisses: yours. -/
def milestonelaw14_LinkMisses.Pure : Prop := ∀ (l0 : List Bool), l0.length ≤ maxLen → (∀ x ∈ l0, True) → ∃ k, milestonelaw14_LinkMisses.f k l0 = some true
theorem milestonelaw14_LinkMisses.walk (P : milestonelaw14_LinkMisses.Pure) (a0 : Option Addr) (cap0 : Nat) (l0 : List Bool) (w : World) (hr0 : Kd.C Kd.bool w a0 l0.length l0) (hc0 : l0.length ≤ cap0) (hm0 : l0.length ≤ maxLen) (hw0 : ∀ x ∈ l0, True) :
    Calls Try.prog 3 #[.slice a0 l0.length cap0] w fun e w' => e = .returned (.bool true) ∧ Below w.heap.size w w' := by
  obtain ⟨k, h⟩ := P l0 hm0 hw0
  refine (milestonelaw14_LinkMisses.calls k _ _ l0 true w hr0 hc0 h).mono ?_
  rintro e w' ⟨rfl, hd⟩
  exact ⟨rfl, hd⟩

end Go.Proofs.Ytkdjpkgaknfdeaa.QLinkMisses
