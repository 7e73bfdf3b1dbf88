-- Lines by a program of this session, for this claim.
import Derived.Test.YtkdjpkgaknfdeaaQLinkLivesx0
import Derived.Test.YtkdjpkgaknfdeaaQLinkLivesx1
namespace Go.Proofs.Ytkdjpkgaknfdeaa.QLinkLives
open Go.RowKit Go.Proofs.YtkdjpkgaknfdeaaW.PrintWords Go.Proofs.YtkdjpkgaknfdeaaW.PrintLast Go.Proofs.YtkdjpkgaknfdeaaW.PrintMore
attribute [local go_sem] max2_int min2_int max_two min_two max_three min_three max_four min_four   -- for this text's walks alone
set_option linter.unusedVariables false
set_option linter.unusedSimpArgs false

/-! ### milestonelaw14_LinkLives: function 6 -/
mutual
def milestonelaw14_LinkLives.j0 : Nat → Int → Int → Int → Bool → Option (Bool)
  | 0, _, _, _, _ => none
  | k + 1, x0, x1, x2, x18 => if x18 = true then ((milestonelaw14_awake.f).bind fun t143 => (some t143)) else ((link_New.f 5).bind fun bt144 => (milestonelaw14_LinkLives.l0 k x0 x1 5 (IntKind.u64.wrap (1 + (IntKind.u64.wrap (Int.tmod x2 5)))) 0 bt144.1 bt144.2.1 bt144.2.2.1 bt144.2.2.2.1 bt144.2.2.2.2))
def milestonelaw14_LinkLives.l0 : Nat → Int → Int → Int → Int → Int → Int → Int → Int → Int → Int → Option (Bool)
  | 0, _, _, _, _, _, _, _, _, _, _ => none
  | k + 1, x0, x1, x7, x9, x10, x150000, x150001, x150002, x150003, x150004 => if x10 < (wrap64 (2 + (wrap64 (x1)))) then ((link_Link_Hello.f x150000 x150001 x150002 x150003 x150004 (IntKind.u64.wrap (x10)) x7).bind fun bt156 => ((link_Link_Heard.f bt156.1 bt156.2.1 bt156.2.2.1 bt156.2.2.2.1 bt156.2.2.2.2 x0 x7).bind fun bt161 => (if x0 = 0 then (milestonelaw14_LinkLives.j2 k x0 x1 x7 x9 x10 1 bt161.1 bt161.2.1 bt161.2.2.1 bt161.2.2.2.1 bt161.2.2.2.2) else (milestonelaw14_LinkLives.j2 k x0 x1 x7 x9 x10 x0 bt161.1 bt161.2.1 bt161.2.2.1 bt161.2.2.2.1 bt161.2.2.2.2)))) else ((link_Link_Alive.f x150000 x150001 x150002 x150003 x150004).bind fun bt150 => (some bt150.1))
def milestonelaw14_LinkLives.j2 : Nat → Int → Int → Int → Int → Int → Int → Int → Int → Int → Int → Int → Option (Bool)
  | 0, _, _, _, _, _, _, _, _, _, _, _ => none
  | k + 1, x0, x1, x7, x9, x10, x11, x150000, x150001, x150002, x150003, x150004 => if x10 > 0 then ((link_Link_Cost.f x150000 x150001 x150002 x150003 x150004).bind fun bt166 => (milestonelaw14_LinkLives.j3 k x0 x1 x7 x9 x10 (bt166.1 != x11) bt166.2.1 bt166.2.2.1 bt166.2.2.2.1 bt166.2.2.2.2.1 bt166.2.2.2.2.2)) else (milestonelaw14_LinkLives.j3 k x0 x1 x7 x9 x10 false x150000 x150001 x150002 x150003 x150004)
def milestonelaw14_LinkLives.j3 : Nat → Int → Int → Int → Int → Int → Bool → Int → Int → Int → Int → Int → Option (Bool)
  | 0, _, _, _, _, _, _, _, _, _, _, _ => none
  | k + 1, x0, x1, x7, x9, x10, x52, x150000, x150001, x150002, x150003, x150004 => if x52 = true then (some false) else (milestonelaw14_LinkLives.l1 k x0 x1 x7 x9 x10 0 x150000 x150001 x150002 x150003 x150004)
def milestonelaw14_LinkLives.l1 : Nat → Int → Int → Int → Int → Int → Int → Int → Int → Int → Int → Int → Option (Bool)
  | 0, _, _, _, _, _, _, _, _, _, _, _ => none
  | k + 1, x0, x1, x7, x9, x10, x12, x150000, x150001, x150002, x150003, x150004 => if x12 < x9 then ((link_Link_Tick.f k x150000 x150001 x150002 x150003 x150004 (IntKind.u64.wrap (x7 + 1))).bind fun bt172 => (milestonelaw14_LinkLives.l1 k x0 x1 (IntKind.u64.wrap (x7 + 1)) x9 x10 (IntKind.u64.wrap (x12 + 1)) bt172.1 bt172.2.1 bt172.2.2.1 bt172.2.2.2.1 bt172.2.2.2.2)) else (milestonelaw14_LinkLives.l0 k x0 x1 x7 x9 (wrap64 (x10 + 1)) x150000 x150001 x150002 x150003 x150004)
end
def milestonelaw14_LinkLives.f (k : Nat) (a0 : Int) (a1 : Int) (a2 : Int) : Option (Bool) := (milestonelaw14_awake.f).bind fun t142 => (if t142 = true then (milestonelaw14_LinkLives.j0 k a0 a1 a2 (a0 == 65535)) else (milestonelaw14_LinkLives.j0 k a0 a1 a2 true))
theorem milestonelaw14_LinkLives.mono_l : ∀ k, (∀ y0 y1 y2 y3, LeO (milestonelaw14_LinkLives.j0 k y0 y1 y2 y3) (milestonelaw14_LinkLives.j0 (k + 1) y0 y1 y2 y3)) ∧ (∀ y0 y1 y2 y3 y4 y5 y6 y7 y8 y9, LeO (milestonelaw14_LinkLives.l0 k y0 y1 y2 y3 y4 y5 y6 y7 y8 y9) (milestonelaw14_LinkLives.l0 (k + 1) y0 y1 y2 y3 y4 y5 y6 y7 y8 y9)) ∧ (∀ y0 y1 y2 y3 y4 y5 y6 y7 y8 y9 y10, LeO (milestonelaw14_LinkLives.j2 k y0 y1 y2 y3 y4 y5 y6 y7 y8 y9 y10) (milestonelaw14_LinkLives.j2 (k + 1) y0 y1 y2 y3 y4 y5 y6 y7 y8 y9 y10)) ∧ (∀ y0 y1 y2 y3 y4 y5 y6 y7 y8 y9 y10, LeO (milestonelaw14_LinkLives.j3 k y0 y1 y2 y3 y4 y5 y6 y7 y8 y9 y10) (milestonelaw14_LinkLives.j3 (k + 1) y0 y1 y2 y3 y4 y5 y6 y7 y8 y9 y10)) ∧ (∀ y0 y1 y2 y3 y4 y5 y6 y7 y8 y9 y10, LeO (milestonelaw14_LinkLives.l1 k y0 y1 y2 y3 y4 y5 y6 y7 y8 y9 y10) (milestonelaw14_LinkLives.l1 (k + 1) y0 y1 y2 y3 y4 y5 y6 y7 y8 y9 y10))
  | 0 => ⟨fun _ _ _ _ r h => by simp [milestonelaw14_LinkLives.j0] at h, fun _ _ _ _ _ _ _ _ _ _ r h => by simp [milestonelaw14_LinkLives.l0] at h, fun _ _ _ _ _ _ _ _ _ _ _ r h => by simp [milestonelaw14_LinkLives.j2] at h, fun _ _ _ _ _ _ _ _ _ _ _ r h => by simp [milestonelaw14_LinkLives.j3] at h, fun _ _ _ _ _ _ _ _ _ _ _ r h => by simp [milestonelaw14_LinkLives.l1] at h⟩
  | k + 1 => by
    obtain ⟨ih0, ih1, ih2, ih3, ih4⟩ := milestonelaw14_LinkLives.mono_l k
    refine ⟨?_, ?_, ?_, ?_, ?_⟩
    · intro y0 y1 y2 y3
      unfold milestonelaw14_LinkLives.j0
      repeat' first
      | (with_reducible exact ih0 _ _ _ _)
      | (with_reducible exact ih1 _ _ _ _ _ _ _ _ _ _)
      | (with_reducible exact ih2 _ _ _ _ _ _ _ _ _ _ _)
      | (with_reducible exact ih3 _ _ _ _ _ _ _ _ _ _ _)
      | (with_reducible exact ih4 _ _ _ _ _ _ _ _ _ _ _)
      | (with_reducible exact link_Link_Tick.mono _ _ _ _ _ _ _)
      | (with_reducible exact LeO.refl _)
      | (with_reducible exact LeO.none _)
      | (with_reducible refine LeO.ite ?_ ?_)
      | (with_reducible refine LeO.bind ?_ (fun _ => ?_))
      | exact ih0 _ _ _ _
      | exact ih1 _ _ _ _ _ _ _ _ _ _
      | exact ih2 _ _ _ _ _ _ _ _ _ _ _
      | exact ih3 _ _ _ _ _ _ _ _ _ _ _
      | exact ih4 _ _ _ _ _ _ _ _ _ _ _
      | exact link_Link_Tick.mono _ _ _ _ _ _ _
      | exact LeO.none _
      | refine LeO.ite ?_ ?_
      | refine LeO.bind ?_ (fun _ => ?_)
    · intro y0 y1 y2 y3 y4 y5 y6 y7 y8 y9
      unfold milestonelaw14_LinkLives.l0
      repeat' first
      | (with_reducible exact ih0 _ _ _ _)
      | (with_reducible exact ih1 _ _ _ _ _ _ _ _ _ _)
      | (with_reducible exact ih2 _ _ _ _ _ _ _ _ _ _ _)
      | (with_reducible exact ih3 _ _ _ _ _ _ _ _ _ _ _)
      | (with_reducible exact ih4 _ _ _ _ _ _ _ _ _ _ _)
      | (with_reducible exact link_Link_Tick.mono _ _ _ _ _ _ _)
      | (with_reducible exact LeO.refl _)
      | (with_reducible exact LeO.none _)
      | (with_reducible refine LeO.ite ?_ ?_)
      | (with_reducible refine LeO.bind ?_ (fun _ => ?_))
      | exact ih0 _ _ _ _
      | exact ih1 _ _ _ _ _ _ _ _ _ _
      | exact ih2 _ _ _ _ _ _ _ _ _ _ _
      | exact ih3 _ _ _ _ _ _ _ _ _ _ _
      | exact ih4 _ _ _ _ _ _ _ _ _ _ _
      | exact link_Link_Tick.mono _ _ _ _ _ _ _
      | exact LeO.none _
      | refine LeO.ite ?_ ?_
      | refine LeO.bind ?_ (fun _ => ?_)
    · intro y0 y1 y2 y3 y4 y5 y6 y7 y8 y9 y10
      unfold milestonelaw14_LinkLives.j2
      repeat' first
      | (with_reducible exact ih0 _ _ _ _)
      | (with_reducible exact ih1 _ _ _ _ _ _ _ _ _ _)
      | (with_reducible exact ih2 _ _ _ _ _ _ _ _ _ _ _)
      | (with_reducible exact ih3 _ _ _ _ _ _ _ _ _ _ _)
      | (with_reducible exact ih4 _ _ _ _ _ _ _ _ _ _ _)
      | (with_reducible exact link_Link_Tick.mono _ _ _ _ _ _ _)
      | (with_reducible exact LeO.refl _)
      | (with_reducible exact LeO.none _)
      | (with_reducible refine LeO.ite ?_ ?_)
      | (with_reducible refine LeO.bind ?_ (fun _ => ?_))
      | exact ih0 _ _ _ _
      | exact ih1 _ _ _ _ _ _ _ _ _ _
      | exact ih2 _ _ _ _ _ _ _ _ _ _ _
      | exact ih3 _ _ _ _ _ _ _ _ _ _ _
      | exact ih4 _ _ _ _ _ _ _ _ _ _ _
      | exact link_Link_Tick.mono _ _ _ _ _ _ _
      | exact LeO.none _
      | refine LeO.ite ?_ ?_
      | refine LeO.bind ?_ (fun _ => ?_)
    · intro y0 y1 y2 y3 y4 y5 y6 y7 y8 y9 y10
      unfold milestonelaw14_LinkLives.j3
      repeat' first
      | (with_reducible exact ih0 _ _ _ _)
      | (with_reducible exact ih1 _ _ _ _ _ _ _ _ _ _)
      | (with_reducible exact ih2 _ _ _ _ _ _ _ _ _ _ _)
      | (with_reducible exact ih3 _ _ _ _ _ _ _ _ _ _ _)
      | (with_reducible exact ih4 _ _ _ _ _ _ _ _ _ _ _)
      | (with_reducible exact link_Link_Tick.mono _ _ _ _ _ _ _)
      | (with_reducible exact LeO.refl _)
      | (with_reducible exact LeO.none _)
      | (with_reducible refine LeO.ite ?_ ?_)
      | (with_reducible refine LeO.bind ?_ (fun _ => ?_))
      | exact ih0 _ _ _ _
      | exact ih1 _ _ _ _ _ _ _ _ _ _
      | exact ih2 _ _ _ _ _ _ _ _ _ _ _
      | exact ih3 _ _ _ _ _ _ _ _ _ _ _
      | exact ih4 _ _ _ _ _ _ _ _ _ _ _
      | exact link_Link_Tick.mono _ _ _ _ _ _ _
      | exact LeO.none _
      | refine LeO.ite ?_ ?_
      | refine LeO.bind ?_ (fun _ => ?_)
    · intro y0 y1 y2 y3 y4 y5 y6 y7 y8 y9 y10
      unfold milestonelaw14_LinkLives.l1
      repeat' first
      | (with_reducible exact ih0 _ _ _ _)
      | (with_reducible exact ih1 _ _ _ _ _ _ _ _ _ _)
      | (with_reducible exact ih2 _ _ _ _ _ _ _ _ _ _ _)
      | (with_reducible exact ih3 _ _ _ _ _ _ _ _ _ _ _)
      | (with_reducible exact ih4 _ _ _ _ _ _ _ _ _ _ _)
      | (with_reducible exact link_Link_Tick.mono _ _ _ _ _ _ _)
      | (with_reducible exact LeO.refl _)
      | (with_reducible exact LeO.none _)
      | (with_reducible refine LeO.ite ?_ ?_)
      | (with_reducible refine LeO.bind ?_ (fun _ => ?_))
      | exact ih0 _ _ _ _
      | exact ih1 _ _ _ _ _ _ _ _ _ _
      | exact ih2 _ _ _ _ _ _ _ _ _ _ _
      | exact ih3 _ _ _ _ _ _ _ _ _ _ _
      | exact ih4 _ _ _ _ _ _ _ _ _ _ _
      | exact link_Link_Tick.mono _ _ _ _ _ _ _
      | exact LeO.none _
      | refine LeO.ite ?_ ?_
      | refine LeO.bind ?_ (fun _ => ?_)
theorem milestonelaw14_LinkLives.mono : ∀ a0 a1 a2 k, LeO (milestonelaw14_LinkLives.f k a0 a1 a2) (milestonelaw14_LinkLives.f (k + 1) a0 a1 a2) := by
  intro a0 a1 a2 k
  obtain ⟨ih0, ih1, ih2, ih3, ih4⟩ := milestonelaw14_LinkLives.mono_l k
  unfold milestonelaw14_LinkLives.f
  repeat' first
      | (with_reducible exact ih0 _ _ _ _)
      | (with_reducible exact ih1 _ _ _ _ _ _ _ _ _ _)
      | (with_reducible exact ih2 _ _ _ _ _ _ _ _ _ _ _)
      | (with_reducible exact ih3 _ _ _ _ _ _ _ _ _ _ _)
      | (with_reducible exact ih4 _ _ _ _ _ _ _ _ _ _ _)
      | (with_reducible exact link_Link_Tick.mono _ _ _ _ _ _ _)
      | (with_reducible exact LeO.refl _)
      | (with_reducible exact LeO.none _)
      | (with_reducible refine LeO.ite ?_ ?_)
      | (with_reducible refine LeO.bind ?_ (fun _ => ?_))
      | exact ih0 _ _ _ _
      | exact ih1 _ _ _ _ _ _ _ _ _ _
      | exact ih2 _ _ _ _ _ _ _ _ _ _ _
      | exact ih3 _ _ _ _ _ _ _ _ _ _ _
      | exact ih4 _ _ _ _ _ _ _ _ _ _ _
      | exact link_Link_Tick.mono _ _ _ _ _ _ _
      | exact LeO.none _
      | refine LeO.ite ?_ ?_
      | refine LeO.bind ?_ (fun _ => ?_)
set_option maxHeartbeats 8000000 in
set_option maxRecDepth 100000 in
theorem milestonelaw14_LinkLives.calls (k : Nat) (a0 : Int) (a1 : Int) (a2 : Int) (r : Bool) (w : World) (h : milestonelaw14_LinkLives.f k a0 a1 a2 = some r) :
    Calls Try.prog 6 #[.int .u16 a0, .int .u8 a1, .int .u8 a2] w fun e w' => e = .returned (.bool r) ∧ Below w.heap.size w w' := by
  have HB := Aside0.mk (Below.refl w.heap.size w)
  have H : ((milestonelaw14_awake.f).bind fun t142 => (if t142 = true then (milestonelaw14_LinkLives.j0 k a0 a1 a2 (a0 == 65535)) else (milestonelaw14_LinkLives.j0 k a0 a1 a2 true))) = some r := h
  clear h
  have HC4 := Aside0.mk H
  clear H
  go_enter Try.func6, Try.ntmps6
  go_upto_region 1 with (fail)
  go_cut [18] (fun v18 wc => ∃ (kq : Nat) (x18_3 : Bool), v18 = .bool x18_3 ∧ Aside0 (milestonelaw14_LinkLives.j0 kq a0 a1 a2 x18_3 = some r) ∧ Aside0 (kq ≤ k) ∧ Aside0 (Below w.heap.size w wc))
  case first =>
    have H := HC4.out
    clear HC4
    replace H := Option.bind_eq_some_iff.mp H
    obtain ⟨t142, A50, H⟩ := H
    replace H : (if t142 = true then (milestonelaw14_LinkLives.j0 k a0 a1 a2 (a0 == 65535)) else (milestonelaw14_LinkLives.j0 k a0 a1 a2 true)) = some r := H
    have A5 := Aside0.mk A50
    clear A50
    by_cases c6 : t142 = true
    · subst c6
      have H1 : (milestonelaw14_LinkLives.j0 k a0 a1 a2 (a0 == 65535)) = some r := by rw [if_pos rfl] at H; exact H
      clear H
      have H := H1
      clear H1
      have H' := Aside0.mk H
      clear H
      go_wp2_with (first | ((with_reducible refine gate_callee (f := 8) rfl ?_); refine goesL_ (some 13) rfl rfl Try.func8 (by kernel_rfl) rfl #[] rfl (by (try simp only [List.map_toArray, List.map_cons, List.map_nil]); first | done | rfl | (simp only [List.length_drop, List.length_take]; rfl) | (simp; done) | (refine qa_arr ?_; (repeat' (first | rfl | refine qa_cons ?_ ?_ | refine qa_int ?_ | refine qa_agg ?_ | refine qa_arr ?_ | omega)); done)) ?_; (with_reducible refine (milestonelaw14_awake.calls  true _ A5.out).mono ?_); rintro e w7 ⟨rfl, hb⟩; refine ⟨_, rfl, ?_⟩; have n0_ := Aside0.mk (below_step (by repeat (first | (with_reducible first | exact HB.out | apply below_alloc | apply pw_below_drewN | apply below_drew1) | exact HB.out)) hb); clear HB; have HB := n0_; clear n0_; (try clear hb); (try clear hb2); (try clear hk); (try clear hi)))
      go_meet
      case rel => exact ⟨_, ((a0 == 65535)), (by first | rfl | (simp; done) | (simp [*]; done) | (refine qa_int ?_; omega) | (refine qa_int ?_; simp <;> omega)), H', ⟨by first | omega | exact Nat.le_refl _⟩, ⟨by repeat (first | (with_reducible first | exact HB.out | apply below_alloc | apply pw_below_drewN | apply below_drew1) | exact HB.out)⟩⟩
    · replace c6 := Bool.eq_false_iff.mpr c6
      subst c6
      have H1 : (milestonelaw14_LinkLives.j0 k a0 a1 a2 true) = some r := by rw [if_neg (show ¬ (false = true) by decide)] at H; exact H
      clear H
      have H := H1
      clear H1
      have H' := Aside0.mk H
      clear H
      go_wp2_with (first | ((with_reducible refine gate_callee (f := 8) rfl ?_); refine goesL_ (some 13) rfl rfl Try.func8 (by kernel_rfl) rfl #[] rfl (by (try simp only [List.map_toArray, List.map_cons, List.map_nil]); first | done | rfl | (simp only [List.length_drop, List.length_take]; rfl) | (simp; done) | (refine qa_arr ?_; (repeat' (first | rfl | refine qa_cons ?_ ?_ | refine qa_int ?_ | refine qa_agg ?_ | refine qa_arr ?_ | omega)); done)) ?_; (with_reducible refine (milestonelaw14_awake.calls  false _ A5.out).mono ?_); rintro e w8 ⟨rfl, hb⟩; refine ⟨_, rfl, ?_⟩; have n0_ := Aside0.mk (below_step (by repeat (first | (with_reducible first | exact HB.out | apply below_alloc | apply pw_below_drewN | apply below_drew1) | exact HB.out)) hb); clear HB; have HB := n0_; clear n0_; (try clear hb); (try clear hb2); (try clear hk); (try clear hi)))
      go_meet
      case rel => exact ⟨_, (true), (by first | rfl | (simp; done) | (simp [*]; done) | (refine qa_int ?_; omega) | (refine qa_int ?_; simp <;> omega)), H', ⟨by first | omega | exact Nat.le_refl _⟩, ⟨by repeat (first | (with_reducible first | exact HB.out | apply below_alloc | apply pw_below_drewN | apply below_drew1) | exact HB.out)⟩⟩
  case rest =>
    clear HC4
    try clear p2
    try clear c6
    try clear c8
    obtain ⟨kq, x18_3, rfl, HA, HJ3, HB⟩ := hcut
    cases kq with
    | zero => exact absurd HA.out (by simp [milestonelaw14_LinkLives.j0])
    | succ kj3 =>
      have H := HA.out
      clear HA
      simp only [milestonelaw14_LinkLives.j0] at H
      by_cases c9 : x18_3 = true
      · subst c9
        have H1 : ((milestonelaw14_awake.f).bind fun t143 => (some t143)) = some r := by rw [if_pos rfl] at H; exact H
        clear H
        have H := H1
        clear H1
        replace H := Option.bind_eq_some_iff.mp H
        obtain ⟨t143, A100, H⟩ := H
        replace H : (some t143) = some r := H
        have A10 := Aside0.mk A100
        clear A100
        obtain rfl := Option.some.inj H
        go_wp2_with (first | ((with_reducible refine gate_callee (f := 8) rfl ?_); refine goesL_ (some 19) rfl rfl Try.func8 (by kernel_rfl) rfl #[] rfl (by (try simp only [List.map_toArray, List.map_cons, List.map_nil]); first | done | rfl | (simp only [List.length_drop, List.length_take]; rfl) | (simp; done) | (refine qa_arr ?_; (repeat' (first | rfl | refine qa_cons ?_ ?_ | refine qa_int ?_ | refine qa_agg ?_ | refine qa_arr ?_ | omega)); done)) ?_; (with_reducible refine (milestonelaw14_awake.calls  t143 _ A10.out).mono ?_); rintro e w11 ⟨rfl, hb⟩; refine ⟨_, rfl, ?_⟩; have n0_ := Aside0.mk (below_step (by repeat (first | (with_reducible first | exact HB.out | apply below_alloc | apply pw_below_drewN | apply below_drew1) | exact HB.out)) hb); clear HB; have HB := n0_; clear n0_; (try clear hb); (try clear hb2); (try clear hk); (try clear hi)))
        go_ret
        exact ⟨by first | rfl | (simp [errW_none, errW_some] <;> rfl) | (simp [*, errW_none, errW_some] <;> rfl), by repeat (first | (with_reducible first | exact HB.out | apply below_alloc | apply pw_below_drewN | apply below_drew1) | exact HB.out)⟩
      · replace c9 := Bool.eq_false_iff.mpr c9
        subst c9
        have H1 : ((link_New.f 5).bind fun bt144 => (milestonelaw14_LinkLives.l0 kj3 a0 a1 5 (IntKind.u64.wrap (1 + (IntKind.u64.wrap (Int.tmod a2 5)))) 0 bt144.1 bt144.2.1 bt144.2.2.1 bt144.2.2.2.1 bt144.2.2.2.2)) = some r := by rw [if_neg (show ¬ (false = true) by decide)] at H; exact H
        clear H
        have H := H1
        clear H1
        replace H := Option.bind_eq_some_iff.mp H
        obtain ⟨⟨t144, t145, t146, t147, t148⟩, A120, H⟩ := H
        replace H : (milestonelaw14_LinkLives.l0 kj3 a0 a1 5 (IntKind.u64.wrap (1 + (IntKind.u64.wrap (Int.tmod a2 5)))) 0 t144 t145 t146 t147 t148) = some r := H
        have A12 := Aside0.mk A120
        clear A120
        have H' := Aside0.mk H
        clear H
        go_wp2_with (first | ((with_reducible refine gate_callee (f := 9) rfl ?_); refine goesL_ (some 21) rfl rfl Try.func9 (by kernel_rfl) rfl #[.int .u64 5] rfl (by (try simp only [List.map_toArray, List.map_cons, List.map_nil]); first | done | rfl | (simp only [List.length_drop, List.length_take]; rfl) | (simp; done) | (refine qa_arr ?_; (repeat' (first | rfl | refine qa_cons ?_ ?_ | refine qa_int ?_ | refine qa_agg ?_ | refine qa_arr ?_ | omega)); done)) ?_; (with_reducible refine (link_New.calls 5 t144 t145 t146 t147 t148 w _ ?side1 A12.out).mono ?_); (case side1 => repeat (first | (with_reducible first | exact HB.out | apply below_alloc | apply pw_below_drewN | apply below_drew1) | exact HB.out)); rintro e w13 ⟨g149, rfl, hi, hb, hb2⟩; refine ⟨_, rfl, ?_⟩; have n0_ := Aside0.mk (hb); have n1_ := Aside0.mk (hi); clear HB; have HB := n0_; have HI149 := n1_; clear n0_ n1_; (try clear hb); (try clear hb2); (try clear hk); (try clear hi)))
        go_loopg [7, 10] kj3 (fun kq v7 v10 w' => ∃ (x7_2 : Int) (x10_2 : Int) (x150000_2 : Int) (x150001_2 : Int) (x150002_2 : Int) (x150003_2 : Int) (x150004_2 : Int), v7 = .int .u64 x7_2 ∧ v10 = .int .i64 x10_2 ∧ Aside0 (milestonelaw14_LinkLives.l0 kq a0 a1 x7_2 (IntKind.u64.wrap (1 + (IntKind.u64.wrap (Int.tmod a2 5)))) x10_2 x150000_2 x150001_2 x150002_2 x150003_2 x150004_2 = some r) ∧ Aside0 (kq ≤ kj3) ∧ Aside0 (IsS41 w w' g149 x150000_2 x150001_2 x150002_2 x150003_2 x150004_2) ∧ Aside0 (Below w.heap.size w w'))
        case atStart => exact ⟨(5), (0), (t144), (t145), (t146), (t147), (t148), (by first | rfl | (simp; done) | (simp [*]; done) | (refine qa_int ?_; omega) | (refine qa_int ?_; simp <;> omega)), (by first | rfl | (simp; done) | (simp [*]; done) | (refine qa_int ?_; omega) | (refine qa_int ?_; simp <;> omega)), H', ⟨Nat.le_refl _⟩, ⟨by repeat (first | (with_reducible first | exact HI149.out | apply IsS41.alloc | apply IsS41.drewN | apply IsS41.drew | apply IsS41.set_0 | apply IsS41.set_1 | apply IsS41.set_2 | apply IsS41.set_3 | apply IsS41.set_4) | exact HI149.out)⟩, ⟨by repeat (first | (with_reducible first | exact HB.out | apply below_alloc | apply pw_below_drewN | apply below_drew1 | refine below_set ?_ (IsS41.ge HI149.out)) | exact HB.out)⟩⟩
        case round =>
          clear H'
          try clear p2
          try clear c6
          try clear c8
          try clear c9
          try clear p2
          obtain ⟨x7_2, x10_2, x150000_2, x150001_2, x150002_2, x150003_2, x150004_2, rfl, rfl, HA, HK2, HI149, HB⟩ := hrel
          cases gk with
          | zero => exact absurd HA.out (by simp [milestonelaw14_LinkLives.l0])
          | succ k2 =>
            have H := HA.out
            clear HA
            simp only [milestonelaw14_LinkLives.l0] at H
            by_cases c14 : x10_2 < (wrap64 (2 + (wrap64 (a1))))
            · rw [if_pos c14] at H
              have c14b0 : decide (x10_2 < (wrap64 (2 + (wrap64 (a1))))) = true := decide_eq_true c14
              clear c14
              replace H := Option.bind_eq_some_iff.mp H
              obtain ⟨⟨t156, t157, t158, t159, t160⟩, A150, H⟩ := H
              replace H : ((link_Link_Heard.f t156 t157 t158 t159 t160 a0 x7_2).bind fun bt161 => (if a0 = 0 then (milestonelaw14_LinkLives.j2 k2 a0 a1 x7_2 (IntKind.u64.wrap (1 + (IntKind.u64.wrap (Int.tmod a2 5)))) x10_2 1 bt161.1 bt161.2.1 bt161.2.2.1 bt161.2.2.2.1 bt161.2.2.2.2) else (milestonelaw14_LinkLives.j2 k2 a0 a1 x7_2 (IntKind.u64.wrap (1 + (IntKind.u64.wrap (Int.tmod a2 5)))) x10_2 a0 bt161.1 bt161.2.1 bt161.2.2.1 bt161.2.2.2.1 bt161.2.2.2.2))) = some r := H
              have A15 := Aside0.mk A150
              clear A150
              replace H := Option.bind_eq_some_iff.mp H
              obtain ⟨⟨t161, t162, t163, t164, t165⟩, A160, H⟩ := H
              replace H : (if a0 = 0 then (milestonelaw14_LinkLives.j2 k2 a0 a1 x7_2 (IntKind.u64.wrap (1 + (IntKind.u64.wrap (Int.tmod a2 5)))) x10_2 1 t161 t162 t163 t164 t165) else (milestonelaw14_LinkLives.j2 k2 a0 a1 x7_2 (IntKind.u64.wrap (1 + (IntKind.u64.wrap (Int.tmod a2 5)))) x10_2 a0 t161 t162 t163 t164 t165)) = some r := H
              have A16 := Aside0.mk A160
              clear A160
              have HC17 := Aside0.mk H
              clear H
              go_upto_if 44 with (first | ((with_reducible refine gate_callee (f := 10) rfl ?_); refine goesL_ (some 37) rfl rfl Try.func10 (by kernel_rfl) rfl #[.pointer (some ⟨g149, 0, none⟩), .int .u64 (IntKind.u64.wrap (x10_2)), .int .u64 x7_2] rfl (by (try simp only [List.map_toArray, List.map_cons, List.map_nil]); first | done | rfl | (simp only [List.length_drop, List.length_take]; rfl) | (simp; done) | (refine qa_arr ?_; (repeat' (first | rfl | refine qa_cons ?_ ?_ | refine qa_int ?_ | refine qa_agg ?_ | refine qa_arr ?_ | omega)); done)) ?_; (with_reducible refine (link_Link_Hello.calls g149 x150000_2 x150001_2 x150002_2 x150003_2 x150004_2 (IntKind.u64.wrap (x10_2)) x7_2 t156 t157 t158 t159 t160 w _ ?side1 ?side2 A15.out).mono ?_); (case side1 => repeat (first | (with_reducible first | exact HI149.out | apply IsS41.alloc | apply IsS41.drewN | apply IsS41.drew | apply IsS41.set_0 | apply IsS41.set_1 | apply IsS41.set_2 | apply IsS41.set_3 | apply IsS41.set_4) | exact HI149.out)); (case side2 => repeat (first | (with_reducible first | exact HB.out | apply below_alloc | apply pw_below_drewN | apply below_drew1 | refine below_set ?_ (IsS41.ge HI149.out)) | exact HB.out)); rintro e w18 ⟨rfl, hi, hb, hk⟩; refine ⟨_, rfl, ?_⟩; have n0_ := Aside0.mk (hb); have n1_ := Aside0.mk (hi); clear HB; clear HI149; have HB := n0_; have HI149 := n1_; clear n0_ n1_; (try clear hb); (try clear hb2); (try clear hk); (try clear hi)) | ((with_reducible refine gate_callee (f := 13) rfl ?_); refine goesL_ (some 41) rfl rfl Try.func13 (by kernel_rfl) rfl #[.pointer (some ⟨g149, 0, none⟩), .int .u16 a0, .int .u64 x7_2] rfl (by (try simp only [List.map_toArray, List.map_cons, List.map_nil]); first | done | rfl | (simp only [List.length_drop, List.length_take]; rfl) | (simp; done) | (refine qa_arr ?_; (repeat' (first | rfl | refine qa_cons ?_ ?_ | refine qa_int ?_ | refine qa_agg ?_ | refine qa_arr ?_ | omega)); done)) ?_; (with_reducible refine (link_Link_Heard.calls g149 t156 t157 t158 t159 t160 a0 x7_2 t161 t162 t163 t164 t165 w _ ?side1 ?side2 A16.out).mono ?_); (case side1 => repeat (first | (with_reducible first | exact HI149.out | apply IsS41.alloc | apply IsS41.drewN | apply IsS41.drew | apply IsS41.set_0 | apply IsS41.set_1 | apply IsS41.set_2 | apply IsS41.set_3 | apply IsS41.set_4) | exact HI149.out)); (case side2 => repeat (first | (with_reducible first | exact HB.out | apply below_alloc | apply pw_below_drewN | apply below_drew1 | refine below_set ?_ (IsS41.ge HI149.out)) | exact HB.out)); rintro e w19 ⟨rfl, hi, hb, hk⟩; refine ⟨_, rfl, ?_⟩; have n0_ := Aside0.mk (hb); have n1_ := Aside0.mk (hi); clear HB; clear HI149; have HB := n0_; have HI149 := n1_; clear n0_ n1_; (try clear hb); (try clear hb2); (try clear hk); (try clear hi)))
              (try simp only [Act.put, List.setIfInBounds_toArray, List.set_cons_zero, List.set_cons_succ])
              go_cut [11] (fun v11 wc => ∃ (kq : Nat) (x11_16 : Int), v11 = .int .u16 x11_16 ∧ Aside0 (milestonelaw14_LinkLives.j2 kq a0 a1 x7_2 (IntKind.u64.wrap (1 + (IntKind.u64.wrap (Int.tmod a2 5)))) x10_2 x11_16 t161 t162 t163 t164 t165 = some r) ∧ Aside0 (kq ≤ k2) ∧ Aside0 (IsS41 w wc g149 t161 t162 t163 t164 t165) ∧ Aside0 (Below w.heap.size w wc))
              case first =>
                have H := HC17.out
                clear HC17
                by_cases c20 : a0 = 0
                · rw [if_pos c20] at H
                  have c20b0 : (a0 == 0) = true := beq_iff_eq.mpr c20
                  have c20b1 : (a0 != 0) = false := bne_eq_false_iff_eq.mpr c20
                  clear c20
                  (first | rw [c20b0] | (simp only [i64_w, i32_w]; rw [c20b0]) | skip)
                  have H' := Aside0.mk H
                  clear H
                  go_wp2
                  go_meet
                  case rel => exact ⟨_, (1), (by first | rfl | (simp; done) | (simp [*]; done) | (refine qa_int ?_; omega) | (refine qa_int ?_; simp <;> omega)), H', ⟨by have := HJ3.out; have := HK2.out; first | omega | exact Nat.le_refl _⟩, ⟨by repeat (first | (with_reducible first | exact HI149.out | apply IsS41.alloc | apply IsS41.drewN | apply IsS41.drew | apply IsS41.set_0 | apply IsS41.set_1 | apply IsS41.set_2 | apply IsS41.set_3 | apply IsS41.set_4) | exact HI149.out)⟩, ⟨by repeat (first | (with_reducible first | exact HB.out | apply below_alloc | apply pw_below_drewN | apply below_drew1 | refine below_set ?_ (IsS41.ge HI149.out)) | exact HB.out)⟩⟩
                · rw [if_neg c20] at H
                  have c20b0 : (a0 == 0) = false := beq_eq_false_iff_ne.mpr c20
                  have c20b1 : (a0 != 0) = true := bne_iff_ne.mpr c20
                  (first | rw [c20b0] | (simp only [i64_w, i32_w]; rw [c20b0]) | skip)
                  have H' := Aside0.mk H
                  clear H
                  go_wp2
                  go_meet
                  case rel => exact ⟨_, (a0), (by first | rfl | (simp; done) | (simp [*]; done) | (refine qa_int ?_; omega) | (refine qa_int ?_; simp <;> omega)), H', ⟨by have := HJ3.out; have := HK2.out; first | omega | exact Nat.le_refl _⟩, ⟨by repeat (first | (with_reducible first | exact HI149.out | apply IsS41.alloc | apply IsS41.drewN | apply IsS41.drew | apply IsS41.set_0 | apply IsS41.set_1 | apply IsS41.set_2 | apply IsS41.set_3 | apply IsS41.set_4) | exact HI149.out)⟩, ⟨by repeat (first | (with_reducible first | exact HB.out | apply below_alloc | apply pw_below_drewN | apply below_drew1 | refine below_set ?_ (IsS41.ge HI149.out)) | exact HB.out)⟩⟩
              case rest =>
                clear HC17
                try clear c1
                try clear c2
                try clear p2
                try clear c6
                try clear p6
                try clear c8
                try clear c9
                try clear c10
                try clear c13
                try clear c14
                try clear c14b0
                try clear c20
                try clear c20b0
                try clear c20b1
                try clear p2
                obtain ⟨kq, x11_16, rfl, HA, HJ16, HI149, HB⟩ := hcut
                cases kq with
                | zero => exact absurd HA.out (by simp [milestonelaw14_LinkLives.j2])
                | succ kj16 =>
                  have H := HA.out
                  clear HA
                  simp only [milestonelaw14_LinkLives.j2] at H
                  have HC21 := Aside0.mk H
                  clear H
                  go_upto_region 14 with (fail)
                  go_cut [52] (fun v52 wc => ∃ (kq : Nat) (x52_20 : Bool) (x150000_20 : Int) (x150001_20 : Int) (x150002_20 : Int) (x150003_20 : Int) (x150004_20 : Int), v52 = .bool x52_20 ∧ Aside0 (milestonelaw14_LinkLives.j3 kq a0 a1 x7_2 (IntKind.u64.wrap (1 + (IntKind.u64.wrap (Int.tmod a2 5)))) x10_2 x52_20 x150000_20 x150001_20 x150002_20 x150003_20 x150004_20 = some r) ∧ Aside0 (kq ≤ kj16) ∧ Aside0 (IsS41 w wc g149 x150000_20 x150001_20 x150002_20 x150003_20 x150004_20) ∧ Aside0 (Below w.heap.size w wc))
                  case first =>
                    have H := HC21.out
                    clear HC21
                    by_cases c22 : x10_2 > 0
                    · rw [if_pos c22] at H
                      have c22b0 : decide (0 < x10_2) = true := decide_eq_true c22
                      clear c22
                      (first | rw [c22b0] | (simp only [i64_w, i32_w]; rw [c22b0]) | skip)
                      replace H := Option.bind_eq_some_iff.mp H
                      obtain ⟨⟨t166, t167, t168, t169, t170, t171⟩, A230, H⟩ := H
                      replace H : (milestonelaw14_LinkLives.j3 kj16 a0 a1 x7_2 (IntKind.u64.wrap (1 + (IntKind.u64.wrap (Int.tmod a2 5)))) x10_2 (t166 != x11_16) t167 t168 t169 t170 t171) = some r := H
                      have A23 := Aside0.mk A230
                      clear A230
                      have H' := Aside0.mk H
                      clear H
                      go_wp2_with (first | (go_at_call 15; (with_reducible refine (link_Link_Cost.calls g149 t161 t162 t163 t164 t165 t166 t167 t168 t169 t170 t171 w _ ?side1 ?side2 A23.out).mono ?_); (case side1 => repeat (first | (with_reducible first | exact HI149.out | apply IsS41.alloc | apply IsS41.drewN | apply IsS41.drew | apply IsS41.set_0 | apply IsS41.set_1 | apply IsS41.set_2 | apply IsS41.set_3 | apply IsS41.set_4) | exact HI149.out)); (case side2 => repeat (first | (with_reducible first | exact HB.out | apply below_alloc | apply pw_below_drewN | apply below_drew1 | refine below_set ?_ (IsS41.ge HI149.out)) | exact HB.out)); rintro e w24 ⟨rfl, hi, hb, hk⟩; have n0_ := Aside0.mk (hb); have n1_ := Aside0.mk (hi); clear HB; clear HI149; have HB := n0_; have HI149 := n1_; clear n0_ n1_; (try clear hb); (try clear hb2); (try clear hk); (try clear hi)) | (go_at_call 15; (refine calls_of_args (args' := #[.pointer (some ⟨g149, 0, none⟩)]) ?_ ?_; focus (first | rfl | (simp; done) | (refine qa_arr ?_; (repeat' (first | rfl | refine qa_cons ?_ ?_ | refine qa_int ?_ | refine qa_agg ?_ | refine qa_arr ?_ | omega)); done)); (with_reducible refine (link_Link_Cost.calls g149 t161 t162 t163 t164 t165 t166 t167 t168 t169 t170 t171 w _ ?side1 ?side2 A23.out).mono ?_)); (case side1 => repeat (first | (with_reducible first | exact HI149.out | apply IsS41.alloc | apply IsS41.drewN | apply IsS41.drew | apply IsS41.set_0 | apply IsS41.set_1 | apply IsS41.set_2 | apply IsS41.set_3 | apply IsS41.set_4) | exact HI149.out)); (case side2 => repeat (first | (with_reducible first | exact HB.out | apply below_alloc | apply pw_below_drewN | apply below_drew1 | refine below_set ?_ (IsS41.ge HI149.out)) | exact HB.out)); rintro e w24 ⟨rfl, hi, hb, hk⟩; have n0_ := Aside0.mk (hb); have n1_ := Aside0.mk (hi); clear HB; clear HI149; have HB := n0_; have HI149 := n1_; clear n0_ n1_; (try clear hb); (try clear hb2); (try clear hk); (try clear hi)))
                      go_meet
                      case rel => exact ⟨_, ((t166 != x11_16)), (t167), (t168), (t169), (t170), (t171), (by first | rfl | (simp; done) | (simp [*]; done) | (refine qa_int ?_; omega) | (refine qa_int ?_; simp <;> omega)), H', ⟨by have := HJ3.out; have := HK2.out; have := HJ16.out; first | omega | exact Nat.le_refl _⟩, ⟨by repeat (first | (with_reducible first | exact HI149.out | apply IsS41.alloc | apply IsS41.drewN | apply IsS41.drew | apply IsS41.set_0 | apply IsS41.set_1 | apply IsS41.set_2 | apply IsS41.set_3 | apply IsS41.set_4) | exact HI149.out)⟩, ⟨by repeat (first | (with_reducible first | exact HB.out | apply below_alloc | apply pw_below_drewN | apply below_drew1 | refine below_set ?_ (IsS41.ge HI149.out)) | exact HB.out)⟩⟩
                    · rw [if_neg c22] at H
                      have c22b0 : decide (0 < x10_2) = false := decide_eq_false c22
                      clear c22
                      (first | rw [c22b0] | (simp only [i64_w, i32_w]; rw [c22b0]) | skip)
                      have H' := Aside0.mk H
                      clear H
                      go_wp2
                      go_meet
                      case rel => exact ⟨_, (false), (t161), (t162), (t163), (t164), (t165), (by first | rfl | (simp; done) | (simp [*]; done) | (refine qa_int ?_; omega) | (refine qa_int ?_; simp <;> omega)), H', ⟨by have := HJ3.out; have := HK2.out; have := HJ16.out; first | omega | exact Nat.le_refl _⟩, ⟨by repeat (first | (with_reducible first | exact HI149.out | apply IsS41.alloc | apply IsS41.drewN | apply IsS41.drew | apply IsS41.set_0 | apply IsS41.set_1 | apply IsS41.set_2 | apply IsS41.set_3 | apply IsS41.set_4) | exact HI149.out)⟩, ⟨by repeat (first | (with_reducible first | exact HB.out | apply below_alloc | apply pw_below_drewN | apply below_drew1 | refine below_set ?_ (IsS41.ge HI149.out)) | exact HB.out)⟩⟩
                  case rest =>
                    clear HC21
                    try clear c1
                    try clear c2
                    try clear p2
                    try clear c6
                    try clear p6
                    try clear c8
                    try clear c9
                    try clear c10
                    try clear c13
                    try clear c14
                    try clear c14b0
                    try clear c20
                    try clear c20b0
                    try clear c20b1
                    try clear c22
                    try clear c22b0
                    try clear p2
                    try clear p6
                    obtain ⟨kq, x52_20, x150000_20, x150001_20, x150002_20, x150003_20, x150004_20, rfl, HA, HJ20, HI149, HB⟩ := hcut
                    cases kq with
                    | zero => exact absurd HA.out (by simp [milestonelaw14_LinkLives.j3])
                    | succ kj20 =>
                      have H := HA.out
                      clear HA
                      simp only [milestonelaw14_LinkLives.j3] at H
                      by_cases c25 : x52_20 = true
                      · subst c25
                        have H1 : (some false) = some r := by rw [if_pos rfl] at H; exact H
                        clear H
                        have H := H1
                        clear H1
                        obtain rfl := Option.some.inj H
                        go_wp2
                        go_ret
                        exact ⟨by first | rfl | (simp [errW_none, errW_some] <;> rfl) | (simp [*, errW_none, errW_some] <;> rfl), by repeat (first | (with_reducible first | exact HB.out | apply below_alloc | apply pw_below_drewN | apply below_drew1 | refine below_set ?_ (IsS41.ge HI149.out)) | exact HB.out)⟩
                      · replace c25 := Bool.eq_false_iff.mpr c25
                        subst c25
                        have H1 : (milestonelaw14_LinkLives.l1 kj20 a0 a1 x7_2 (IntKind.u64.wrap (1 + (IntKind.u64.wrap (Int.tmod a2 5)))) x10_2 0 x150000_20 x150001_20 x150002_20 x150003_20 x150004_20) = some r := by rw [if_neg (show ¬ (false = true) by decide)] at H; exact H
                        clear H
                        have H := H1
                        clear H1
                        have H' := Aside0.mk H
                        clear H
                        go_wp2
                        go_loopg [7, 12] kj20 (fun kq v7 v12 w' => ∃ (x7_5 : Int) (x12_5 : Int) (x150000_5 : Int) (x150001_5 : Int) (x150002_5 : Int) (x150003_5 : Int) (x150004_5 : Int), v7 = .int .u64 x7_5 ∧ v12 = .int .u64 x12_5 ∧ Aside0 (milestonelaw14_LinkLives.l1 kq a0 a1 x7_5 (IntKind.u64.wrap (1 + (IntKind.u64.wrap (Int.tmod a2 5)))) x10_2 x12_5 x150000_5 x150001_5 x150002_5 x150003_5 x150004_5 = some r) ∧ Aside0 (kq ≤ kj20) ∧ Aside0 (IsS41 w w' g149 x150000_5 x150001_5 x150002_5 x150003_5 x150004_5) ∧ Aside0 (Below w.heap.size w w'))
                        case atStart => exact ⟨(x7_2), (0), (x150000_20), (x150001_20), (x150002_20), (x150003_20), (x150004_20), (by first | rfl | (simp; done) | (simp [*]; done) | (refine qa_int ?_; omega) | (refine qa_int ?_; simp <;> omega)), (by first | rfl | (simp; done) | (simp [*]; done) | (refine qa_int ?_; omega) | (refine qa_int ?_; simp <;> omega)), H', ⟨Nat.le_refl _⟩, ⟨by repeat (first | (with_reducible first | exact HI149.out | apply IsS41.alloc | apply IsS41.drewN | apply IsS41.drew | apply IsS41.set_0 | apply IsS41.set_1 | apply IsS41.set_2 | apply IsS41.set_3 | apply IsS41.set_4) | exact HI149.out)⟩, ⟨by repeat (first | (with_reducible first | exact HB.out | apply below_alloc | apply pw_below_drewN | apply below_drew1 | refine below_set ?_ (IsS41.ge HI149.out)) | exact HB.out)⟩⟩
                        case round =>
                          clear H'
                          try clear c1
                          try clear c2
                          try clear p2
                          try clear c6
                          try clear p6
                          try clear c8
                          try clear c9
                          try clear c10
                          try clear c13
                          try clear c14
                          try clear c14b0
                          try clear c20
                          try clear c20b0
                          try clear c20b1
                          try clear c22
                          try clear c22b0
                          try clear c25
                          try clear p2
                          try clear p6
                          obtain ⟨x7_5, x12_5, x150000_5, x150001_5, x150002_5, x150003_5, x150004_5, rfl, rfl, HA, HK5, HI149, HB⟩ := hrel
                          cases gk with
                          | zero => exact absurd HA.out (by simp [milestonelaw14_LinkLives.l1])
                          | succ k5 =>
                            have H := HA.out
                            clear HA
                            simp only [milestonelaw14_LinkLives.l1] at H
                            by_cases c26 : x12_5 < (IntKind.u64.wrap (1 + (IntKind.u64.wrap (Int.tmod a2 5))))
                            · rw [if_pos c26] at H
                              have c26b0 : decide (x12_5 < (IntKind.u64.wrap (1 + (IntKind.u64.wrap (Int.tmod a2 5))))) = true := decide_eq_true c26
                              clear c26
                              replace H := Option.bind_eq_some_iff.mp H
                              obtain ⟨⟨t172, t173, t174, t175, t176⟩, A270, H⟩ := H
                              replace H : (milestonelaw14_LinkLives.l1 k5 a0 a1 (IntKind.u64.wrap (x7_5 + 1)) (IntKind.u64.wrap (1 + (IntKind.u64.wrap (Int.tmod a2 5)))) x10_2 (IntKind.u64.wrap (x12_5 + 1)) t172 t173 t174 t175 t176) = some r := H
                              have A27 := Aside0.mk A270
                              clear A270
                              have H' := Aside0.mk H
                              clear H
                              go_wp2_with (first | ((with_reducible refine gate_callee (f := 14) rfl ?_); refine goesL_ (some 62) rfl rfl Try.func14 (by kernel_rfl) rfl #[.pointer (some ⟨g149, 0, none⟩), .int .u64 (IntKind.u64.wrap (x7_5 + 1))] rfl (by (try simp only [List.map_toArray, List.map_cons, List.map_nil]); first | done | rfl | (simp only [List.length_drop, List.length_take]; rfl) | (simp; done) | (refine qa_arr ?_; (repeat' (first | rfl | refine qa_cons ?_ ?_ | refine qa_int ?_ | refine qa_agg ?_ | refine qa_arr ?_ | omega)); done)) ?_; (with_reducible refine (link_Link_Tick.calls k5 g149 x150000_5 x150001_5 x150002_5 x150003_5 x150004_5 (IntKind.u64.wrap (x7_5 + 1)) t172 t173 t174 t175 t176 w _ ?side1 ?side2 A27.out).mono ?_); (case side1 => repeat (first | (with_reducible first | exact HI149.out | apply IsS41.alloc | apply IsS41.drewN | apply IsS41.drew | apply IsS41.set_0 | apply IsS41.set_1 | apply IsS41.set_2 | apply IsS41.set_3 | apply IsS41.set_4) | exact HI149.out)); (case side2 => repeat (first | (with_reducible first | exact HB.out | apply below_alloc | apply pw_below_drewN | apply below_drew1 | refine below_set ?_ (IsS41.ge HI149.out)) | exact HB.out)); rintro e w28 ⟨rfl, hi, hb, hk⟩; refine ⟨_, rfl, ?_⟩; have n0_ := Aside0.mk (hb); have n1_ := Aside0.mk (hi); clear HB; clear HI149; have HB := n0_; have HI149 := n1_; clear n0_ n1_; (try clear hb); (try clear hb2); (try clear hk); (try clear hi)))
                              go_roundg k5
                              case measure => have := HJ3.out; have := HK2.out; have := HJ16.out; have := HJ20.out; have := HK5.out; omega
                              case rel => exact ⟨(IntKind.u64.wrap (x7_5 + 1)), (IntKind.u64.wrap (x12_5 + 1)), (t172), (t173), (t174), (t175), (t176), (by first | rfl | (simp; done) | (simp [*]; done) | (refine qa_int ?_; omega) | (refine qa_int ?_; simp <;> omega)), (by first | rfl | (simp; done) | (simp [*]; done) | (refine qa_int ?_; omega) | (refine qa_int ?_; simp <;> omega)), H', ⟨by have := HJ3.out; have := HK2.out; have := HJ16.out; have := HJ20.out; have := HK5.out; omega⟩, ⟨by repeat (first | (with_reducible first | exact HI149.out | apply IsS41.alloc | apply IsS41.drewN | apply IsS41.drew | apply IsS41.set_0 | apply IsS41.set_1 | apply IsS41.set_2 | apply IsS41.set_3 | apply IsS41.set_4) | exact HI149.out)⟩, ⟨by repeat (first | (with_reducible first | exact HB.out | apply below_alloc | apply pw_below_drewN | apply below_drew1 | refine below_set ?_ (IsS41.ge HI149.out)) | exact HB.out)⟩⟩
                            · rw [if_neg c26] at H
                              have c26b0 : decide (x12_5 < (IntKind.u64.wrap (1 + (IntKind.u64.wrap (Int.tmod a2 5))))) = false := decide_eq_false c26
                              clear c26
                              have H' := Aside0.mk H
                              clear H
                              go_wp2
                              go_roundg k5
                              case measure => have := HJ3.out; have := HK2.out; have := HJ16.out; have := HJ20.out; have := HK5.out; omega
                              case rel => exact ⟨(x7_5), (wrap64 (x10_2 + 1)), (x150000_5), (x150001_5), (x150002_5), (x150003_5), (x150004_5), (by first | rfl | (simp; done) | (simp [*]; done) | (refine qa_int ?_; omega) | (refine qa_int ?_; simp <;> omega)), (by first | rfl | (simp; done) | (simp [*]; done) | (refine qa_int ?_; omega) | (refine qa_int ?_; simp <;> omega)), H', ⟨by have := HJ3.out; have := HK2.out; have := HJ16.out; have := HJ20.out; have := HK5.out; omega⟩, ⟨by repeat (first | (with_reducible first | exact HI149.out | apply IsS41.alloc | apply IsS41.drewN | apply IsS41.drew | apply IsS41.set_0 | apply IsS41.set_1 | apply IsS41.set_2 | apply IsS41.set_3 | apply IsS41.set_4) | exact HI149.out)⟩, ⟨by repeat (first | (with_reducible first | exact HB.out | apply below_alloc | apply pw_below_drewN | apply below_drew1 | refine below_set ?_ (IsS41.ge HI149.out)) | exact HB.out)⟩⟩
            · rw [if_neg c14] at H
              have c14b0 : decide (x10_2 < (wrap64 (2 + (wrap64 (a1))))) = false := decide_eq_false c14
              clear c14
              replace H := Option.bind_eq_some_iff.mp H
              obtain ⟨⟨t150, t151, t152, t153, t154, t155⟩, A290, H⟩ := H
              replace H : (some t150) = some r := H
              have A29 := Aside0.mk A290
              clear A290
              obtain rfl := Option.some.inj H
              go_wp2_with (first | ((with_reducible refine gate_callee (f := 12) rfl ?_); refine goesL_ (some 64) rfl rfl Try.func12 (by kernel_rfl) rfl #[.pointer (some ⟨g149, 0, none⟩)] rfl (by (try simp only [List.map_toArray, List.map_cons, List.map_nil]); first | done | rfl | (simp only [List.length_drop, List.length_take]; rfl) | (simp; done) | (refine qa_arr ?_; (repeat' (first | rfl | refine qa_cons ?_ ?_ | refine qa_int ?_ | refine qa_agg ?_ | refine qa_arr ?_ | omega)); done)) ?_; (with_reducible refine (link_Link_Alive.calls g149 x150000_2 x150001_2 x150002_2 x150003_2 x150004_2 t150 t151 t152 t153 t154 t155 w _ ?side1 ?side2 A29.out).mono ?_); (case side1 => repeat (first | (with_reducible first | exact HI149.out | apply IsS41.alloc | apply IsS41.drewN | apply IsS41.drew | apply IsS41.set_0 | apply IsS41.set_1 | apply IsS41.set_2 | apply IsS41.set_3 | apply IsS41.set_4) | exact HI149.out)); (case side2 => repeat (first | (with_reducible first | exact HB.out | apply below_alloc | apply pw_below_drewN | apply below_drew1 | refine below_set ?_ (IsS41.ge HI149.out)) | exact HB.out)); rintro e w30 ⟨rfl, hi, hb, hk⟩; refine ⟨_, rfl, ?_⟩; have n0_ := Aside0.mk (hb); have n1_ := Aside0.mk (hi); clear HB; clear HI149; have HB := n0_; have HI149 := n1_; clear n0_ n1_; (try clear hb); (try clear hb2); (try clear hk); (try clear hi)))
              go_ret
              exact ⟨by first | rfl | (simp [errW_none, errW_some] <;> rfl) | (simp [*, errW_none, errW_some] <;> rfl), by repeat (first | (with_reducible first | exact HB.out | apply below_alloc | apply pw_below_drewN | apply below_drew1 | refine below_set ?_ (IsS41.ge HI149.out)) | exact HB.out)⟩

/-- THE ONE PURE STATEMENT of milestonelaw14_LinkLives: yours. -/
def milestonelaw14_LinkLives.Pure : Prop := ∀ (a0 : Int) (a1 : Int) (a2 : Int), (Lit.int .u16 a0).wf = true → (Lit.int .u8 a1).wf = true → (Lit.int .u8 a2).wf = true → ∃ k, milestonelaw14_LinkLives.f k a0 a1 a2 = some true
theorem milestonelaw14_LinkLives.walk (P : milestonelaw14_LinkLives.Pure) (a0 : Int) (a1 : Int) (a2 : Int) (w : World) (w0 : (Lit.int .u16 a0).wf = true) (w1 : (Lit.int .u8 a1).wf = true) (w2 : (Lit.int .u8 a2).wf = true) :
    Calls Try.prog 6 #[.int .u16 a0, .int .u8 a1, .int .u8 a2] w fun e w' => e = .returned (.bool true) ∧ Below w.heap.size w w' := by
  obtain ⟨k, h⟩ := P a0 a1 a2 w0 w1 w2
  refine (milestonelaw14_LinkLives.calls k a0 a1 a2 true w h).mono ?_
  rintro e w' ⟨rfl, hd⟩
  exact ⟨rfl, hd⟩

end Go.Proofs.Ytkdjpkgaknfdeaa.QLinkLives
