-- Lines by a program of this session, for this claim.
import Derived.Test.YtkdjpkgaknfdeaaQLinkDiesx0
import Derived.Test.YtkdjpkgaknfdeaaQLinkDiesx1
namespace Go.Proofs.Ytkdjpkgaknfdeaa.QLinkDies
open Go.RowKit Go.Proofs.YtkdjpkgaknfdeaaW.PrintWords Go.Proofs.YtkdjpkgaknfdeaaW.PrintLast Go.Proofs.YtkdjpkgaknfdeaaW.PrintMore
attribute [local go_sem] max2_int min2_int max_two min_two max_three min_three max_four min_four   -- for this text's walks alone
set_option linter.unusedVariables false
set_option linter.unusedSimpArgs false

/-! ### milestonelaw14_LinkDies: function 5 -/
mutual
def milestonelaw14_LinkDies.l0 : Nat → Int → Int → Int → Int → Int → Int → Int → Int → Int → Option (Bool)
  | 0, _, _, _, _, _, _, _, _, _ => none
  | k + 1, x1, x2, x7, x9, x149000, x149001, x149002, x149003, x149004 => if x9 < (wrap64 (2 + (Int.tmod (wrap64 (x1)) 30))) then ((link_Link_Hello.f x149000 x149001 x149002 x149003 x149004 (IntKind.u64.wrap (x9)) (IntKind.u64.wrap (x7 + 2))).bind fun bt149 => (milestonelaw14_LinkDies.l0 k x1 x2 (IntKind.u64.wrap (x7 + 2)) (wrap64 (x9 + 1)) bt149.1 bt149.2.1 bt149.2.2.1 bt149.2.2.2.1 bt149.2.2.2.2)) else ((link_Link_Heard.f x149000 x149001 x149002 x149003 x149004 x2 x7).bind fun bt154 => ((link_Link_Cost.f bt154.1 bt154.2.1 bt154.2.2.1 bt154.2.2.2.1 bt154.2.2.2.2).bind fun bt159 => (if bt159.1 = 65535 then (if x2 = 65535 then ((link_Link_Alive.f bt159.2.1 bt159.2.2.1 bt159.2.2.2.1 bt159.2.2.2.2.1 bt159.2.2.2.2.2).bind fun bt165 => (milestonelaw14_LinkDies.j1 k x7 (!bt165.1) bt165.2.1 bt165.2.2.1 bt165.2.2.2.1 bt165.2.2.2.2.1 bt165.2.2.2.2.2)) else (milestonelaw14_LinkDies.j1 k x7 true bt159.2.1 bt159.2.2.1 bt159.2.2.2.1 bt159.2.2.2.2.1 bt159.2.2.2.2.2)) else ((link_Link_Alive.f bt159.2.1 bt159.2.2.1 bt159.2.2.2.1 bt159.2.2.2.2.1 bt159.2.2.2.2.2).bind fun bt171 => (milestonelaw14_LinkDies.j1 k x7 (!bt171.1) bt171.2.1 bt171.2.2.1 bt171.2.2.2.1 bt171.2.2.2.2.1 bt171.2.2.2.2.2)))))
def milestonelaw14_LinkDies.j1 : Nat → Int → Bool → Int → Int → Int → Int → Int → Option (Bool)
  | 0, _, _, _, _, _, _, _ => none
  | k + 1, x7, x49, x149000, x149001, x149002, x149003, x149004 => if x49 = true then (some false) else (milestonelaw14_LinkDies.l1 k x7 0 x149000 x149001 x149002 x149003 x149004)
def milestonelaw14_LinkDies.l1 : Nat → Int → Int → Int → Int → Int → Int → Int → Option (Bool)
  | 0, _, _, _, _, _, _, _ => none
  | k + 1, x7, x10, x149000, x149001, x149002, x149003, x149004 => if x10 < 20 then ((link_Link_Tick.f k x149000 x149001 x149002 x149003 x149004 (IntKind.u64.wrap (x7 + 1))).bind fun bt177 => (milestonelaw14_LinkDies.l1 k (IntKind.u64.wrap (x7 + 1)) (wrap64 (x10 + 1)) bt177.1 bt177.2.1 bt177.2.2.1 bt177.2.2.2.1 bt177.2.2.2.2)) else ((link_Link_Cost.f x149000 x149001 x149002 x149003 x149004).bind fun bt182 => (milestonelaw14_LinkDies.l2 k x7 (bt182.1 == 65535) 0 bt182.2.1 bt182.2.2.1 bt182.2.2.2.1 bt182.2.2.2.2.1 bt182.2.2.2.2.2))
def milestonelaw14_LinkDies.l2 : Nat → Int → Bool → Int → Int → Int → Int → Int → Int → Option (Bool)
  | 0, _, _, _, _, _, _, _, _ => none
  | k + 1, x7, x11, x12, x149000, x149001, x149002, x149003, x149004 => if x12 < 120 then ((link_Link_Tick.f k x149000 x149001 x149002 x149003 x149004 (IntKind.u64.wrap (x7 + 1))).bind fun bt188 => (milestonelaw14_LinkDies.l2 k (IntKind.u64.wrap (x7 + 1)) x11 (wrap64 (x12 + 1)) bt188.1 bt188.2.1 bt188.2.2.1 bt188.2.2.2.1 bt188.2.2.2.2)) else (if x11 = true then ((link_Link_Alive.f x149000 x149001 x149002 x149003 x149004).bind fun bt193 => (if bt193.1 = true then (some false) else ((link_Link_Receives.f bt193.2.1 bt193.2.2.1 bt193.2.2.2.1 bt193.2.2.2.2.1 bt193.2.2.2.2.2).bind fun bt199 => (some (bt199.1 == 65535))))) else (some false))
end
def milestonelaw14_LinkDies.f (k : Nat) (a0 : Int) (a1 : Int) (a2 : Int) : Option (Bool) := (milestonelaw14_awake.f).bind fun t142 => (if t142 = true then ((link_New.f (IntKind.u64.wrap (a0))).bind fun bt143 => (milestonelaw14_LinkDies.l0 k a1 a2 (IntKind.u64.wrap (a0)) 0 bt143.1 bt143.2.1 bt143.2.2.1 bt143.2.2.2.1 bt143.2.2.2.2)) else (some false))
theorem milestonelaw14_LinkDies.mono_l : ∀ k, (∀ y0 y1 y2 y3 y4 y5 y6 y7 y8, LeO (milestonelaw14_LinkDies.l0 k y0 y1 y2 y3 y4 y5 y6 y7 y8) (milestonelaw14_LinkDies.l0 (k + 1) y0 y1 y2 y3 y4 y5 y6 y7 y8)) ∧ (∀ y0 y1 y2 y3 y4 y5 y6, LeO (milestonelaw14_LinkDies.j1 k y0 y1 y2 y3 y4 y5 y6) (milestonelaw14_LinkDies.j1 (k + 1) y0 y1 y2 y3 y4 y5 y6)) ∧ (∀ y0 y1 y2 y3 y4 y5 y6, LeO (milestonelaw14_LinkDies.l1 k y0 y1 y2 y3 y4 y5 y6) (milestonelaw14_LinkDies.l1 (k + 1) y0 y1 y2 y3 y4 y5 y6)) ∧ (∀ y0 y1 y2 y3 y4 y5 y6 y7, LeO (milestonelaw14_LinkDies.l2 k y0 y1 y2 y3 y4 y5 y6 y7) (milestonelaw14_LinkDies.l2 (k + 1) y0 y1 y2 y3 y4 y5 y6 y7))
  | 0 => ⟨fun _ _ _ _ _ _ _ _ _ r h => by simp [milestonelaw14_LinkDies.l0] at h, fun _ _ _ _ _ _ _ r h => by simp [milestonelaw14_LinkDies.j1] at h, fun _ _ _ _ _ _ _ r h => by simp [milestonelaw14_LinkDies.l1] at h, fun _ _ _ _ _ _ _ _ r h => by simp [milestonelaw14_LinkDies.l2] at h⟩
  | k + 1 => by
    obtain ⟨ih0, ih1, ih2, ih3⟩ := milestonelaw14_LinkDies.mono_l k
    refine ⟨?_, ?_, ?_, ?_⟩
    · intro y0 y1 y2 y3 y4 y5 y6 y7 y8
      unfold milestonelaw14_LinkDies.l0
      repeat' first
      | (with_reducible exact ih0 _ _ _ _ _ _ _ _ _)
      | (with_reducible exact ih1 _ _ _ _ _ _ _)
      | (with_reducible exact ih2 _ _ _ _ _ _ _)
      | (with_reducible exact ih3 _ _ _ _ _ _ _ _)
      | (with_reducible exact link_Link_Tick.mono _ _ _ _ _ _ _)
      | (with_reducible exact LeO.refl _)
      | (with_reducible exact LeO.none _)
      | (with_reducible refine LeO.ite ?_ ?_)
      | (with_reducible refine LeO.bind ?_ (fun _ => ?_))
      | exact ih0 _ _ _ _ _ _ _ _ _
      | exact ih1 _ _ _ _ _ _ _
      | exact ih2 _ _ _ _ _ _ _
      | exact ih3 _ _ _ _ _ _ _ _
      | exact link_Link_Tick.mono _ _ _ _ _ _ _
      | exact LeO.none _
      | refine LeO.ite ?_ ?_
      | refine LeO.bind ?_ (fun _ => ?_)
    · intro y0 y1 y2 y3 y4 y5 y6
      unfold milestonelaw14_LinkDies.j1
      repeat' first
      | (with_reducible exact ih0 _ _ _ _ _ _ _ _ _)
      | (with_reducible exact ih1 _ _ _ _ _ _ _)
      | (with_reducible exact ih2 _ _ _ _ _ _ _)
      | (with_reducible exact ih3 _ _ _ _ _ _ _ _)
      | (with_reducible exact link_Link_Tick.mono _ _ _ _ _ _ _)
      | (with_reducible exact LeO.refl _)
      | (with_reducible exact LeO.none _)
      | (with_reducible refine LeO.ite ?_ ?_)
      | (with_reducible refine LeO.bind ?_ (fun _ => ?_))
      | exact ih0 _ _ _ _ _ _ _ _ _
      | exact ih1 _ _ _ _ _ _ _
      | exact ih2 _ _ _ _ _ _ _
      | exact ih3 _ _ _ _ _ _ _ _
      | exact link_Link_Tick.mono _ _ _ _ _ _ _
      | exact LeO.none _
      | refine LeO.ite ?_ ?_
      | refine LeO.bind ?_ (fun _ => ?_)
    · intro y0 y1 y2 y3 y4 y5 y6
      unfold milestonelaw14_LinkDies.l1
      repeat' first
      | (with_reducible exact ih0 _ _ _ _ _ _ _ _ _)
      | (with_reducible exact ih1 _ _ _ _ _ _ _)
      | (with_reducible exact ih2 _ _ _ _ _ _ _)
      | (with_reducible exact ih3 _ _ _ _ _ _ _ _)
      | (with_reducible exact link_Link_Tick.mono _ _ _ _ _ _ _)
      | (with_reducible exact LeO.refl _)
      | (with_reducible exact LeO.none _)
      | (with_reducible refine LeO.ite ?_ ?_)
      | (with_reducible refine LeO.bind ?_ (fun _ => ?_))
      | exact ih0 _ _ _ _ _ _ _ _ _
      | exact ih1 _ _ _ _ _ _ _
      | exact ih2 _ _ _ _ _ _ _
      | exact ih3 _ _ _ _ _ _ _ _
      | exact link_Link_Tick.mono _ _ _ _ _ _ _
      | exact LeO.none _
      | refine LeO.ite ?_ ?_
      | refine LeO.bind ?_ (fun _ => ?_)
    · intro y0 y1 y2 y3 y4 y5 y6 y7
      unfold milestonelaw14_LinkDies.l2
      repeat' first
      | (with_reducible exact ih0 _ _ _ _ _ _ _ _ _)
      | (with_reducible exact ih1 _ _ _ _ _ _ _)
      | (with_reducible exact ih2 _ _ _ _ _ _ _)
      | (with_reducible exact ih3 _ _ _ _ _ _ _ _)
      | (with_reducible exact link_Link_Tick.mono _ _ _ _ _ _ _)
      | (with_reducible exact LeO.refl _)
      | (with_reducible exact LeO.none _)
      | (with_reducible refine LeO.ite ?_ ?_)
      | (with_reducible refine LeO.bind ?_ (fun _ => ?_))
      | exact ih0 _ _ _ _ _ _ _ _ _
      | exact ih1 _ _ _ _ _ _ _
      | exact ih2 _ _ _ _ _ _ _
      | exact ih3 _ _ _ _ _ _ _ _
      | exact link_Link_Tick.mono _ _ _ _ _ _ _
      | exact LeO.none _
      | refine LeO.ite ?_ ?_
      | refine LeO.bind ?_ (fun _ => ?_)
theorem milestonelaw14_LinkDies.mono : ∀ a0 a1 a2 k, LeO (milestonelaw14_LinkDies.f k a0 a1 a2) (milestonelaw14_LinkDies.f (k + 1) a0 a1 a2) := by
  intro a0 a1 a2 k
  obtain ⟨ih0, ih1, ih2, ih3⟩ := milestonelaw14_LinkDies.mono_l k
  unfold milestonelaw14_LinkDies.f
  repeat' first
      | (with_reducible exact ih0 _ _ _ _ _ _ _ _ _)
      | (with_reducible exact ih1 _ _ _ _ _ _ _)
      | (with_reducible exact ih2 _ _ _ _ _ _ _)
      | (with_reducible exact ih3 _ _ _ _ _ _ _ _)
      | (with_reducible exact link_Link_Tick.mono _ _ _ _ _ _ _)
      | (with_reducible exact LeO.refl _)
      | (with_reducible exact LeO.none _)
      | (with_reducible refine LeO.ite ?_ ?_)
      | (with_reducible refine LeO.bind ?_ (fun _ => ?_))
      | exact ih0 _ _ _ _ _ _ _ _ _
      | exact ih1 _ _ _ _ _ _ _
      | exact ih2 _ _ _ _ _ _ _
      | exact ih3 _ _ _ _ _ _ _ _
      | exact link_Link_Tick.mono _ _ _ _ _ _ _
      | exact LeO.none _
      | refine LeO.ite ?_ ?_
      | refine LeO.bind ?_ (fun _ => ?_)
set_option maxHeartbeats 8000000 in
set_option maxRecDepth 100000 in
theorem milestonelaw14_LinkDies.calls (k : Nat) (a0 : Int) (a1 : Int) (a2 : Int) (r : Bool) (w : World) (h : milestonelaw14_LinkDies.f k a0 a1 a2 = some r) :
    Calls Try.prog 5 #[.int .u8 a0, .int .u8 a1, .int .u16 a2] w fun e w' => e = .returned (.bool r) ∧ Below w.heap.size w w' := by
  have HB := Aside0.mk (Below.refl w.heap.size w)
  have H : ((milestonelaw14_awake.f).bind fun t142 => (if t142 = true then ((link_New.f (IntKind.u64.wrap (a0))).bind fun bt143 => (milestonelaw14_LinkDies.l0 k a1 a2 (IntKind.u64.wrap (a0)) 0 bt143.1 bt143.2.1 bt143.2.2.1 bt143.2.2.2.1 bt143.2.2.2.2)) else (some false))) = some r := h
  clear h
  replace H := Option.bind_eq_some_iff.mp H
  obtain ⟨t142, A40, H⟩ := H
  replace H : (if t142 = true then ((link_New.f (IntKind.u64.wrap (a0))).bind fun bt143 => (milestonelaw14_LinkDies.l0 k a1 a2 (IntKind.u64.wrap (a0)) 0 bt143.1 bt143.2.1 bt143.2.2.1 bt143.2.2.2.1 bt143.2.2.2.2)) else (some false)) = some r := H
  have A4 := Aside0.mk A40
  clear A40
  by_cases c5 : t142 = true
  · subst c5
    have H1 : ((link_New.f (IntKind.u64.wrap (a0))).bind fun bt143 => (milestonelaw14_LinkDies.l0 k a1 a2 (IntKind.u64.wrap (a0)) 0 bt143.1 bt143.2.1 bt143.2.2.1 bt143.2.2.2.1 bt143.2.2.2.2)) = some r := by rw [if_pos rfl] at H; exact H
    clear H
    have H := H1
    clear H1
    replace H := Option.bind_eq_some_iff.mp H
    obtain ⟨⟨t143, t144, t145, t146, t147⟩, A60, H⟩ := H
    replace H : (milestonelaw14_LinkDies.l0 k a1 a2 (IntKind.u64.wrap (a0)) 0 t143 t144 t145 t146 t147) = some r := H
    have A6 := Aside0.mk A60
    clear A60
    have H' := Aside0.mk H
    clear H
    go_enter Try.func5, Try.ntmps5
    go_wp2_with (first | ((with_reducible refine gate_callee (f := 8) rfl ?_); refine goesL_ (some 13) rfl rfl Try.func8 (by kernel_rfl) rfl #[] rfl (by (try simp only [List.map_toArray, List.map_cons, List.map_nil]); first | done | rfl | (simp only [List.length_drop, List.length_take]; rfl) | (simp; done) | (refine qa_arr ?_; (repeat' (first | rfl | refine qa_cons ?_ ?_ | refine qa_int ?_ | refine qa_agg ?_ | refine qa_arr ?_ | omega)); done)) ?_; (with_reducible refine (milestonelaw14_awake.calls  true _ A4.out).mono ?_); rintro e w7 ⟨rfl, hb⟩; refine ⟨_, rfl, ?_⟩; have n0_ := Aside0.mk (below_step (by repeat (first | (with_reducible first | exact HB.out | apply below_alloc | apply pw_below_drewN | apply below_drew1) | exact HB.out)) hb); clear HB; have HB := n0_; clear n0_; (try clear hb); (try clear hb2); (try clear hk); (try clear hi)) | ((with_reducible refine gate_callee (f := 9) rfl ?_); refine goesL_ (some 18) rfl rfl Try.func9 (by kernel_rfl) rfl #[.int .u64 (IntKind.u64.wrap (a0))] rfl (by (try simp only [List.map_toArray, List.map_cons, List.map_nil]); first | done | rfl | (simp only [List.length_drop, List.length_take]; rfl) | (simp; done) | (refine qa_arr ?_; (repeat' (first | rfl | refine qa_cons ?_ ?_ | refine qa_int ?_ | refine qa_agg ?_ | refine qa_arr ?_ | omega)); done)) ?_; (with_reducible refine (link_New.calls (IntKind.u64.wrap (a0)) t143 t144 t145 t146 t147 w _ ?side1 A6.out).mono ?_); (case side1 => repeat (first | (with_reducible first | exact HB.out | apply below_alloc | apply pw_below_drewN | apply below_drew1) | exact HB.out)); rintro e w8 ⟨g148, rfl, hi, hb, hb2⟩; refine ⟨_, rfl, ?_⟩; have n0_ := Aside0.mk (hb); have n1_ := Aside0.mk (hi); clear HB; have HB := n0_; have HI148 := n1_; clear n0_ n1_; (try clear hb); (try clear hb2); (try clear hk); (try clear hi)))
    go_loopg [7, 9] k (fun kq v7 v9 w' => ∃ (x7_1 : Int) (x9_1 : Int) (x149000_1 : Int) (x149001_1 : Int) (x149002_1 : Int) (x149003_1 : Int) (x149004_1 : Int), v7 = .int .u64 x7_1 ∧ v9 = .int .i64 x9_1 ∧ Aside0 (milestonelaw14_LinkDies.l0 kq a1 a2 x7_1 x9_1 x149000_1 x149001_1 x149002_1 x149003_1 x149004_1 = some r) ∧ Aside0 (kq ≤ k) ∧ Aside0 (IsS41 w w' g148 x149000_1 x149001_1 x149002_1 x149003_1 x149004_1) ∧ Aside0 (Below w.heap.size w w'))
    case atStart => exact ⟨(IntKind.u64.wrap (a0)), (0), (t143), (t144), (t145), (t146), (t147), (by first | rfl | (simp; done) | (simp [*]; done) | (refine qa_int ?_; omega) | (refine qa_int ?_; simp <;> omega)), (by first | rfl | (simp; done) | (simp [*]; done) | (refine qa_int ?_; omega) | (refine qa_int ?_; simp <;> omega)), H', ⟨Nat.le_refl _⟩, ⟨by repeat (first | (with_reducible first | exact HI148.out | apply IsS41.alloc | apply IsS41.drewN | apply IsS41.drew | apply IsS41.set_0 | apply IsS41.set_1 | apply IsS41.set_2 | apply IsS41.set_3 | apply IsS41.set_4) | exact HI148.out)⟩, ⟨by repeat (first | (with_reducible first | exact HB.out | apply below_alloc | apply pw_below_drewN | apply below_drew1 | refine below_set ?_ (IsS41.ge HI148.out)) | exact HB.out)⟩⟩
    case round =>
      clear H'
      try clear p2
      try clear c5
      try clear c8
      obtain ⟨x7_1, x9_1, x149000_1, x149001_1, x149002_1, x149003_1, x149004_1, rfl, rfl, HA, HK1, HI148, HB⟩ := hrel
      cases gk with
      | zero => exact absurd HA.out (by simp [milestonelaw14_LinkDies.l0])
      | succ k1 =>
        have H := HA.out
        clear HA
        simp only [milestonelaw14_LinkDies.l0] at H
        by_cases c9 : x9_1 < (wrap64 (2 + (Int.tmod (wrap64 (a1)) 30)))
        · rw [if_pos c9] at H
          have c9b0 : decide (x9_1 < (wrap64 (2 + (Int.tmod (wrap64 (a1)) 30)))) = true := decide_eq_true c9
          clear c9
          replace H := Option.bind_eq_some_iff.mp H
          obtain ⟨⟨t149, t150, t151, t152, t153⟩, A100, H⟩ := H
          replace H : (milestonelaw14_LinkDies.l0 k1 a1 a2 (IntKind.u64.wrap (x7_1 + 2)) (wrap64 (x9_1 + 1)) t149 t150 t151 t152 t153) = some r := H
          have A10 := Aside0.mk A100
          clear A100
          have H' := Aside0.mk H
          clear H
          go_wp2_with (first | ((with_reducible refine gate_callee (f := 10) rfl ?_); refine goesL_ (some 33) rfl rfl Try.func10 (by kernel_rfl) rfl #[.pointer (some ⟨g148, 0, none⟩), .int .u64 (IntKind.u64.wrap (x9_1)), .int .u64 (IntKind.u64.wrap (x7_1 + 2))] rfl (by (try simp only [List.map_toArray, List.map_cons, List.map_nil]); first | done | rfl | (simp only [List.length_drop, List.length_take]; rfl) | (simp; done) | (refine qa_arr ?_; (repeat' (first | rfl | refine qa_cons ?_ ?_ | refine qa_int ?_ | refine qa_agg ?_ | refine qa_arr ?_ | omega)); done)) ?_; (with_reducible refine (link_Link_Hello.calls g148 x149000_1 x149001_1 x149002_1 x149003_1 x149004_1 (IntKind.u64.wrap (x9_1)) (IntKind.u64.wrap (x7_1 + 2)) t149 t150 t151 t152 t153 w _ ?side1 ?side2 A10.out).mono ?_); (case side1 => repeat (first | (with_reducible first | exact HI148.out | apply IsS41.alloc | apply IsS41.drewN | apply IsS41.drew | apply IsS41.set_0 | apply IsS41.set_1 | apply IsS41.set_2 | apply IsS41.set_3 | apply IsS41.set_4) | exact HI148.out)); (case side2 => repeat (first | (with_reducible first | exact HB.out | apply below_alloc | apply pw_below_drewN | apply below_drew1 | refine below_set ?_ (IsS41.ge HI148.out)) | exact HB.out)); rintro e w11 ⟨rfl, hi, hb, hk⟩; refine ⟨_, rfl, ?_⟩; have n0_ := Aside0.mk (hb); have n1_ := Aside0.mk (hi); clear HB; clear HI148; have HB := n0_; have HI148 := n1_; clear n0_ n1_; (try clear hb); (try clear hb2); (try clear hk); (try clear hi)))
          go_roundg k1
          case measure => have := HK1.out; omega
          case rel => exact ⟨(IntKind.u64.wrap (x7_1 + 2)), (wrap64 (x9_1 + 1)), (t149), (t150), (t151), (t152), (t153), (by first | rfl | (simp; done) | (simp [*]; done) | (refine qa_int ?_; omega) | (refine qa_int ?_; simp <;> omega)), (by first | rfl | (simp; done) | (simp [*]; done) | (refine qa_int ?_; omega) | (refine qa_int ?_; simp <;> omega)), H', ⟨by have := HK1.out; omega⟩, ⟨by repeat (first | (with_reducible first | exact HI148.out | apply IsS41.alloc | apply IsS41.drewN | apply IsS41.drew | apply IsS41.set_0 | apply IsS41.set_1 | apply IsS41.set_2 | apply IsS41.set_3 | apply IsS41.set_4) | exact HI148.out)⟩, ⟨by repeat (first | (with_reducible first | exact HB.out | apply below_alloc | apply pw_below_drewN | apply below_drew1 | refine below_set ?_ (IsS41.ge HI148.out)) | exact HB.out)⟩⟩
        · rw [if_neg c9] at H
          have c9b0 : decide (x9_1 < (wrap64 (2 + (Int.tmod (wrap64 (a1)) 30)))) = false := decide_eq_false c9
          clear c9
          replace H := Option.bind_eq_some_iff.mp H
          obtain ⟨⟨t154, t155, t156, t157, t158⟩, A120, H⟩ := H
          replace H : ((link_Link_Cost.f t154 t155 t156 t157 t158).bind fun bt159 => (if bt159.1 = 65535 then (if a2 = 65535 then ((link_Link_Alive.f bt159.2.1 bt159.2.2.1 bt159.2.2.2.1 bt159.2.2.2.2.1 bt159.2.2.2.2.2).bind fun bt165 => (milestonelaw14_LinkDies.j1 k1 x7_1 (!bt165.1) bt165.2.1 bt165.2.2.1 bt165.2.2.2.1 bt165.2.2.2.2.1 bt165.2.2.2.2.2)) else (milestonelaw14_LinkDies.j1 k1 x7_1 true bt159.2.1 bt159.2.2.1 bt159.2.2.2.1 bt159.2.2.2.2.1 bt159.2.2.2.2.2)) else ((link_Link_Alive.f bt159.2.1 bt159.2.2.1 bt159.2.2.2.1 bt159.2.2.2.2.1 bt159.2.2.2.2.2).bind fun bt171 => (milestonelaw14_LinkDies.j1 k1 x7_1 (!bt171.1) bt171.2.1 bt171.2.2.1 bt171.2.2.2.1 bt171.2.2.2.2.1 bt171.2.2.2.2.2)))) = some r := H
          have A12 := Aside0.mk A120
          clear A120
          have HC13 := Aside0.mk H
          clear H
          go_upto_region 11 with (first | ((with_reducible refine gate_callee (f := 13) rfl ?_); refine goesL_ (some 37) rfl rfl Try.func13 (by kernel_rfl) rfl #[.pointer (some ⟨g148, 0, none⟩), .int .u16 a2, .int .u64 x7_1] rfl (by (try simp only [List.map_toArray, List.map_cons, List.map_nil]); first | done | rfl | (simp only [List.length_drop, List.length_take]; rfl) | (simp; done) | (refine qa_arr ?_; (repeat' (first | rfl | refine qa_cons ?_ ?_ | refine qa_int ?_ | refine qa_agg ?_ | refine qa_arr ?_ | omega)); done)) ?_; (with_reducible refine (link_Link_Heard.calls g148 x149000_1 x149001_1 x149002_1 x149003_1 x149004_1 a2 x7_1 t154 t155 t156 t157 t158 w _ ?side1 ?side2 A12.out).mono ?_); (case side1 => repeat (first | (with_reducible first | exact HI148.out | apply IsS41.alloc | apply IsS41.drewN | apply IsS41.drew | apply IsS41.set_0 | apply IsS41.set_1 | apply IsS41.set_2 | apply IsS41.set_3 | apply IsS41.set_4) | exact HI148.out)); (case side2 => repeat (first | (with_reducible first | exact HB.out | apply below_alloc | apply pw_below_drewN | apply below_drew1 | refine below_set ?_ (IsS41.ge HI148.out)) | exact HB.out)); rintro e w14 ⟨rfl, hi, hb, hk⟩; refine ⟨_, rfl, ?_⟩; have n0_ := Aside0.mk (hb); have n1_ := Aside0.mk (hi); clear HB; clear HI148; have HB := n0_; have HI148 := n1_; clear n0_ n1_; (try clear hb); (try clear hb2); (try clear hk); (try clear hi)))
          (try simp only [Act.put, List.setIfInBounds_toArray, List.set_cons_zero, List.set_cons_succ])
          go_cut [49] (fun v49 wc => ∃ (kq : Nat) (x49_12 : Bool) (x149000_12 : Int) (x149001_12 : Int) (x149002_12 : Int) (x149003_12 : Int) (x149004_12 : Int), v49 = .bool x49_12 ∧ Aside0 (milestonelaw14_LinkDies.j1 kq x7_1 x49_12 x149000_12 x149001_12 x149002_12 x149003_12 x149004_12 = some r) ∧ Aside0 (kq ≤ k1) ∧ Aside0 (IsS41 w wc g148 x149000_12 x149001_12 x149002_12 x149003_12 x149004_12) ∧ Aside0 (Below w.heap.size w wc))
          case first =>
            have H := HC13.out
            clear HC13
            replace H := Option.bind_eq_some_iff.mp H
            obtain ⟨⟨t159, t160, t161, t162, t163, t164⟩, A150, H⟩ := H
            replace H : (if t159 = 65535 then (if a2 = 65535 then ((link_Link_Alive.f t160 t161 t162 t163 t164).bind fun bt165 => (milestonelaw14_LinkDies.j1 k1 x7_1 (!bt165.1) bt165.2.1 bt165.2.2.1 bt165.2.2.2.1 bt165.2.2.2.2.1 bt165.2.2.2.2.2)) else (milestonelaw14_LinkDies.j1 k1 x7_1 true t160 t161 t162 t163 t164)) else ((link_Link_Alive.f t160 t161 t162 t163 t164).bind fun bt171 => (milestonelaw14_LinkDies.j1 k1 x7_1 (!bt171.1) bt171.2.1 bt171.2.2.1 bt171.2.2.2.1 bt171.2.2.2.2.1 bt171.2.2.2.2.2))) = some r := H
            have A15 := Aside0.mk A150
            clear A150
            by_cases c16 : t159 = 65535
            · rw [if_pos c16] at H
              have c16b0 : (t159 == 65535) = true := beq_iff_eq.mpr c16
              have c16b1 : (t159 != 65535) = false := bne_eq_false_iff_eq.mpr c16
              clear c16
              (first | rw [c16b0] | (simp only [i64_w, i32_w]; rw [c16b0]) | skip)
              by_cases c17 : a2 = 65535
              · rw [if_pos c17] at H
                have c17b0 : (a2 == 65535) = true := beq_iff_eq.mpr c17
                have c17b1 : (a2 != 65535) = false := bne_eq_false_iff_eq.mpr c17
                clear c17
                replace H := Option.bind_eq_some_iff.mp H
                obtain ⟨⟨t165, t166, t167, t168, t169, t170⟩, A180, H⟩ := H
                replace H : (milestonelaw14_LinkDies.j1 k1 x7_1 (!t165) t166 t167 t168 t169 t170) = some r := H
                have A18 := Aside0.mk A180
                clear A180
                have H' := Aside0.mk H
                clear H
                go_wp2_with (first | ((with_reducible refine gate_callee (f := 15) rfl ?_); refine goesL_ (some 39) rfl rfl Try.func15 (by kernel_rfl) rfl #[.pointer (some ⟨g148, 0, none⟩)] rfl (by (try simp only [List.map_toArray, List.map_cons, List.map_nil]); first | done | rfl | (simp only [List.length_drop, List.length_take]; rfl) | (simp; done) | (refine qa_arr ?_; (repeat' (first | rfl | refine qa_cons ?_ ?_ | refine qa_int ?_ | refine qa_agg ?_ | refine qa_arr ?_ | omega)); done)) ?_; (with_reducible refine (link_Link_Cost.calls g148 t154 t155 t156 t157 t158 t159 t160 t161 t162 t163 t164 w _ ?side1 ?side2 A15.out).mono ?_); (case side1 => repeat (first | (with_reducible first | exact HI148.out | apply IsS41.alloc | apply IsS41.drewN | apply IsS41.drew | apply IsS41.set_0 | apply IsS41.set_1 | apply IsS41.set_2 | apply IsS41.set_3 | apply IsS41.set_4) | exact HI148.out)); (case side2 => repeat (first | (with_reducible first | exact HB.out | apply below_alloc | apply pw_below_drewN | apply below_drew1 | refine below_set ?_ (IsS41.ge HI148.out)) | exact HB.out)); rintro e w19 ⟨rfl, hi, hb, hk⟩; refine ⟨_, rfl, ?_⟩; have n0_ := Aside0.mk (hb); have n1_ := Aside0.mk (hi); clear HB; clear HI148; have HB := n0_; have HI148 := n1_; clear n0_ n1_; (try clear hb); (try clear hb2); (try clear hk); (try clear hi)) | (go_at_call 12; (with_reducible refine (link_Link_Alive.calls g148 t160 t161 t162 t163 t164 t165 t166 t167 t168 t169 t170 w _ ?side1 ?side2 A18.out).mono ?_); (case side1 => repeat (first | (with_reducible first | exact HI148.out | apply IsS41.alloc | apply IsS41.drewN | apply IsS41.drew | apply IsS41.set_0 | apply IsS41.set_1 | apply IsS41.set_2 | apply IsS41.set_3 | apply IsS41.set_4) | exact HI148.out)); (case side2 => repeat (first | (with_reducible first | exact HB.out | apply below_alloc | apply pw_below_drewN | apply below_drew1 | refine below_set ?_ (IsS41.ge HI148.out)) | exact HB.out)); rintro e w20 ⟨rfl, hi, hb, hk⟩; have n0_ := Aside0.mk (hb); have n1_ := Aside0.mk (hi); clear HB; clear HI148; have HB := n0_; have HI148 := n1_; clear n0_ n1_; (try clear hb); (try clear hb2); (try clear hk); (try clear hi)) | (go_at_call 12; (refine calls_of_args (args' := #[.pointer (some ⟨g148, 0, none⟩)]) ?_ ?_; focus (first | rfl | (simp; done) | (refine qa_arr ?_; (repeat' (first | rfl | refine qa_cons ?_ ?_ | refine qa_int ?_ | refine qa_agg ?_ | refine qa_arr ?_ | omega)); done)); (with_reducible refine (link_Link_Alive.calls g148 t160 t161 t162 t163 t164 t165 t166 t167 t168 t169 t170 w _ ?side1 ?side2 A18.out).mono ?_)); (case side1 => repeat (first | (with_reducible first | exact HI148.out | apply IsS41.alloc | apply IsS41.drewN | apply IsS41.drew | apply IsS41.set_0 | apply IsS41.set_1 | apply IsS41.set_2 | apply IsS41.set_3 | apply IsS41.set_4) | exact HI148.out)); (case side2 => repeat (first | (with_reducible first | exact HB.out | apply below_alloc | apply pw_below_drewN | apply below_drew1 | refine below_set ?_ (IsS41.ge HI148.out)) | exact HB.out)); rintro e w20 ⟨rfl, hi, hb, hk⟩; have n0_ := Aside0.mk (hb); have n1_ := Aside0.mk (hi); clear HB; clear HI148; have HB := n0_; have HI148 := n1_; clear n0_ n1_; (try clear hb); (try clear hb2); (try clear hk); (try clear hi)))
                go_meet
                case rel => exact ⟨_, (!t165), (t166), (t167), (t168), (t169), (t170), (by first | rfl | (simp; done) | (simp [*]; done) | (refine qa_int ?_; omega) | (refine qa_int ?_; simp <;> omega)), H', ⟨by have := HK1.out; first | omega | exact Nat.le_refl _⟩, ⟨by repeat (first | (with_reducible first | exact HI148.out | apply IsS41.alloc | apply IsS41.drewN | apply IsS41.drew | apply IsS41.set_0 | apply IsS41.set_1 | apply IsS41.set_2 | apply IsS41.set_3 | apply IsS41.set_4) | exact HI148.out)⟩, ⟨by repeat (first | (with_reducible first | exact HB.out | apply below_alloc | apply pw_below_drewN | apply below_drew1 | refine below_set ?_ (IsS41.ge HI148.out)) | exact HB.out)⟩⟩
              · rw [if_neg c17] at H
                have c17b0 : (a2 == 65535) = false := beq_eq_false_iff_ne.mpr c17
                have c17b1 : (a2 != 65535) = true := bne_iff_ne.mpr c17
                have H' := Aside0.mk H
                clear H
                go_wp2_with (first | ((with_reducible refine gate_callee (f := 15) rfl ?_); refine goesL_ (some 39) rfl rfl Try.func15 (by kernel_rfl) rfl #[.pointer (some ⟨g148, 0, none⟩)] rfl (by (try simp only [List.map_toArray, List.map_cons, List.map_nil]); first | done | rfl | (simp only [List.length_drop, List.length_take]; rfl) | (simp; done) | (refine qa_arr ?_; (repeat' (first | rfl | refine qa_cons ?_ ?_ | refine qa_int ?_ | refine qa_agg ?_ | refine qa_arr ?_ | omega)); done)) ?_; (with_reducible refine (link_Link_Cost.calls g148 t154 t155 t156 t157 t158 t159 t160 t161 t162 t163 t164 w _ ?side1 ?side2 A15.out).mono ?_); (case side1 => repeat (first | (with_reducible first | exact HI148.out | apply IsS41.alloc | apply IsS41.drewN | apply IsS41.drew | apply IsS41.set_0 | apply IsS41.set_1 | apply IsS41.set_2 | apply IsS41.set_3 | apply IsS41.set_4) | exact HI148.out)); (case side2 => repeat (first | (with_reducible first | exact HB.out | apply below_alloc | apply pw_below_drewN | apply below_drew1 | refine below_set ?_ (IsS41.ge HI148.out)) | exact HB.out)); rintro e w21 ⟨rfl, hi, hb, hk⟩; refine ⟨_, rfl, ?_⟩; have n0_ := Aside0.mk (hb); have n1_ := Aside0.mk (hi); clear HB; clear HI148; have HB := n0_; have HI148 := n1_; clear n0_ n1_; (try clear hb); (try clear hb2); (try clear hk); (try clear hi)))
                go_meet
                case rel => exact ⟨_, (true), (t160), (t161), (t162), (t163), (t164), (by first | rfl | (simp; done) | (simp [*]; done) | (refine qa_int ?_; omega) | (refine qa_int ?_; simp <;> omega)), H', ⟨by have := HK1.out; first | omega | exact Nat.le_refl _⟩, ⟨by repeat (first | (with_reducible first | exact HI148.out | apply IsS41.alloc | apply IsS41.drewN | apply IsS41.drew | apply IsS41.set_0 | apply IsS41.set_1 | apply IsS41.set_2 | apply IsS41.set_3 | apply IsS41.set_4) | exact HI148.out)⟩, ⟨by repeat (first | (with_reducible first | exact HB.out | apply below_alloc | apply pw_below_drewN | apply below_drew1 | refine below_set ?_ (IsS41.ge HI148.out)) | exact HB.out)⟩⟩
            · rw [if_neg c16] at H
              have c16b0 : (t159 == 65535) = false := beq_eq_false_iff_ne.mpr c16
              have c16b1 : (t159 != 65535) = true := bne_iff_ne.mpr c16
              (first | rw [c16b0] | (simp only [i64_w, i32_w]; rw [c16b0]) | skip)
              replace H := Option.bind_eq_some_iff.mp H
              obtain ⟨⟨t171, t172, t173, t174, t175, t176⟩, A220, H⟩ := H
              replace H : (milestonelaw14_LinkDies.j1 k1 x7_1 (!t171) t172 t173 t174 t175 t176) = some r := H
              have A22 := Aside0.mk A220
              clear A220
              have H' := Aside0.mk H
              clear H
              go_wp2_with (first | ((with_reducible refine gate_callee (f := 15) rfl ?_); refine goesL_ (some 39) rfl rfl Try.func15 (by kernel_rfl) rfl #[.pointer (some ⟨g148, 0, none⟩)] rfl (by (try simp only [List.map_toArray, List.map_cons, List.map_nil]); first | done | rfl | (simp only [List.length_drop, List.length_take]; rfl) | (simp; done) | (refine qa_arr ?_; (repeat' (first | rfl | refine qa_cons ?_ ?_ | refine qa_int ?_ | refine qa_agg ?_ | refine qa_arr ?_ | omega)); done)) ?_; (with_reducible refine (link_Link_Cost.calls g148 t154 t155 t156 t157 t158 t159 t160 t161 t162 t163 t164 w _ ?side1 ?side2 A15.out).mono ?_); (case side1 => repeat (first | (with_reducible first | exact HI148.out | apply IsS41.alloc | apply IsS41.drewN | apply IsS41.drew | apply IsS41.set_0 | apply IsS41.set_1 | apply IsS41.set_2 | apply IsS41.set_3 | apply IsS41.set_4) | exact HI148.out)); (case side2 => repeat (first | (with_reducible first | exact HB.out | apply below_alloc | apply pw_below_drewN | apply below_drew1 | refine below_set ?_ (IsS41.ge HI148.out)) | exact HB.out)); rintro e w23 ⟨rfl, hi, hb, hk⟩; refine ⟨_, rfl, ?_⟩; have n0_ := Aside0.mk (hb); have n1_ := Aside0.mk (hi); clear HB; clear HI148; have HB := n0_; have HI148 := n1_; clear n0_ n1_; (try clear hb); (try clear hb2); (try clear hk); (try clear hi)) | (go_at_call 12; (with_reducible refine (link_Link_Alive.calls g148 t160 t161 t162 t163 t164 t171 t172 t173 t174 t175 t176 w _ ?side1 ?side2 A22.out).mono ?_); (case side1 => repeat (first | (with_reducible first | exact HI148.out | apply IsS41.alloc | apply IsS41.drewN | apply IsS41.drew | apply IsS41.set_0 | apply IsS41.set_1 | apply IsS41.set_2 | apply IsS41.set_3 | apply IsS41.set_4) | exact HI148.out)); (case side2 => repeat (first | (with_reducible first | exact HB.out | apply below_alloc | apply pw_below_drewN | apply below_drew1 | refine below_set ?_ (IsS41.ge HI148.out)) | exact HB.out)); rintro e w24 ⟨rfl, hi, hb, hk⟩; have n0_ := Aside0.mk (hb); have n1_ := Aside0.mk (hi); clear HB; clear HI148; have HB := n0_; have HI148 := n1_; clear n0_ n1_; (try clear hb); (try clear hb2); (try clear hk); (try clear hi)) | (go_at_call 12; (refine calls_of_args (args' := #[.pointer (some ⟨g148, 0, none⟩)]) ?_ ?_; focus (first | rfl | (simp; done) | (refine qa_arr ?_; (repeat' (first | rfl | refine qa_cons ?_ ?_ | refine qa_int ?_ | refine qa_agg ?_ | refine qa_arr ?_ | omega)); done)); (with_reducible refine (link_Link_Alive.calls g148 t160 t161 t162 t163 t164 t171 t172 t173 t174 t175 t176 w _ ?side1 ?side2 A22.out).mono ?_)); (case side1 => repeat (first | (with_reducible first | exact HI148.out | apply IsS41.alloc | apply IsS41.drewN | apply IsS41.drew | apply IsS41.set_0 | apply IsS41.set_1 | apply IsS41.set_2 | apply IsS41.set_3 | apply IsS41.set_4) | exact HI148.out)); (case side2 => repeat (first | (with_reducible first | exact HB.out | apply below_alloc | apply pw_below_drewN | apply below_drew1 | refine below_set ?_ (IsS41.ge HI148.out)) | exact HB.out)); rintro e w24 ⟨rfl, hi, hb, hk⟩; have n0_ := Aside0.mk (hb); have n1_ := Aside0.mk (hi); clear HB; clear HI148; have HB := n0_; have HI148 := n1_; clear n0_ n1_; (try clear hb); (try clear hb2); (try clear hk); (try clear hi)))
              go_meet
              case rel => exact ⟨_, (!t171), (t172), (t173), (t174), (t175), (t176), (by first | rfl | (simp; done) | (simp [*]; done) | (refine qa_int ?_; omega) | (refine qa_int ?_; simp <;> omega)), H', ⟨by have := HK1.out; first | omega | exact Nat.le_refl _⟩, ⟨by repeat (first | (with_reducible first | exact HI148.out | apply IsS41.alloc | apply IsS41.drewN | apply IsS41.drew | apply IsS41.set_0 | apply IsS41.set_1 | apply IsS41.set_2 | apply IsS41.set_3 | apply IsS41.set_4) | exact HI148.out)⟩, ⟨by repeat (first | (with_reducible first | exact HB.out | apply below_alloc | apply pw_below_drewN | apply below_drew1 | refine below_set ?_ (IsS41.ge HI148.out)) | exact HB.out)⟩⟩
          case rest =>
            clear HC13
            try clear c1
            try clear p2
            try clear c5
            try clear p6
            try clear c8
            try clear c9
            try clear c9b0
            try clear c10
            try clear c13
            try clear c15
            try clear c16
            try clear c16b0
            try clear c16b1
            try clear c17
            try clear c17b0
            try clear c17b1
            try clear p2
            obtain ⟨kq, x49_12, x149000_12, x149001_12, x149002_12, x149003_12, x149004_12, rfl, HA, HJ12, HI148, HB⟩ := hcut
            cases kq with
            | zero => exact absurd HA.out (by simp [milestonelaw14_LinkDies.j1])
            | succ kj12 =>
              have H := HA.out
              clear HA
              simp only [milestonelaw14_LinkDies.j1] at H
              by_cases c25 : x49_12 = true
              · subst c25
                have H1 : (some false) = some r := by rw [if_pos rfl] at H; exact H
                clear H
                have H := H1
                clear H1
                obtain rfl := Option.some.inj H
                go_wp2
                go_ret
                exact ⟨by first | rfl | (simp [errW_none, errW_some] <;> rfl) | (simp [*, errW_none, errW_some] <;> rfl), by repeat (first | (with_reducible first | exact HB.out | apply below_alloc | apply pw_below_drewN | apply below_drew1 | refine below_set ?_ (IsS41.ge HI148.out)) | exact HB.out)⟩
              · replace c25 := Bool.eq_false_iff.mpr c25
                subst c25
                have H1 : (milestonelaw14_LinkDies.l1 kj12 x7_1 0 x149000_12 x149001_12 x149002_12 x149003_12 x149004_12) = some r := by rw [if_neg (show ¬ (false = true) by decide)] at H; exact H
                clear H
                have H := H1
                clear H1
                have H' := Aside0.mk H
                clear H
                go_wp2
                go_loopg [7, 10] kj12 (fun kq v7 v10 w' => ∃ (x7_3 : Int) (x10_3 : Int) (x149000_3 : Int) (x149001_3 : Int) (x149002_3 : Int) (x149003_3 : Int) (x149004_3 : Int), v7 = .int .u64 x7_3 ∧ v10 = .int .i64 x10_3 ∧ Aside0 (milestonelaw14_LinkDies.l1 kq x7_3 x10_3 x149000_3 x149001_3 x149002_3 x149003_3 x149004_3 = some r) ∧ Aside0 (kq ≤ kj12) ∧ Aside0 (IsS41 w w' g148 x149000_3 x149001_3 x149002_3 x149003_3 x149004_3) ∧ Aside0 (Below w.heap.size w w'))
                case atStart => exact ⟨(x7_1), (0), (x149000_12), (x149001_12), (x149002_12), (x149003_12), (x149004_12), (by first | rfl | (simp; done) | (simp [*]; done) | (refine qa_int ?_; omega) | (refine qa_int ?_; simp <;> omega)), (by first | rfl | (simp; done) | (simp [*]; done) | (refine qa_int ?_; omega) | (refine qa_int ?_; simp <;> omega)), H', ⟨Nat.le_refl _⟩, ⟨by repeat (first | (with_reducible first | exact HI148.out | apply IsS41.alloc | apply IsS41.drewN | apply IsS41.drew | apply IsS41.set_0 | apply IsS41.set_1 | apply IsS41.set_2 | apply IsS41.set_3 | apply IsS41.set_4) | exact HI148.out)⟩, ⟨by repeat (first | (with_reducible first | exact HB.out | apply below_alloc | apply pw_below_drewN | apply below_drew1 | refine below_set ?_ (IsS41.ge HI148.out)) | exact HB.out)⟩⟩
                case round =>
                  clear H'
                  try clear c1
                  try clear c2
                  try clear p2
                  try clear c5
                  try clear p6
                  try clear c8
                  try clear c9
                  try clear c9b0
                  try clear c10
                  try clear c13
                  try clear c15
                  try clear c16
                  try clear c16b0
                  try clear c16b1
                  try clear c17
                  try clear c17b0
                  try clear c17b1
                  try clear c25
                  try clear p2
                  try clear p6
                  obtain ⟨x7_3, x10_3, x149000_3, x149001_3, x149002_3, x149003_3, x149004_3, rfl, rfl, HA, HK3, HI148, HB⟩ := hrel
                  cases gk with
                  | zero => exact absurd HA.out (by simp [milestonelaw14_LinkDies.l1])
                  | succ k3 =>
                    have H := HA.out
                    clear HA
                    simp only [milestonelaw14_LinkDies.l1] at H
                    by_cases c26 : x10_3 < 20
                    · rw [if_pos c26] at H
                      have c26b0 : decide (x10_3 < 20) = true := decide_eq_true c26
                      clear c26
                      replace H := Option.bind_eq_some_iff.mp H
                      obtain ⟨⟨t177, t178, t179, t180, t181⟩, A270, H⟩ := H
                      replace H : (milestonelaw14_LinkDies.l1 k3 (IntKind.u64.wrap (x7_3 + 1)) (wrap64 (x10_3 + 1)) t177 t178 t179 t180 t181) = some r := H
                      have A27 := Aside0.mk A270
                      clear A270
                      have H' := Aside0.mk H
                      clear H
                      go_wp2_with (first | ((with_reducible refine gate_callee (f := 14) rfl ?_); refine goesL_ (some 58) rfl rfl Try.func14 (by kernel_rfl) rfl #[.pointer (some ⟨g148, 0, none⟩), .int .u64 (IntKind.u64.wrap (x7_3 + 1))] rfl (by (try simp only [List.map_toArray, List.map_cons, List.map_nil]); first | done | rfl | (simp only [List.length_drop, List.length_take]; rfl) | (simp; done) | (refine qa_arr ?_; (repeat' (first | rfl | refine qa_cons ?_ ?_ | refine qa_int ?_ | refine qa_agg ?_ | refine qa_arr ?_ | omega)); done)) ?_; (with_reducible refine (link_Link_Tick.calls k3 g148 x149000_3 x149001_3 x149002_3 x149003_3 x149004_3 (IntKind.u64.wrap (x7_3 + 1)) t177 t178 t179 t180 t181 w _ ?side1 ?side2 A27.out).mono ?_); (case side1 => repeat (first | (with_reducible first | exact HI148.out | apply IsS41.alloc | apply IsS41.drewN | apply IsS41.drew | apply IsS41.set_0 | apply IsS41.set_1 | apply IsS41.set_2 | apply IsS41.set_3 | apply IsS41.set_4) | exact HI148.out)); (case side2 => repeat (first | (with_reducible first | exact HB.out | apply below_alloc | apply pw_below_drewN | apply below_drew1 | refine below_set ?_ (IsS41.ge HI148.out)) | exact HB.out)); rintro e w28 ⟨rfl, hi, hb, hk⟩; refine ⟨_, rfl, ?_⟩; have n0_ := Aside0.mk (hb); have n1_ := Aside0.mk (hi); clear HB; clear HI148; have HB := n0_; have HI148 := n1_; clear n0_ n1_; (try clear hb); (try clear hb2); (try clear hk); (try clear hi)))
                      go_roundg k3
                      case measure => have := HK1.out; have := HJ12.out; have := HK3.out; omega
                      case rel => exact ⟨(IntKind.u64.wrap (x7_3 + 1)), (wrap64 (x10_3 + 1)), (t177), (t178), (t179), (t180), (t181), (by first | rfl | (simp; done) | (simp [*]; done) | (refine qa_int ?_; omega) | (refine qa_int ?_; simp <;> omega)), (by first | rfl | (simp; done) | (simp [*]; done) | (refine qa_int ?_; omega) | (refine qa_int ?_; simp <;> omega)), H', ⟨by have := HK1.out; have := HJ12.out; have := HK3.out; omega⟩, ⟨by repeat (first | (with_reducible first | exact HI148.out | apply IsS41.alloc | apply IsS41.drewN | apply IsS41.drew | apply IsS41.set_0 | apply IsS41.set_1 | apply IsS41.set_2 | apply IsS41.set_3 | apply IsS41.set_4) | exact HI148.out)⟩, ⟨by repeat (first | (with_reducible first | exact HB.out | apply below_alloc | apply pw_below_drewN | apply below_drew1 | refine below_set ?_ (IsS41.ge HI148.out)) | exact HB.out)⟩⟩
                    · rw [if_neg c26] at H
                      have c26b0 : decide (x10_3 < 20) = false := decide_eq_false c26
                      clear c26
                      replace H := Option.bind_eq_some_iff.mp H
                      obtain ⟨⟨t182, t183, t184, t185, t186, t187⟩, A290, H⟩ := H
                      replace H : (milestonelaw14_LinkDies.l2 k3 x7_3 (t182 == 65535) 0 t183 t184 t185 t186 t187) = some r := H
                      have A29 := Aside0.mk A290
                      clear A290
                      have H' := Aside0.mk H
                      clear H
                      go_wp2_with (first | ((with_reducible refine gate_callee (f := 15) rfl ?_); refine goesL_ (some 60) rfl rfl Try.func15 (by kernel_rfl) rfl #[.pointer (some ⟨g148, 0, none⟩)] rfl (by (try simp only [List.map_toArray, List.map_cons, List.map_nil]); first | done | rfl | (simp only [List.length_drop, List.length_take]; rfl) | (simp; done) | (refine qa_arr ?_; (repeat' (first | rfl | refine qa_cons ?_ ?_ | refine qa_int ?_ | refine qa_agg ?_ | refine qa_arr ?_ | omega)); done)) ?_; (with_reducible refine (link_Link_Cost.calls g148 x149000_3 x149001_3 x149002_3 x149003_3 x149004_3 t182 t183 t184 t185 t186 t187 w _ ?side1 ?side2 A29.out).mono ?_); (case side1 => repeat (first | (with_reducible first | exact HI148.out | apply IsS41.alloc | apply IsS41.drewN | apply IsS41.drew | apply IsS41.set_0 | apply IsS41.set_1 | apply IsS41.set_2 | apply IsS41.set_3 | apply IsS41.set_4) | exact HI148.out)); (case side2 => repeat (first | (with_reducible first | exact HB.out | apply below_alloc | apply pw_below_drewN | apply below_drew1 | refine below_set ?_ (IsS41.ge HI148.out)) | exact HB.out)); rintro e w30 ⟨rfl, hi, hb, hk⟩; refine ⟨_, rfl, ?_⟩; have n0_ := Aside0.mk (hb); have n1_ := Aside0.mk (hi); clear HB; clear HI148; have HB := n0_; have HI148 := n1_; clear n0_ n1_; (try clear hb); (try clear hb2); (try clear hk); (try clear hi)))
                      go_loopg [7, 12] k3 (fun kq v7 v12 w' => ∃ (x7_4 : Int) (x12_4 : Int) (x149000_4 : Int) (x149001_4 : Int) (x149002_4 : Int) (x149003_4 : Int) (x149004_4 : Int), v7 = .int .u64 x7_4 ∧ v12 = .int .i64 x12_4 ∧ Aside0 (milestonelaw14_LinkDies.l2 kq x7_4 (t182 == 65535) x12_4 x149000_4 x149001_4 x149002_4 x149003_4 x149004_4 = some r) ∧ Aside0 (kq ≤ k3) ∧ Aside0 (IsS41 w w' g148 x149000_4 x149001_4 x149002_4 x149003_4 x149004_4) ∧ Aside0 (Below w.heap.size w w'))
                      case atStart => exact ⟨(x7_3), (0), (t183), (t184), (t185), (t186), (t187), (by first | rfl | (simp; done) | (simp [*]; done) | (refine qa_int ?_; omega) | (refine qa_int ?_; simp <;> omega)), (by first | rfl | (simp; done) | (simp [*]; done) | (refine qa_int ?_; omega) | (refine qa_int ?_; simp <;> omega)), H', ⟨Nat.le_refl _⟩, ⟨by repeat (first | (with_reducible first | exact HI148.out | apply IsS41.alloc | apply IsS41.drewN | apply IsS41.drew | apply IsS41.set_0 | apply IsS41.set_1 | apply IsS41.set_2 | apply IsS41.set_3 | apply IsS41.set_4) | exact HI148.out)⟩, ⟨by repeat (first | (with_reducible first | exact HB.out | apply below_alloc | apply pw_below_drewN | apply below_drew1 | refine below_set ?_ (IsS41.ge HI148.out)) | exact HB.out)⟩⟩
                      case round =>
                        clear H'
                        try clear c1
                        try clear c2
                        try clear p2
                        try clear c5
                        try clear p6
                        try clear c8
                        try clear c9
                        try clear c9b0
                        try clear c10
                        try clear c13
                        try clear c14
                        try clear c15
                        try clear c16
                        try clear c16b0
                        try clear c16b1
                        try clear c17
                        try clear c17b0
                        try clear c17b1
                        try clear c25
                        try clear c26
                        try clear c26b0
                        try clear p2
                        try clear p6
                        obtain ⟨x7_4, x12_4, x149000_4, x149001_4, x149002_4, x149003_4, x149004_4, rfl, rfl, HA, HK4, HI148, HB⟩ := hrel
                        cases gk with
                        | zero => exact absurd HA.out (by simp [milestonelaw14_LinkDies.l2])
                        | succ k4 =>
                          have H := HA.out
                          clear HA
                          simp only [milestonelaw14_LinkDies.l2] at H
                          by_cases c31 : x12_4 < 120
                          · rw [if_pos c31] at H
                            have c31b0 : decide (x12_4 < 120) = true := decide_eq_true c31
                            clear c31
                            replace H := Option.bind_eq_some_iff.mp H
                            obtain ⟨⟨t188, t189, t190, t191, t192⟩, A320, H⟩ := H
                            replace H : (milestonelaw14_LinkDies.l2 k4 (IntKind.u64.wrap (x7_4 + 1)) (t182 == 65535) (wrap64 (x12_4 + 1)) t188 t189 t190 t191 t192) = some r := H
                            have A32 := Aside0.mk A320
                            clear A320
                            have H' := Aside0.mk H
                            clear H
                            go_wp2_with (first | ((with_reducible refine gate_callee (f := 14) rfl ?_); refine goesL_ (some 70) rfl rfl Try.func14 (by kernel_rfl) rfl #[.pointer (some ⟨g148, 0, none⟩), .int .u64 (IntKind.u64.wrap (x7_4 + 1))] rfl (by (try simp only [List.map_toArray, List.map_cons, List.map_nil]); first | done | rfl | (simp only [List.length_drop, List.length_take]; rfl) | (simp; done) | (refine qa_arr ?_; (repeat' (first | rfl | refine qa_cons ?_ ?_ | refine qa_int ?_ | refine qa_agg ?_ | refine qa_arr ?_ | omega)); done)) ?_; (with_reducible refine (link_Link_Tick.calls k4 g148 x149000_4 x149001_4 x149002_4 x149003_4 x149004_4 (IntKind.u64.wrap (x7_4 + 1)) t188 t189 t190 t191 t192 w _ ?side1 ?side2 A32.out).mono ?_); (case side1 => repeat (first | (with_reducible first | exact HI148.out | apply IsS41.alloc | apply IsS41.drewN | apply IsS41.drew | apply IsS41.set_0 | apply IsS41.set_1 | apply IsS41.set_2 | apply IsS41.set_3 | apply IsS41.set_4) | exact HI148.out)); (case side2 => repeat (first | (with_reducible first | exact HB.out | apply below_alloc | apply pw_below_drewN | apply below_drew1 | refine below_set ?_ (IsS41.ge HI148.out)) | exact HB.out)); rintro e w33 ⟨rfl, hi, hb, hk⟩; refine ⟨_, rfl, ?_⟩; have n0_ := Aside0.mk (hb); have n1_ := Aside0.mk (hi); clear HB; clear HI148; have HB := n0_; have HI148 := n1_; clear n0_ n1_; (try clear hb); (try clear hb2); (try clear hk); (try clear hi)))
                            go_roundg k4
                            case measure => have := HK1.out; have := HJ12.out; have := HK3.out; have := HK4.out; omega
                            case rel => exact ⟨(IntKind.u64.wrap (x7_4 + 1)), (wrap64 (x12_4 + 1)), (t188), (t189), (t190), (t191), (t192), (by first | rfl | (simp; done) | (simp [*]; done) | (refine qa_int ?_; omega) | (refine qa_int ?_; simp <;> omega)), (by first | rfl | (simp; done) | (simp [*]; done) | (refine qa_int ?_; omega) | (refine qa_int ?_; simp <;> omega)), H', ⟨by have := HK1.out; have := HJ12.out; have := HK3.out; have := HK4.out; omega⟩, ⟨by repeat (first | (with_reducible first | exact HI148.out | apply IsS41.alloc | apply IsS41.drewN | apply IsS41.drew | apply IsS41.set_0 | apply IsS41.set_1 | apply IsS41.set_2 | apply IsS41.set_3 | apply IsS41.set_4) | exact HI148.out)⟩, ⟨by repeat (first | (with_reducible first | exact HB.out | apply below_alloc | apply pw_below_drewN | apply below_drew1 | refine below_set ?_ (IsS41.ge HI148.out)) | exact HB.out)⟩⟩
                          · rw [if_neg c31] at H
                            have c31b0 : decide (x12_4 < 120) = false := decide_eq_false c31
                            clear c31
                            by_cases c34 : (t182 == 65535) = true
                            · rw [if_pos c34] at H
                              have c34b0 : (t182 == 65535) = true := c34
                              (try (have c34b1 : decide (t182 = 65535) = true := by simpa using c34))
                              (try (have c34b2 : (t182 == 65535) = true := by simpa using c34))
                              clear c34
                              replace H := Option.bind_eq_some_iff.mp H
                              obtain ⟨⟨t193, t194, t195, t196, t197, t198⟩, A350, H⟩ := H
                              replace H : (if t193 = true then (some false) else ((link_Link_Receives.f t194 t195 t196 t197 t198).bind fun bt199 => (some (bt199.1 == 65535)))) = some r := H
                              have A35 := Aside0.mk A350
                              clear A350
                              by_cases c36 : t193 = true
                              · subst c36
                                have H1 : (some false) = some r := by rw [if_pos rfl] at H; exact H
                                clear H
                                have H := H1
                                clear H1
                                obtain rfl := Option.some.inj H
                                go_wp2_with (first | (go_at_call 12; (with_reducible refine (link_Link_Alive.calls g148 x149000_4 x149001_4 x149002_4 x149003_4 x149004_4 true t194 t195 t196 t197 t198 w _ ?side1 ?side2 A35.out).mono ?_); (case side1 => repeat (first | (with_reducible first | exact HI148.out | apply IsS41.alloc | apply IsS41.drewN | apply IsS41.drew | apply IsS41.set_0 | apply IsS41.set_1 | apply IsS41.set_2 | apply IsS41.set_3 | apply IsS41.set_4) | exact HI148.out)); (case side2 => repeat (first | (with_reducible first | exact HB.out | apply below_alloc | apply pw_below_drewN | apply below_drew1 | refine below_set ?_ (IsS41.ge HI148.out)) | exact HB.out)); rintro e w37 ⟨rfl, hi, hb, hk⟩; have n0_ := Aside0.mk (hb); have n1_ := Aside0.mk (hi); clear HB; clear HI148; have HB := n0_; have HI148 := n1_; clear n0_ n1_; (try clear hb); (try clear hb2); (try clear hk); (try clear hi)) | (go_at_call 12; (refine calls_of_args (args' := #[.pointer (some ⟨g148, 0, none⟩)]) ?_ ?_; focus (first | rfl | (simp; done) | (refine qa_arr ?_; (repeat' (first | rfl | refine qa_cons ?_ ?_ | refine qa_int ?_ | refine qa_agg ?_ | refine qa_arr ?_ | omega)); done)); (with_reducible refine (link_Link_Alive.calls g148 x149000_4 x149001_4 x149002_4 x149003_4 x149004_4 true t194 t195 t196 t197 t198 w _ ?side1 ?side2 A35.out).mono ?_)); (case side1 => repeat (first | (with_reducible first | exact HI148.out | apply IsS41.alloc | apply IsS41.drewN | apply IsS41.drew | apply IsS41.set_0 | apply IsS41.set_1 | apply IsS41.set_2 | apply IsS41.set_3 | apply IsS41.set_4) | exact HI148.out)); (case side2 => repeat (first | (with_reducible first | exact HB.out | apply below_alloc | apply pw_below_drewN | apply below_drew1 | refine below_set ?_ (IsS41.ge HI148.out)) | exact HB.out)); rintro e w37 ⟨rfl, hi, hb, hk⟩; have n0_ := Aside0.mk (hb); have n1_ := Aside0.mk (hi); clear HB; clear HI148; have HB := n0_; have HI148 := n1_; clear n0_ n1_; (try clear hb); (try clear hb2); (try clear hk); (try clear hi)))
                                go_ret
                                exact ⟨by first | rfl | (simp [errW_none, errW_some] <;> rfl) | (simp [*, errW_none, errW_some] <;> rfl), by repeat (first | (with_reducible first | exact HB.out | apply below_alloc | apply pw_below_drewN | apply below_drew1 | refine below_set ?_ (IsS41.ge HI148.out)) | exact HB.out)⟩
                              · replace c36 := Bool.eq_false_iff.mpr c36
                                subst c36
                                have H1 : ((link_Link_Receives.f t194 t195 t196 t197 t198).bind fun bt199 => (some (bt199.1 == 65535))) = some r := by rw [if_neg (show ¬ (false = true) by decide)] at H; exact H
                                clear H
                                have H := H1
                                clear H1
                                replace H := Option.bind_eq_some_iff.mp H
                                obtain ⟨⟨t199, t200, t201, t202, t203, t204⟩, A380, H⟩ := H
                                replace H : (some (t199 == 65535)) = some r := H
                                have A38 := Aside0.mk A380
                                clear A380
                                obtain rfl := Option.some.inj H
                                go_wp2_with (first | (go_at_call 12; (with_reducible refine (link_Link_Alive.calls g148 x149000_4 x149001_4 x149002_4 x149003_4 x149004_4 false t194 t195 t196 t197 t198 w _ ?side1 ?side2 A35.out).mono ?_); (case side1 => repeat (first | (with_reducible first | exact HI148.out | apply IsS41.alloc | apply IsS41.drewN | apply IsS41.drew | apply IsS41.set_0 | apply IsS41.set_1 | apply IsS41.set_2 | apply IsS41.set_3 | apply IsS41.set_4) | exact HI148.out)); (case side2 => repeat (first | (with_reducible first | exact HB.out | apply below_alloc | apply pw_below_drewN | apply below_drew1 | refine below_set ?_ (IsS41.ge HI148.out)) | exact HB.out)); rintro e w39 ⟨rfl, hi, hb, hk⟩; have n0_ := Aside0.mk (hb); have n1_ := Aside0.mk (hi); clear HB; clear HI148; have HB := n0_; have HI148 := n1_; clear n0_ n1_; (try clear hb); (try clear hb2); (try clear hk); (try clear hi)) | (go_at_call 11; (with_reducible refine (link_Link_Receives.calls g148 t194 t195 t196 t197 t198 t199 t200 t201 t202 t203 t204 w _ ?side1 ?side2 A38.out).mono ?_); (case side1 => repeat (first | (with_reducible first | exact HI148.out | apply IsS41.alloc | apply IsS41.drewN | apply IsS41.drew | apply IsS41.set_0 | apply IsS41.set_1 | apply IsS41.set_2 | apply IsS41.set_3 | apply IsS41.set_4) | exact HI148.out)); (case side2 => repeat (first | (with_reducible first | exact HB.out | apply below_alloc | apply pw_below_drewN | apply below_drew1 | refine below_set ?_ (IsS41.ge HI148.out)) | exact HB.out)); rintro e w40 ⟨rfl, hi, hb, hk⟩; have n0_ := Aside0.mk (hb); have n1_ := Aside0.mk (hi); clear HB; clear HI148; have HB := n0_; have HI148 := n1_; clear n0_ n1_; (try clear hb); (try clear hb2); (try clear hk); (try clear hi)) | (go_at_call 12; (refine calls_of_args (args' := #[.pointer (some ⟨g148, 0, none⟩)]) ?_ ?_; focus (first | rfl | (simp; done) | (refine qa_arr ?_; (repeat' (first | rfl | refine qa_cons ?_ ?_ | refine qa_int ?_ | refine qa_agg ?_ | refine qa_arr ?_ | omega)); done)); (with_reducible refine (link_Link_Alive.calls g148 x149000_4 x149001_4 x149002_4 x149003_4 x149004_4 false t194 t195 t196 t197 t198 w _ ?side1 ?side2 A35.out).mono ?_)); (case side1 => repeat (first | (with_reducible first | exact HI148.out | apply IsS41.alloc | apply IsS41.drewN | apply IsS41.drew | apply IsS41.set_0 | apply IsS41.set_1 | apply IsS41.set_2 | apply IsS41.set_3 | apply IsS41.set_4) | exact HI148.out)); (case side2 => repeat (first | (with_reducible first | exact HB.out | apply below_alloc | apply pw_below_drewN | apply below_drew1 | refine below_set ?_ (IsS41.ge HI148.out)) | exact HB.out)); rintro e w39 ⟨rfl, hi, hb, hk⟩; have n0_ := Aside0.mk (hb); have n1_ := Aside0.mk (hi); clear HB; clear HI148; have HB := n0_; have HI148 := n1_; clear n0_ n1_; (try clear hb); (try clear hb2); (try clear hk); (try clear hi)) | (go_at_call 11; (refine calls_of_args (args' := #[.pointer (some ⟨g148, 0, none⟩)]) ?_ ?_; focus (first | rfl | (simp; done) | (refine qa_arr ?_; (repeat' (first | rfl | refine qa_cons ?_ ?_ | refine qa_int ?_ | refine qa_agg ?_ | refine qa_arr ?_ | omega)); done)); (with_reducible refine (link_Link_Receives.calls g148 t194 t195 t196 t197 t198 t199 t200 t201 t202 t203 t204 w _ ?side1 ?side2 A38.out).mono ?_)); (case side1 => repeat (first | (with_reducible first | exact HI148.out | apply IsS41.alloc | apply IsS41.drewN | apply IsS41.drew | apply IsS41.set_0 | apply IsS41.set_1 | apply IsS41.set_2 | apply IsS41.set_3 | apply IsS41.set_4) | exact HI148.out)); (case side2 => repeat (first | (with_reducible first | exact HB.out | apply below_alloc | apply pw_below_drewN | apply below_drew1 | refine below_set ?_ (IsS41.ge HI148.out)) | exact HB.out)); rintro e w40 ⟨rfl, hi, hb, hk⟩; have n0_ := Aside0.mk (hb); have n1_ := Aside0.mk (hi); clear HB; clear HI148; have HB := n0_; have HI148 := n1_; clear n0_ n1_; (try clear hb); (try clear hb2); (try clear hk); (try clear hi)))
                                go_ret
                                exact ⟨by first | rfl | (simp [errW_none, errW_some] <;> rfl) | (simp [*, errW_none, errW_some] <;> rfl), by repeat (first | (with_reducible first | exact HB.out | apply below_alloc | apply pw_below_drewN | apply below_drew1 | refine below_set ?_ (IsS41.ge HI148.out)) | exact HB.out)⟩
                            · rw [if_neg c34] at H
                              have c34b0 : (t182 == 65535) = false := by simpa using c34
                              (try (have c34b1 : decide (t182 = 65535) = false := by simpa using c34))
                              (try (have c34b2 : (t182 == 65535) = false := by simpa using c34))
                              (try (have c34b3 : ¬ (t182 = 65535) := by simpa using c34))
                              clear c34
                              obtain rfl := Option.some.inj H
                              go_wp2
                              go_ret
                              exact ⟨by first | rfl | (simp [errW_none, errW_some] <;> rfl) | (simp [*, errW_none, errW_some] <;> rfl), by repeat (first | (with_reducible first | exact HB.out | apply below_alloc | apply pw_below_drewN | apply below_drew1 | refine below_set ?_ (IsS41.ge HI148.out)) | exact HB.out)⟩
  · replace c5 := Bool.eq_false_iff.mpr c5
    subst c5
    have H1 : (some false) = some r := by rw [if_neg (show ¬ (false = true) by decide)] at H; exact H
    clear H
    have H := H1
    clear H1
    obtain rfl := Option.some.inj H
    go_enter Try.func5, Try.ntmps5
    go_wp2_with (first | ((with_reducible refine gate_callee (f := 8) rfl ?_); refine goesL_ (some 13) rfl rfl Try.func8 (by kernel_rfl) rfl #[] rfl (by (try simp only [List.map_toArray, List.map_cons, List.map_nil]); first | done | rfl | (simp only [List.length_drop, List.length_take]; rfl) | (simp; done) | (refine qa_arr ?_; (repeat' (first | rfl | refine qa_cons ?_ ?_ | refine qa_int ?_ | refine qa_agg ?_ | refine qa_arr ?_ | omega)); done)) ?_; (with_reducible refine (milestonelaw14_awake.calls  false _ A4.out).mono ?_); rintro e w41 ⟨rfl, hb⟩; refine ⟨_, rfl, ?_⟩; have n0_ := Aside0.mk (below_step (by repeat (first | (with_reducible first | exact HB.out | apply below_alloc | apply pw_below_drewN | apply below_drew1) | exact HB.out)) hb); clear HB; have HB := n0_; clear n0_; (try clear hb); (try clear hb2); (try clear hk); (try clear hi)))
    go_ret
    exact ⟨by first | rfl | (simp [errW_none, errW_some] <;> rfl) | (simp [*, errW_none, errW_some] <;> rfl), by repeat (first | (with_reducible first | exact HB.out | apply below_alloc | apply pw_below_drewN | apply below_drew1) | exact HB.out)⟩

/-- THE ONE PURE STATEMENT of milestonelaw14_LinkDies: yours. -/
def milestonelaw14_LinkDies.Pure : Prop := ∀ (a0 : Int) (a1 : Int) (a2 : Int), (Lit.int .u8 a0).wf = true → (Lit.int .u8 a1).wf = true → (Lit.int .u16 a2).wf = true → ∃ k, milestonelaw14_LinkDies.f k a0 a1 a2 = some true
theorem milestonelaw14_LinkDies.walk (P : milestonelaw14_LinkDies.Pure) (a0 : Int) (a1 : Int) (a2 : Int) (w : World) (w0 : (Lit.int .u8 a0).wf = true) (w1 : (Lit.int .u8 a1).wf = true) (w2 : (Lit.int .u16 a2).wf = true) :
    Calls Try.prog 5 #[.int .u8 a0, .int .u8 a1, .int .u16 a2] w fun e w' => e = .returned (.bool true) ∧ Below w.heap.size w w' := by
  obtain ⟨k, h⟩ := P a0 a1 a2 w0 w1 w2
  refine (milestonelaw14_LinkDies.calls k a0 a1 a2 true w h).mono ?_
  rintro e w' ⟨rfl, hd⟩
  exact ⟨rfl, hd⟩

end Go.Proofs.Ytkdjpkgaknfdeaa.QLinkDies
