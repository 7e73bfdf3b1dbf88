-- Lines by a program of this session, for this claim.
import Derived.Test.YtllcighpfikpkaaQChangeChainsx0
import Derived.Test.YtllcighpfikpkaaQChangeChainsx3
import Derived.Test.YtllcighpfikpkaaQChangeChainsx5
import Derived.Test.YtllcighpfikpkaaQChangeChainsx6
import Derived.Test.YtllcighpfikpkaaQChangeChainsx7
import Derived.Test.YtllcighpfikpkaaQChangeChainsx9
import Derived.Test.YtllcighpfikpkaaQChangeChainsx10
namespace Go.Proofs.Ytllcighpfikpkaa.QChangeChains
open Go.RowKit Go.Proofs.YtllcighpfikpkaaW.PrintWords Go.Proofs.YtllcighpfikpkaaW.PrintLast Go.Proofs.YtllcighpfikpkaaW.PrintMore
attribute [local go_sem] max2_int min2_int max_two min_two max_three min_three max_four min_four   -- for this text's walks alone
set_option linter.unusedVariables false
set_option linter.unusedSimpArgs false

attribute [local go_sem high] eqA31
/-! ### milestonelaw07_ChangeChains: function 10 -/
mutual
def milestonelaw07_ChangeChains.j0 : Nat → List (S38) → Int → Bool → Option (Bool)
  | 0, _, _, _ => none
  | k + 1, x0, x1, x19 => if x19 = true then ((milestonelaw07_awake.f k).bind fun t247 => (some t247)) else ((milestoneref07_History.f k x0).bind fun t248 => (milestonelaw07_ChangeChains.l0 k x1 t248 ([] : List (List Int)) 0 0 0 false 0 0 0 0 0))
def milestonelaw07_ChangeChains.l0 : Nat → Int → List (S31) → List (List Int) → Int → Int → Int → Bool → Int → Int → Int → Int → Int → Option (Bool)
  | 0, _, _, _, _, _, _, _, _, _, _, _, _ => none
  | k + 1, x1, x5, x7, x8, x252000, x252001, x252002, x252003, x252004, x252005, x252006, x252007 => if x8 < (x5.length : Int) then (if 0 ≤ x8 then ((change_Encode.f k x252000 x252001 x252002 x252003 x252004 x252005 x252006 x252007 ((rd_T31 x5 x8).f0) ((rd_T31 x5 x8).f1) ((rd_T31 x5 x8).f2) ((rd_T31 x5 x8).f3.f0.f0) ((rd_T31 x5 x8).f3.f0.f1) ((rd_T31 x5 x8).f3.f1) ((rd_T31 x5 x8).f3.f2) ((rd_T31 x5 x8).f3.f3)).bind fun t253 => (if x7.length < 5864062014805 then (milestonelaw07_ChangeChains.l0 k x1 x5 (x7 ++ [t253]) (wrap64 (x8 + 1)) ((rd_T31 x5 x8).f0) ((rd_T31 x5 x8).f1) ((rd_T31 x5 x8).f2) ((rd_T31 x5 x8).f3.f0.f0) ((rd_T31 x5 x8).f3.f0.f1) ((rd_T31 x5 x8).f3.f1) ((rd_T31 x5 x8).f3.f2) ((rd_T31 x5 x8).f3.f3)) else (none))) else (none)) else (if (wrap64 ((x5.length : Int) + 1)) = 0 then (none) else (milestonelaw07_ChangeChains.l1 k x5 x7 (Int.tmod (wrap64 (x1)) (wrap64 ((x5.length : Int) + 1))) 0 0 0 false 0 0 0 0 0))
def milestonelaw07_ChangeChains.l1 : Nat → List (S31) → List (List Int) → Int → Int → Int → Int → Bool → Int → Int → Int → Int → Int → Option (Bool)
  | 0, _, _, _, _, _, _, _, _, _, _, _, _ => none
  | k + 1, x5, x7, x9, x10, x252000, x252001, x252002, x252003, x252004, x252005, x252006, x252007 => if x10 < x9 then (if 0 ≤ x10 then (if x10 < (x7.length : Int) then ((change_Decode.f k x252000 x252001 x252002 x252003 x252004 x252005 x252006 x252007 (rd_L10 x7 x10)).bind fun bt261 => (if bt261.2.2.2.2.2.2.2.2 = 0 then (if x10 < (x5.length : Int) then (if (!(bt261.1 == ((rd_T31 x5 x10).f0)) || (!(bt261.2.1 == ((rd_T31 x5 x10).f1)) || (!(bt261.2.2.1 == ((rd_T31 x5 x10).f2)) || (((!(bt261.2.2.2.1 == ((rd_T31 x5 x10).f3.f0.f0)) || (!(bt261.2.2.2.2.1 == ((rd_T31 x5 x10).f3.f0.f1)))) || (!(bt261.2.2.2.2.2.1 == ((rd_T31 x5 x10).f3.f1)) || (!(bt261.2.2.2.2.2.2.1 == ((rd_T31 x5 x10).f3.f2)) || (!(bt261.2.2.2.2.2.2.2.1 == ((rd_T31 x5 x10).f3.f3)))))))))) = true then (some false) else ((change_Follows.f x252000 x252001 x252002 x252003 x252004 x252005 x252006 x252007 bt261.1 bt261.2.1 bt261.2.2.1 bt261.2.2.2.1 bt261.2.2.2.2.1 bt261.2.2.2.2.2.1 bt261.2.2.2.2.2.2.1 bt261.2.2.2.2.2.2.2.1).bind fun t272 => (if t272 = true then (milestonelaw07_ChangeChains.l1 k x5 x7 x9 (wrap64 (x10 + 1)) bt261.1 bt261.2.1 bt261.2.2.1 bt261.2.2.2.1 bt261.2.2.2.2.1 bt261.2.2.2.2.2.1 bt261.2.2.2.2.2.2.1 bt261.2.2.2.2.2.2.2.1) else (some false)))) else (none)) else (some false))) else (none)) else (none)) else (some true)
end
def milestonelaw07_ChangeChains.f (k : Nat) (l0 : List (S38)) (a1 : Int) : Option (Bool) := (milestonelaw07_awake.f k).bind fun t246 => (if t246 = true then (milestonelaw07_ChangeChains.j0 k l0 a1 (decide ((l0.length : Int) > 60))) else (milestonelaw07_ChangeChains.j0 k l0 a1 true))
theorem milestonelaw07_ChangeChains.mono_l : ∀ k, (∀ y0 y1 y2, LeO (milestonelaw07_ChangeChains.j0 k y0 y1 y2) (milestonelaw07_ChangeChains.j0 (k + 1) y0 y1 y2)) ∧ (∀ y0 y1 y2 y3 y4 y5 y6 y7 y8 y9 y10 y11, LeO (milestonelaw07_ChangeChains.l0 k y0 y1 y2 y3 y4 y5 y6 y7 y8 y9 y10 y11) (milestonelaw07_ChangeChains.l0 (k + 1) y0 y1 y2 y3 y4 y5 y6 y7 y8 y9 y10 y11)) ∧ (∀ y0 y1 y2 y3 y4 y5 y6 y7 y8 y9 y10 y11, LeO (milestonelaw07_ChangeChains.l1 k y0 y1 y2 y3 y4 y5 y6 y7 y8 y9 y10 y11) (milestonelaw07_ChangeChains.l1 (k + 1) y0 y1 y2 y3 y4 y5 y6 y7 y8 y9 y10 y11))
  | 0 => ⟨fun _ _ _ r h => by simp [milestonelaw07_ChangeChains.j0] at h, fun _ _ _ _ _ _ _ _ _ _ _ _ r h => by simp [milestonelaw07_ChangeChains.l0] at h, fun _ _ _ _ _ _ _ _ _ _ _ _ r h => by simp [milestonelaw07_ChangeChains.l1] at h⟩
  | k + 1 => by
    obtain ⟨ih0, ih1, ih2⟩ := milestonelaw07_ChangeChains.mono_l k
    refine ⟨?_, ?_, ?_⟩
    · intro y0 y1 y2
      unfold milestonelaw07_ChangeChains.j0
      repeat' first
      | (with_reducible exact ih0 _ _ _)
      | (with_reducible exact ih1 _ _ _ _ _ _ _ _ _ _ _ _)
      | (with_reducible exact ih2 _ _ _ _ _ _ _ _ _ _ _ _)
      | (with_reducible exact change_Decode.mono _ _ _ _ _ _ _ _ _ _)
      | (with_reducible exact change_Encode.mono _ _ _ _ _ _ _ _ _ _ _ _ _ _ _ _ _)
      | (with_reducible exact milestonelaw07_awake.mono _)
      | (with_reducible exact milestoneref07_History.mono _ _)
      | (with_reducible exact LeO.refl _)
      | (with_reducible exact LeO.none _)
      | (with_reducible refine LeO.ite ?_ ?_)
      | (with_reducible refine LeO.bind ?_ (fun _ => ?_))
      | exact ih0 _ _ _
      | exact ih1 _ _ _ _ _ _ _ _ _ _ _ _
      | exact ih2 _ _ _ _ _ _ _ _ _ _ _ _
      | exact change_Decode.mono _ _ _ _ _ _ _ _ _ _
      | exact change_Encode.mono _ _ _ _ _ _ _ _ _ _ _ _ _ _ _ _ _
      | exact milestonelaw07_awake.mono _
      | exact milestoneref07_History.mono _ _
      | exact LeO.none _
      | refine LeO.ite ?_ ?_
      | refine LeO.bind ?_ (fun _ => ?_)
    · intro y0 y1 y2 y3 y4 y5 y6 y7 y8 y9 y10 y11
      unfold milestonelaw07_ChangeChains.l0
      repeat' first
      | (with_reducible exact ih0 _ _ _)
      | (with_reducible exact ih1 _ _ _ _ _ _ _ _ _ _ _ _)
      | (with_reducible exact ih2 _ _ _ _ _ _ _ _ _ _ _ _)
      | (with_reducible exact change_Decode.mono _ _ _ _ _ _ _ _ _ _)
      | (with_reducible exact change_Encode.mono _ _ _ _ _ _ _ _ _ _ _ _ _ _ _ _ _)
      | (with_reducible exact milestonelaw07_awake.mono _)
      | (with_reducible exact milestoneref07_History.mono _ _)
      | (with_reducible exact LeO.refl _)
      | (with_reducible exact LeO.none _)
      | (with_reducible refine LeO.ite ?_ ?_)
      | (with_reducible refine LeO.bind ?_ (fun _ => ?_))
      | exact ih0 _ _ _
      | exact ih1 _ _ _ _ _ _ _ _ _ _ _ _
      | exact ih2 _ _ _ _ _ _ _ _ _ _ _ _
      | exact change_Decode.mono _ _ _ _ _ _ _ _ _ _
      | exact change_Encode.mono _ _ _ _ _ _ _ _ _ _ _ _ _ _ _ _ _
      | exact milestonelaw07_awake.mono _
      | exact milestoneref07_History.mono _ _
      | exact LeO.none _
      | refine LeO.ite ?_ ?_
      | refine LeO.bind ?_ (fun _ => ?_)
    · intro y0 y1 y2 y3 y4 y5 y6 y7 y8 y9 y10 y11
      unfold milestonelaw07_ChangeChains.l1
      repeat' first
      | (with_reducible exact ih0 _ _ _)
      | (with_reducible exact ih1 _ _ _ _ _ _ _ _ _ _ _ _)
      | (with_reducible exact ih2 _ _ _ _ _ _ _ _ _ _ _ _)
      | (with_reducible exact change_Decode.mono _ _ _ _ _ _ _ _ _ _)
      | (with_reducible exact change_Encode.mono _ _ _ _ _ _ _ _ _ _ _ _ _ _ _ _ _)
      | (with_reducible exact milestonelaw07_awake.mono _)
      | (with_reducible exact milestoneref07_History.mono _ _)
      | (with_reducible exact LeO.refl _)
      | (with_reducible exact LeO.none _)
      | (with_reducible refine LeO.ite ?_ ?_)
      | (with_reducible refine LeO.bind ?_ (fun _ => ?_))
      | exact ih0 _ _ _
      | exact ih1 _ _ _ _ _ _ _ _ _ _ _ _
      | exact ih2 _ _ _ _ _ _ _ _ _ _ _ _
      | exact change_Decode.mono _ _ _ _ _ _ _ _ _ _
      | exact change_Encode.mono _ _ _ _ _ _ _ _ _ _ _ _ _ _ _ _ _
      | exact milestonelaw07_awake.mono _
      | exact milestoneref07_History.mono _ _
      | exact LeO.none _
      | refine LeO.ite ?_ ?_
      | refine LeO.bind ?_ (fun _ => ?_)
theorem milestonelaw07_ChangeChains.mono : ∀ a0 a1 k, LeO (milestonelaw07_ChangeChains.f k a0 a1) (milestonelaw07_ChangeChains.f (k + 1) a0 a1) := by
  intro a0 a1 k
  obtain ⟨ih0, ih1, ih2⟩ := milestonelaw07_ChangeChains.mono_l k
  unfold milestonelaw07_ChangeChains.f
  repeat' first
      | (with_reducible exact ih0 _ _ _)
      | (with_reducible exact ih1 _ _ _ _ _ _ _ _ _ _ _ _)
      | (with_reducible exact ih2 _ _ _ _ _ _ _ _ _ _ _ _)
      | (with_reducible exact change_Decode.mono _ _ _ _ _ _ _ _ _ _)
      | (with_reducible exact change_Encode.mono _ _ _ _ _ _ _ _ _ _ _ _ _ _ _ _ _)
      | (with_reducible exact milestonelaw07_awake.mono _)
      | (with_reducible exact milestoneref07_History.mono _ _)
      | (with_reducible exact LeO.refl _)
      | (with_reducible exact LeO.none _)
      | (with_reducible refine LeO.ite ?_ ?_)
      | (with_reducible refine LeO.bind ?_ (fun _ => ?_))
      | exact ih0 _ _ _
      | exact ih1 _ _ _ _ _ _ _ _ _ _ _ _
      | exact ih2 _ _ _ _ _ _ _ _ _ _ _ _
      | exact change_Decode.mono _ _ _ _ _ _ _ _ _ _
      | exact change_Encode.mono _ _ _ _ _ _ _ _ _ _ _ _ _ _ _ _ _
      | exact milestonelaw07_awake.mono _
      | exact milestoneref07_History.mono _ _
      | exact LeO.none _
      | refine LeO.ite ?_ ?_
      | refine LeO.bind ?_ (fun _ => ?_)
def milestonelaw07_ChangeChains.T9 : Bool × List (List Nat × List Nat) := (true, [([], []), ([], []), ([], []), ([], []), ([2, 3], [2, 3]), ([4], [4]), ([1, 5], [1, 5]), ([6], [6]), ([0, 7, 6], [0, 7]), ([8, 8, 0, 1, 2, 3, 4, 5, 6, 7, 8], [0, 8])])
def milestonelaw07_ChangeChains.B9 : List Nat := [0, 0, 0, 0, 12, 28, 62, 126, 255, 511]
theorem milestonelaw07_ChangeChains.tab9 : rtab .any (opsOf Try.f10 9) = milestonelaw07_ChangeChains.T9 := by kernel_rfl
theorem milestonelaw07_ChangeChains.bits9 : waitsOk milestonelaw07_ChangeChains.T9.2 milestonelaw07_ChangeChains.B9 = true := by kernel_rfl
def milestonelaw07_ChangeChains.T16 : Bool × List (List Nat × List Nat) := (true, [([], []), ([], []), ([], []), ([1, 2], [1, 2]), ([3], [3]), ([0, 4], [0, 4]), ([5], [5]), ([6], [6]), ([6], [6]), ([], []), ([9, 7, 5, 0, 1, 2, 3, 4, 5, 6, 7, 9], [7, 9]), ([8, 10, 0, 1, 2, 3, 4, 5, 6, 7, 8, 9, 10], [8])])
def milestonelaw07_ChangeChains.B16 : List Nat := [0, 0, 0, 6, 14, 31, 63, 127, 127, 0, 767, 2047]
theorem milestonelaw07_ChangeChains.tab16 : rtab .any (opsOf Try.f10 16) = milestonelaw07_ChangeChains.T16 := by kernel_rfl
theorem milestonelaw07_ChangeChains.bits16 : waitsOk milestonelaw07_ChangeChains.T16.2 milestonelaw07_ChangeChains.B16 = true := by kernel_rfl
def milestonelaw07_ChangeChains.T17 : Bool × List (List Nat × List Nat) := (true, [([], []), ([0], [0]), ([1], [1]), ([2], [2]), ([2], [2]), ([2], [2]), ([4, 5, 2], [2, 4, 5]), ([6, 2], [2, 6]), ([3, 7, 2], [2, 3, 7]), ([2, 8], [2, 8]), ([9, 2], [9]), ([10], [10]), ([10], [10]), ([11, 12, 10, 10], [10, 11, 12]), ([13, 10], [10, 13]), ([10, 14], [10, 14])])
def milestonelaw07_ChangeChains.B17 : List Nat := [0, 1, 3, 7, 7, 7, 55, 119, 255, 511, 1023, 2047, 2047, 8191, 16383, 32767]
theorem milestonelaw07_ChangeChains.tab17 : rtab .any (opsOf Try.f10 17) = milestonelaw07_ChangeChains.T17 := by kernel_rfl
theorem milestonelaw07_ChangeChains.bits17 : waitsOk milestonelaw07_ChangeChains.T17.2 milestonelaw07_ChangeChains.B17 = true := by kernel_rfl
set_option maxHeartbeats 8000000 in
set_option maxRecDepth 100000 in
theorem milestonelaw07_ChangeChains.calls (k : Nat) (A0 : Option Addr) (c0 : Nat) (l0 : List (S38)) (a1 : Int) (r : Bool) (w : World) (hr0 : Kd.C k38 w A0 l0.length l0) (hc0 : l0.length ≤ c0) (h : milestonelaw07_ChangeChains.f k l0 a1 = some r) (hT : r = true) :
    Calls Try.prog 10 #[.slice A0 l0.length c0, .int .u8 a1] w fun e w' => e = .returned (.bool r) ∧ Below w.heap.size w w' := by
  have HT := Aside0.mk hT
  clear hT
  have hu31 := Try.underlying31
  have HR0 := Aside0.mk hr0
  have HC0 := Aside0.mk hc0
  clear hr0 hc0
  have HB := Aside0.mk (Below.refl w.heap.size w)
  have H : ((milestonelaw07_awake.f k).bind fun t246 => (if t246 = true then (milestonelaw07_ChangeChains.j0 k l0 a1 (decide ((l0.length : Int) > 60))) else (milestonelaw07_ChangeChains.j0 k l0 a1 true))) = some r := h
  clear h
  have HC3 := Aside0.mk H
  clear H
  go_enter Try.func10, Try.ntmps10
  go_upto_region 1 with (fail)
  go_cut [19] (fun v19 wc => ∃ (kq : Nat) (x19_2 : Bool), v19 = .bool x19_2 ∧ Aside0 (milestonelaw07_ChangeChains.j0 kq l0 a1 x19_2 = some r) ∧ Aside0 (kq ≤ k) ∧ Aside0 (Below w.heap.size w wc))
  case first =>
    have H := HC3.out
    clear HC3
    replace H := Option.bind_eq_some_iff.mp H
    obtain ⟨t246, A40, H⟩ := H
    replace H : (if t246 = true then (milestonelaw07_ChangeChains.j0 k l0 a1 (decide ((l0.length : Int) > 60))) else (milestonelaw07_ChangeChains.j0 k l0 a1 true)) = some r := H
    have A4 := Aside0.mk A40
    clear A40
    by_cases c5 : t246 = true
    · subst c5
      have H1 : (milestonelaw07_ChangeChains.j0 k l0 a1 (decide ((l0.length : Int) > 60))) = some r := by rw [if_pos rfl] at H; exact H
      clear H
      have H := H1
      clear H1
      have H' := Aside0.mk H
      clear H
      go_wp2_with (first | ((with_reducible refine gate_callee (f := 12) rfl ?_); refine goesL_ (some 13) rfl rfl Try.func12 (by kernel_rfl) rfl #[] rfl (by (try simp only [List.map_toArray, List.map_cons, List.map_nil]); first | done | rfl | (simp only [List.length_drop, List.length_take]; rfl) | (simp; done) | (refine qa_arr ?_; (repeat' (first | rfl | refine qa_cons ?_ ?_ | refine qa_int ?_ | refine qa_agg ?_ | refine qa_arr ?_ | omega)); done)) ?_; (with_reducible refine (milestonelaw07_awake.calls k  true _ A4.out).mono ?_); rintro e w6 ⟨rfl, hb⟩; refine ⟨_, rfl, ?_⟩; have n0_ := Aside0.mk (below_step (by repeat (first | (with_reducible first | exact HB.out | apply below_alloc | apply pw_below_drewN | apply below_drew1) | exact HB.out)) hb); clear HB; have HB := n0_; clear n0_; (try clear hb); (try clear hb2); (try clear hk); (try clear hi)))
      go_meet
      case rel => exact ⟨_, (decide ((l0.length : Int) > 60)), (by first | rfl | (simp; done) | (simp [*]; done) | (refine qa_int ?_; omega) | (refine qa_int ?_; simp <;> omega)), H', ⟨by first | omega | exact Nat.le_refl _⟩, ⟨by repeat (first | (with_reducible first | exact HB.out | apply below_alloc | apply pw_below_drewN | apply below_drew1) | exact HB.out)⟩⟩
    · replace c5 := Bool.eq_false_iff.mpr c5
      subst c5
      have H1 : (milestonelaw07_ChangeChains.j0 k l0 a1 true) = some r := by rw [if_neg (show ¬ (false = true) by decide)] at H; exact H
      clear H
      have H := H1
      clear H1
      have H' := Aside0.mk H
      clear H
      go_wp2_with (first | ((with_reducible refine gate_callee (f := 12) rfl ?_); refine goesL_ (some 13) rfl rfl Try.func12 (by kernel_rfl) rfl #[] rfl (by (try simp only [List.map_toArray, List.map_cons, List.map_nil]); first | done | rfl | (simp only [List.length_drop, List.length_take]; rfl) | (simp; done) | (refine qa_arr ?_; (repeat' (first | rfl | refine qa_cons ?_ ?_ | refine qa_int ?_ | refine qa_agg ?_ | refine qa_arr ?_ | omega)); done)) ?_; (with_reducible refine (milestonelaw07_awake.calls k  false _ A4.out).mono ?_); rintro e w7 ⟨rfl, hb⟩; refine ⟨_, rfl, ?_⟩; have n0_ := Aside0.mk (below_step (by repeat (first | (with_reducible first | exact HB.out | apply below_alloc | apply pw_below_drewN | apply below_drew1) | exact HB.out)) hb); clear HB; have HB := n0_; clear n0_; (try clear hb); (try clear hb2); (try clear hk); (try clear hi)))
      go_meet
      case rel => exact ⟨_, (true), (by first | rfl | (simp; done) | (simp [*]; done) | (refine qa_int ?_; omega) | (refine qa_int ?_; simp <;> omega)), H', ⟨by first | omega | exact Nat.le_refl _⟩, ⟨by repeat (first | (with_reducible first | exact HB.out | apply below_alloc | apply pw_below_drewN | apply below_drew1) | exact HB.out)⟩⟩
  case rest =>
    clear HC3
    try clear c1
    try clear p2
    try clear c5
    obtain ⟨kq, x19_2, rfl, HA, HJ2, HB⟩ := hcut
    cases kq with
    | zero => exact absurd HA.out (by simp [milestonelaw07_ChangeChains.j0])
    | succ kj2 =>
      have H := HA.out
      clear HA
      simp only [milestonelaw07_ChangeChains.j0] at H
      by_cases c8 : x19_2 = true
      · subst c8
        have H1 : ((milestonelaw07_awake.f kj2).bind fun t247 => (some t247)) = some r := by rw [if_pos rfl] at H; exact H
        clear H
        have H := H1
        clear H1
        replace H := Option.bind_eq_some_iff.mp H
        obtain ⟨t247, A90, H⟩ := H
        replace H : (some t247) = some r := H
        have A9 := Aside0.mk A90
        clear A90
        obtain rfl := Option.some.inj H
        simp only [Option.some.injEq, Prod.mk.injEq] at H
        obtain ⟨rfl⟩ := H
        go_wp2_with (first | ((with_reducible refine gate_callee (f := 12) rfl ?_); refine goesL_ (some 20) rfl rfl Try.func12 (by kernel_rfl) rfl #[] rfl (by (try simp only [List.map_toArray, List.map_cons, List.map_nil]); first | done | rfl | (simp only [List.length_drop, List.length_take]; rfl) | (simp; done) | (refine qa_arr ?_; (repeat' (first | rfl | refine qa_cons ?_ ?_ | refine qa_int ?_ | refine qa_agg ?_ | refine qa_arr ?_ | omega)); done)) ?_; (with_reducible refine (milestonelaw07_awake.calls kj2  t247 _ A9.out).mono ?_); rintro e w10 ⟨rfl, hb⟩; refine ⟨_, rfl, ?_⟩; have n0_ := Aside0.mk (below_step (by repeat (first | (with_reducible first | exact HB.out | apply below_alloc | apply pw_below_drewN | apply below_drew1) | exact HB.out)) hb); clear HB; have HB := n0_; clear n0_; (try clear hb); (try clear hb2); (try clear hk); (try clear hi)))
        go_ret
        exact ⟨by first | rfl | (simp [errW_none, errW_some] <;> rfl) | (simp [*, errW_none, errW_some] <;> rfl), by repeat (first | (with_reducible first | exact HB.out | apply below_alloc | apply pw_below_drewN | apply below_drew1) | exact HB.out)⟩
      · replace c8 := Bool.eq_false_iff.mpr c8
        subst c8
        have H1 : ((milestoneref07_History.f kj2 l0).bind fun t248 => (milestonelaw07_ChangeChains.l0 kj2 a1 t248 ([] : List (List Int)) 0 0 0 false 0 0 0 0 0)) = some r := by rw [if_neg (show ¬ (false = true) by decide)] at H; exact H
        clear H
        have H := H1
        clear H1
        replace H := Option.bind_eq_some_iff.mp H
        obtain ⟨t248, A110, H⟩ := H
        replace H : (milestonelaw07_ChangeChains.l0 kj2 a1 t248 ([] : List (List Int)) 0 0 0 false 0 0 0 0 0) = some r := H
        have A11 := Aside0.mk A110
        clear A110
        have H' := Aside0.mk H
        clear H
        go_wp2_with (first | ((with_reducible refine gate_callee (f := 14) rfl ?_); refine goesL_ (some 22) rfl rfl Try.func14 (by kernel_rfl) rfl #[.slice A0 l0.length c0] rfl (by (try simp only [List.map_toArray, List.map_cons, List.map_nil]); first | done | rfl | (simp only [List.length_drop, List.length_take]; rfl) | (simp; done) | (refine qa_arr ?_; (repeat' (first | rfl | refine qa_cons ?_ ?_ | refine qa_int ?_ | refine qa_agg ?_ | refine qa_arr ?_ | omega)); done)) ?_; (with_reducible refine (milestoneref07_History.calls kj2 _ _ l0 t248 _ ?side1 ?side2 A11.out).mono ?_); (case side1 => repeat (first | exact (Kd.C_below HR0.out HB.out) | (with_reducible refine Kd.C_alloc ?_ _) | (with_reducible refine Kd.C_drewN ?_ _) | (with_reducible refine Kd.C_drew ?_))); (case side2 => exact HC0.out); rintro e w12 ⟨v249, rfl, ho0, hb⟩; refine ⟨_, rfl, ?_⟩; have n0_ := Aside0.mk (Kd.R_lower ho0 (below_size (by repeat (first | (with_reducible first | exact HB.out | apply below_alloc | apply pw_below_drewN | apply below_drew1) | exact HB.out)))); have n1_ := Aside0.mk (below_step (by repeat (first | (with_reducible first | exact HB.out | apply below_alloc | apply pw_below_drewN | apply below_drew1) | exact HB.out)) hb); clear HB; have HO250 := n0_; have HB := n1_; clear n0_ n1_; (try clear hb); (try clear hb2); (try clear hk); (try clear hi); (try clear ho0)) | ((with_reducible refine gate_dst (N := 6) rfl ?_); (try (refine gate_guard (by rfl) ?_; dsimp only)); refine box_event ?hg (N := 6) ?hd (cs := #[.int .u64 0, .int .u64 0, .bool false, .int .u32 0, .int .u8 0, .int .i64 0, .int .u16 0, .int .u16 0]) (t := 31) ?hr ?_; (case hd => rfl); (case hg => rfl); (case hr => first | (go_simp; done) | (go_simp; rfl)); intro gb251 hg w13 hbox hb; have n0_ := Aside0.mk (Kd.R_below (Kd.R_elderB (by (with_reducible repeat (first | apply Kd.R_alloc | apply Kd.R_drewN | apply Kd.R_drew)); exact HO250.out) gb251 (Nat.le_of_eq hg.symm)) hb); have n1_ := Aside0.mk (below_step (by repeat (first | (with_reducible first | exact HB.out | apply below_alloc | apply pw_below_drewN | apply below_drew1) | exact HB.out)) hb); have n2_ := Aside0.mk (hbox); have n3_ := Aside0.mk ((by rw [hg]; exact (below_size (by repeat (first | (with_reducible first | exact HB.out | apply below_alloc | apply pw_below_drewN | apply below_drew1) | exact HB.out))) : w.heap.size ≤ gb251)); have n4_ := Aside0.mk ((by rw [hg]; exact (below_size (by repeat (first | (with_reducible first | exact HB.out | apply below_alloc | apply pw_below_drewN | apply below_drew1) | exact HB.out))) : w.heap.size ≤ gb251)); clear HO250; clear HB; have HO250 := n0_; have HB := n1_; have BK251 := n2_; have GW251 := n3_; have GE251 := n4_; clear n0_ n1_ n2_ n3_ n4_; clear hb hbox hg; have hcz14_0 : w13.cell? ⟨gb251, 0, none⟩ = some (.int .u64 0) := (blk_cell BK251.out 0).trans rfl; have hcz14_1 : w13.cell? ⟨gb251, 1, none⟩ = some (.int .u64 0) := (blk_cell BK251.out 1).trans rfl; have hcz14_2 : w13.cell? ⟨gb251, 2, none⟩ = some (.bool false) := (blk_cell BK251.out 2).trans rfl; have hcz14_3 : w13.cell? ⟨gb251, 3, none⟩ = some (.int .u32 0) := (blk_cell BK251.out 3).trans rfl; have hcz14_4 : w13.cell? ⟨gb251, 4, none⟩ = some (.int .u8 0) := (blk_cell BK251.out 4).trans rfl; have hcz14_5 : w13.cell? ⟨gb251, 5, none⟩ = some (.int .i64 0) := (blk_cell BK251.out 5).trans rfl; have hcz14_6 : w13.cell? ⟨gb251, 6, none⟩ = some (.int .u16 0) := (blk_cell BK251.out 6).trans rfl; have hcz14_7 : w13.cell? ⟨gb251, 7, none⟩ = some (.int .u16 0) := (blk_cell BK251.out 7).trans rfl; have hfz14_0 := blk_frozen BK251.out 0; have hfz14_1 := blk_frozen BK251.out 1; have hfz14_2 := blk_frozen BK251.out 2; have hfz14_3 := blk_frozen BK251.out 3; have hfz14_4 := blk_frozen BK251.out 4; have hfz14_5 := blk_frozen BK251.out 5; have hfz14_6 := blk_frozen BK251.out 6; have hfz14_7 := blk_frozen BK251.out 7))
        go_loopg [7, 8] kj2 (fun kq v7 v8 w' => ∃ (x7_2 : List (List Int)) (x8_2 : Int) (x252000_2 : Int) (x252001_2 : Int) (x252002_2 : Bool) (x252003_2 : Int) (x252004_2 : Int) (x252005_2 : Int) (x252006_2 : Int) (x252007_2 : Int), v8 = .int .i64 x8_2 ∧ Aside0 (milestonelaw07_ChangeChains.l0 kq a1 t248 x7_2 x8_2 x252000_2 x252001_2 x252002_2 x252003_2 x252004_2 x252005_2 x252006_2 x252007_2 = some r) ∧ Aside0 (kq ≤ kj2) ∧ Aside0 (Kd.R k31 31 w' w.heap.size (fun k_ => k_ ≠ gb251) v249 t248) ∧ Aside0 (Kd.S (Kd.slice 5 (Kd.int .u8)) 33 w' w.heap.size (fun _ => True) v7 x7_2) ∧ Aside0 (w'.heap[gb251]? = some (.cells #[.int .u64 x252000_2, .int .u64 x252001_2, .bool x252002_2, .int .u32 x252003_2, .int .u8 x252004_2, .int .i64 x252005_2, .int .u16 x252006_2, .int .u16 x252007_2] 31 (0, 0))) ∧ Aside0 (Below w.heap.size w w'))
        case atStart => exact ⟨(([] : List (List Int))), (0), (0), (0), (false), (0), (0), (0), (0), (0), (by first | rfl | (simp; done) | (simp [*]; done) | (refine qa_int ?_; omega) | (refine qa_int ?_; simp <;> omega)), H', ⟨Nat.le_refl _⟩, ⟨by (with_reducible repeat (first | apply Kd.R_alloc | apply Kd.R_drewN | apply Kd.R_drew)); exact Kd.R_mono (Kd.R_far (p := ⟨gb251, 7, none⟩) (Kd.R_far (p := ⟨gb251, 6, none⟩) (Kd.R_far (p := ⟨gb251, 5, none⟩) (Kd.R_far (p := ⟨gb251, 4, none⟩) (Kd.R_far (p := ⟨gb251, 3, none⟩) (Kd.R_far (p := ⟨gb251, 2, none⟩) (Kd.R_far (p := ⟨gb251, 1, none⟩) (Kd.R_far (p := ⟨gb251, 0, none⟩) (Kd.R_mono HO250.out (fun k_ hk => (⟨hk, hk.2⟩ : _ ∧ k_ ≠ gb251))) (fun _ hk => hk.2) (.int .u64 0)) (fun _ hk => hk.2) (.int .u64 0)) (fun _ hk => hk.2) (.bool false)) (fun _ hk => hk.2) (.int .u32 0)) (fun _ hk => hk.2) (.int .u8 0)) (fun _ hk => hk.2) (.int .i64 0)) (fun _ hk => hk.2) (.int .u16 0)) (fun _ hk => hk.2) (.int .u16 0)) (fun _ hk => hk.1.2)⟩, ⟨by first | exact Kd.S_nil _ _ _ _ _ | exact Kd.N_nil _ _ _ _ _ | exact Kd.V_nil _ _ _ _ _ | exact Kd.Q_nil _ _ _ _ _ | exact Kd.R_nil _ _ _ _ _⟩, ⟨by (with_reducible repeat (first | refine blk_drewN ?_ _ | refine blk_drew ?_ | refine blk_alloc ?_ _)); refine blk_put (cs := #[.int .u64 0, .int .u64 0, .bool false, .int .u32 0, .int .u8 0, .int .i64 0, .int .u16 0, .int .u16 0]) ?_ 7 _ rfl; (with_reducible repeat (first | refine blk_drewN ?_ _ | refine blk_drew ?_ | refine blk_alloc ?_ _)); refine blk_put (cs := #[.int .u64 0, .int .u64 0, .bool false, .int .u32 0, .int .u8 0, .int .i64 0, .int .u16 0, .int .u16 0]) ?_ 6 _ rfl; (with_reducible repeat (first | refine blk_drewN ?_ _ | refine blk_drew ?_ | refine blk_alloc ?_ _)); refine blk_put (cs := #[.int .u64 0, .int .u64 0, .bool false, .int .u32 0, .int .u8 0, .int .i64 0, .int .u16 0, .int .u16 0]) ?_ 5 _ rfl; (with_reducible repeat (first | refine blk_drewN ?_ _ | refine blk_drew ?_ | refine blk_alloc ?_ _)); refine blk_put (cs := #[.int .u64 0, .int .u64 0, .bool false, .int .u32 0, .int .u8 0, .int .i64 0, .int .u16 0, .int .u16 0]) ?_ 4 _ rfl; (with_reducible repeat (first | refine blk_drewN ?_ _ | refine blk_drew ?_ | refine blk_alloc ?_ _)); refine blk_put (cs := #[.int .u64 0, .int .u64 0, .bool false, .int .u32 0, .int .u8 0, .int .i64 0, .int .u16 0, .int .u16 0]) ?_ 3 _ rfl; (with_reducible repeat (first | refine blk_drewN ?_ _ | refine blk_drew ?_ | refine blk_alloc ?_ _)); refine blk_put (cs := #[.int .u64 0, .int .u64 0, .bool false, .int .u32 0, .int .u8 0, .int .i64 0, .int .u16 0, .int .u16 0]) ?_ 2 _ rfl; (with_reducible repeat (first | refine blk_drewN ?_ _ | refine blk_drew ?_ | refine blk_alloc ?_ _)); refine blk_put (cs := #[.int .u64 0, .int .u64 0, .bool false, .int .u32 0, .int .u8 0, .int .i64 0, .int .u16 0, .int .u16 0]) ?_ 1 _ rfl; (with_reducible repeat (first | refine blk_drewN ?_ _ | refine blk_drew ?_ | refine blk_alloc ?_ _)); refine blk_put (cs := #[.int .u64 0, .int .u64 0, .bool false, .int .u32 0, .int .u8 0, .int .i64 0, .int .u16 0, .int .u16 0]) ?_ 0 _ rfl; (with_reducible repeat (first | refine blk_drewN ?_ _ | refine blk_drew ?_ | refine blk_alloc ?_ _)); exact BK251.out⟩, ⟨by repeat (first | (with_reducible first | exact HB.out | apply below_alloc | apply pw_below_drewN | apply below_drew1 | refine below_set ?_ GE251.out) | exact HB.out)⟩⟩
        case round =>
          clear H'
          try clear c1
          try clear p2
          try clear c5
          try clear c8
          try clear c10
          try clear c12
          try clear c14
          try clear hcz14_0
          try clear hcz14_1
          try clear hcz14_2
          try clear hcz14_3
          try clear hcz14_4
          try clear hcz14_5
          try clear hcz14_6
          try clear hcz14_7
          try clear hfz14_0
          try clear hfz14_1
          try clear hfz14_2
          try clear hfz14_3
          try clear hfz14_4
          try clear hfz14_5
          try clear hfz14_6
          try clear hfz14_7
          try clear p2
          obtain ⟨x7_2, x8_2, x252000_2, x252001_2, x252002_2, x252003_2, x252004_2, x252005_2, x252006_2, x252007_2, rfl, HA, HK2, HO_5, HO_7, BK251, HB⟩ := hrel
          cases gk with
          | zero => exact absurd HA.out (by simp [milestonelaw07_ChangeChains.l0])
          | succ k2 =>
            have H := HA.out
            clear HA
            simp only [milestonelaw07_ChangeChains.l0] at H
            by_cases c15 : x8_2 < (t248.length : Int)
            · rw [if_pos c15] at H
              have c15b0 : decide (x8_2 < (t248.length : Int)) = true := decide_eq_true c15
              clear c15
              by_cases c16 : 0 ≤ x8_2
              · rw [if_pos c16] at H
                have c16b0 : decide (0 ≤ x8_2) = true := decide_eq_true c16
                clear c16
                replace H := Option.bind_eq_some_iff.mp H
                obtain ⟨t253, A170, H⟩ := H
                replace H : (if x7_2.length < 5864062014805 then (milestonelaw07_ChangeChains.l0 k2 a1 t248 (x7_2 ++ [t253]) (wrap64 (x8_2 + 1)) ((rd_T31 t248 x8_2).f0) ((rd_T31 t248 x8_2).f1) ((rd_T31 t248 x8_2).f2) ((rd_T31 t248 x8_2).f3.f0.f0) ((rd_T31 t248 x8_2).f3.f0.f1) ((rd_T31 t248 x8_2).f3.f1) ((rd_T31 t248 x8_2).f3.f2) ((rd_T31 t248 x8_2).f3.f3)) else (none)) = some r := H
                have A17 := Aside0.mk A170
                clear A170
                by_cases c18 : x7_2.length < 5864062014805
                · rw [if_pos c18] at H
                  have LMc18 := Aside0.mk c18
                  clear c18
                  obtain ⟨y256, hy256⟩ : ∃ y_ : List (List Int), y_ = (x7_2 ++ [t253]) := ⟨_, rfl⟩
                  replace H : (milestonelaw07_ChangeChains.l0 k2 a1 t248 y256 (wrap64 (x8_2 + 1)) ((rd_T31 t248 x8_2).f0) ((rd_T31 t248 x8_2).f1) ((rd_T31 t248 x8_2).f2) ((rd_T31 t248 x8_2).f3.f0.f0) ((rd_T31 t248 x8_2).f3.f0.f1) ((rd_T31 t248 x8_2).f3.f1) ((rd_T31 t248 x8_2).f3.f2) ((rd_T31 t248 x8_2).f3.f3)) = some r := by first | (rw [hy256]; with_reducible exact H) | (have H2_ := (Option.bind_some _ _).symm.trans H; rw [hy256]; with_reducible exact H2_) | (have H2_ := (Option.bind_some _ _).symm.trans H; with_reducible exact H2_) | with_reducible exact H | (rw [hy256]; exact H) | exact H
                  have Ny256 := Aside0.mk hy256
                  clear hy256
                  have H' := Aside0.mk H
                  clear H
                  obtain ⟨Ao19, co19, eo19⟩ := Kd.R_slice HO_5.out
                  subst eo19
                  try go_wp2
                  have n0_ := Aside0.mk (Kd.R_drew HO_5.out)
                  have n1_ := Aside0.mk (Kd.S_drew HO_7.out)
                  have n2_ := Aside0.mk (blk_drew BK251.out)
                  have n3_ := Aside0.mk (below_drew1 HB.out)
                  clear HO_5
                  clear HO_7
                  clear BK251
                  clear HB
                  have HO_5 := n0_
                  have HO_7 := n1_
                  have BK251 := n2_
                  have HB := n3_
                  clear n0_ n1_ n2_ n3_
                  have p252 : 0 ≤ (x8_2 : Int) := of_decide_eq_true (by first | (with_reducible assumption) | assumption)
                  have q252 : x8_2 < (t248.length : Int) := of_decide_eq_true (by first | (with_reducible assumption) | assumption)
                  obtain ⟨ad252, e252, hx252_0, hx252_1, hx252_2, hx252_3, hx252_4, hx252_5, hx252_6, hx252_7⟩ := at_T31 (Kd.R_reads' HO_5.out).2.2 x8_2 p252 q252
                  cases e252
                  replace p252 := eq_true p252
                  replace q252 := eq_true q252
                  refine start_ (n := 10) (S := fun w' => w'.cell? ⟨gb251, 0, none⟩ = some (.int .u64 x252000_2) ∧ w'.cell? ⟨gb251, 1, none⟩ = some (.int .u64 x252001_2) ∧ w'.cell? ⟨gb251, 2, none⟩ = some (.bool x252002_2) ∧ w'.cell? ⟨gb251, 3, none⟩ = some (.int .u32 x252003_2) ∧ w'.cell? ⟨gb251, 4, none⟩ = some (.int .u8 x252004_2) ∧ w'.cell? ⟨gb251, 5, none⟩ = some (.int .i64 x252005_2) ∧ w'.cell? ⟨gb251, 6, none⟩ = some (.int .u16 x252006_2) ∧ w'.cell? ⟨gb251, 7, none⟩ = some (.int .u16 x252007_2) ∧ w'.cell? (ad252.add ((x8_2).toNat * 8)) = some (.int .u64 ((rd_T31 t248 x8_2).f0)) ∧ w'.cell? ⟨(ad252.add ((x8_2).toNat * 8)).block, (ad252.add ((x8_2).toNat * 8)).off + 1, none⟩ = some (.int .u64 ((rd_T31 t248 x8_2).f1)) ∧ w'.cell? ⟨(ad252.add ((x8_2).toNat * 8)).block, (ad252.add ((x8_2).toNat * 8)).off + 2, none⟩ = some (.bool ((rd_T31 t248 x8_2).f2)) ∧ w'.cell? ⟨(ad252.add ((x8_2).toNat * 8)).block, (ad252.add ((x8_2).toNat * 8)).off + 3, none⟩ = some (.int .u32 ((rd_T31 t248 x8_2).f3.f0.f0)) ∧ w'.cell? ⟨(ad252.add ((x8_2).toNat * 8)).block, (ad252.add ((x8_2).toNat * 8)).off + 4, none⟩ = some (.int .u8 ((rd_T31 t248 x8_2).f3.f0.f1)) ∧ w'.cell? ⟨(ad252.add ((x8_2).toNat * 8)).block, (ad252.add ((x8_2).toNat * 8)).off + 5, none⟩ = some (.int .i64 ((rd_T31 t248 x8_2).f3.f1)) ∧ w'.cell? ⟨(ad252.add ((x8_2).toNat * 8)).block, (ad252.add ((x8_2).toNat * 8)).off + 6, none⟩ = some (.int .u16 ((rd_T31 t248 x8_2).f3.f2)) ∧ w'.cell? ⟨(ad252.add ((x8_2).toNat * 8)).block, (ad252.add ((x8_2).toNat * 8)).off + 7, none⟩ = some (.int .u16 ((rd_T31 t248 x8_2).f3.f3))) (ds := [7, 8]) #[false, false, false, false, false, false, false, false, false, false] (by kernel_rfl) rfl rfl ⟨(blk_cell BK251.out 0).trans rfl, (blk_cell BK251.out 1).trans rfl, (blk_cell BK251.out 2).trans rfl, (blk_cell BK251.out 3).trans rfl, (blk_cell BK251.out 4).trans rfl, (blk_cell BK251.out 5).trans rfl, (blk_cell BK251.out 6).trans rfl, (blk_cell BK251.out 7).trans rfl, hx252_0, hx252_1, hx252_2, hx252_3, hx252_4, hx252_5, hx252_6, hx252_7⟩ (fun hHeld => ?_); refine with_tabW milestonelaw07_ChangeChains.tab9 milestonelaw07_ChangeChains.bits9 (fun HT_ HW_ => ?_)
                  generalize wr.drew = w20 at HO_5 HO_7 BK251 HB hx252_0 hx252_1 hx252_2 hx252_3 hx252_4 hx252_5 hx252_6 hx252_7 hHeld ⊢
                  refine pure_ (i := 0) (N := some 30) (v := ?_) (a' := ?_) #[true, false, false, false, false, false, false, false, false, false] rfl rfl (any_of HT_.out (by kernel_rfl)) (fun _ _ _ h => h) (Or.inl ⟨by rfl, ?_⟩) ?_ ?_
                  rotate_left
                  · intro w'
                    go_simp
                    with_reducible rfl
                  rotate_left
                  · simp only [Act.put, List.setIfInBounds_toArray, List.set_cons_zero, List.set_cons_succ, i64_w, i32_w]
                    rfl
                  refine pure_ (i := 2) (N := some 32) (v := ?_) (a' := ?_) #[true, false, true, false, false, false, false, false, false, false] rfl rfl (any_of HT_.out (by kernel_rfl)) (fun _ _ _ h => h) (Or.inl ⟨by rfl, ?_⟩) ?_ ?_
                  rotate_left
                  · intro w'
                    go_simp
                    with_reducible rfl
                  rotate_left
                  · simp only [Act.put, List.setIfInBounds_toArray, List.set_cons_zero, List.set_cons_succ, i64_w, i32_w]
                    rfl
                  refine pure_ (i := 3) (N := some 33) (v := ?_) (a' := ?_) #[true, false, true, true, false, false, false, false, false, false] rfl rfl (any_of HT_.out (by kernel_rfl)) (fun _ _ _ h => h) (Or.inl ⟨by rfl, ?_⟩) ?_ ?_
                  rotate_left
                  · intro w'
                    go_simp
                    with_reducible rfl
                  rotate_left
                  · simp only [Act.put, List.setIfInBounds_toArray, List.set_cons_zero, List.set_cons_succ, i64_w, i32_w]
                    rfl
                  refine pure_ (i := 4) (N := some 34) (v := ?_) (a' := ?_) #[true, false, true, true, true, false, false, false, false, false] rfl rfl (any_of HT_.out (by kernel_rfl)) (fun _ _ _ h => h) (Or.inl ⟨by rfl, ?_⟩) ?_ ?_
                  rotate_left
                  · intro w'
                    go_simp
                    with_reducible rfl
                  rotate_left
                  · simp only [Act.put, List.setIfInBounds_toArray, List.set_cons_zero, List.set_cons_succ, i64_w, i32_w]
                    rfl
                  refine take_ (i := 1) (N := some 31) (v := ?_) (a' := ?_) #[true, true, true, true, true, false, false, false, false, false] rfl rfl (take_ofW HT_.out HW_.out (by kernel_rfl)) (fun _ _ _ h => h) (Or.inl ⟨by rfl, ?_⟩) hHeld ?_ ?_
                  rotate_left
                  · rintro w' ⟨s0, s1, s2, s3, s4, s5, s6, s7, s8, s9, s10, s11, s12, s13, s14, s15⟩
                    go_simp
                    with_reducible rfl
                  rotate_left
                  · simp only [Act.put, List.setIfInBounds_toArray, List.set_cons_zero, List.set_cons_succ, i64_w, i32_w]
                    rfl
                  refine take_ (i := 5) (N := some 35) (v := ?_) (a' := ?_) #[true, true, true, true, true, true, false, false, false, false] rfl rfl (take_ofW HT_.out HW_.out (by kernel_rfl)) (fun _ _ _ h => h) (Or.inl ⟨by rfl, ?_⟩) hHeld ?_ ?_
                  rotate_left
                  · rintro w' ⟨s0, s1, s2, s3, s4, s5, s6, s7, s8, s9, s10, s11, s12, s13, s14, s15⟩
                    go_simp
                    with_reducible rfl
                  rotate_left
                  · simp only [Act.put, List.setIfInBounds_toArray, List.set_cons_zero, List.set_cons_succ, i64_w, i32_w]
                    rfl
                  refine one_ (i := 6) (N := some 36) #[true, true, true, true, true, true, true, false, false, false] rfl rfl (one_of HT_.out (by kernel_rfl)) (by decide) (fun K hK => ?_)
                  refine goes_ Try.func13 (by kernel_rfl) rfl #[.agg #[.int .u64 x252000_2, .int .u64 x252001_2, .bool x252002_2, .int .u32 x252003_2, .int .u8 x252004_2, .int .i64 x252005_2, .int .u16 x252006_2, .int .u16 x252007_2], .agg #[.int .u64 ((rd_T31 t248 x8_2).f0), .int .u64 ((rd_T31 t248 x8_2).f1), .bool ((rd_T31 t248 x8_2).f2), .int .u32 ((rd_T31 t248 x8_2).f3.f0.f0), .int .u8 ((rd_T31 t248 x8_2).f3.f0.f1), .int .i64 ((rd_T31 t248 x8_2).f3.f1), .int .u16 ((rd_T31 t248 x8_2).f3.f2), .int .u16 ((rd_T31 t248 x8_2).f3.f3)]] (by rfl) rfl rfl (by (try simp only [List.map_toArray, List.map_cons, List.map_nil]); first | done | rfl | (simp only [List.length_drop, List.length_take]; rfl)) ?_
                  with_reducible refine (change_Encode.calls k2 x252000_2 x252001_2 x252002_2 x252003_2 x252004_2 x252005_2 x252006_2 x252007_2 ((rd_T31 t248 x8_2).f0) ((rd_T31 t248 x8_2).f1) ((rd_T31 t248 x8_2).f2) ((rd_T31 t248 x8_2).f3.f0.f0) ((rd_T31 t248 x8_2).f3.f0.f1) ((rd_T31 t248 x8_2).f3.f1) ((rd_T31 t248 x8_2).f3.f2) ((rd_T31 t248 x8_2).f3.f3) t253 _ A17.out).mono ?_
                  rintro e w21 ⟨v254, rfl, ho0, hb⟩
                  have HS8_ := (hb.cell (World.block_lt_of_cell? _ _ (hHeld.2.2.2.2.2.2.2.2.1))).trans (hHeld.2.2.2.2.2.2.2.2.1)
                  have HS9_ := (hb.cell (World.block_lt_of_cell? _ _ (hHeld.2.2.2.2.2.2.2.2.2.1))).trans (hHeld.2.2.2.2.2.2.2.2.2.1)
                  have HS10_ := (hb.cell (World.block_lt_of_cell? _ _ (hHeld.2.2.2.2.2.2.2.2.2.2.1))).trans (hHeld.2.2.2.2.2.2.2.2.2.2.1)
                  have HS11_ := (hb.cell (World.block_lt_of_cell? _ _ (hHeld.2.2.2.2.2.2.2.2.2.2.2.1))).trans (hHeld.2.2.2.2.2.2.2.2.2.2.2.1)
                  have HS12_ := (hb.cell (World.block_lt_of_cell? _ _ (hHeld.2.2.2.2.2.2.2.2.2.2.2.2.1))).trans (hHeld.2.2.2.2.2.2.2.2.2.2.2.2.1)
                  have HS13_ := (hb.cell (World.block_lt_of_cell? _ _ (hHeld.2.2.2.2.2.2.2.2.2.2.2.2.2.1))).trans (hHeld.2.2.2.2.2.2.2.2.2.2.2.2.2.1)
                  have HS14_ := (hb.cell (World.block_lt_of_cell? _ _ (hHeld.2.2.2.2.2.2.2.2.2.2.2.2.2.2.1))).trans (hHeld.2.2.2.2.2.2.2.2.2.2.2.2.2.2.1)
                  have HS15_ := (hb.cell (World.block_lt_of_cell? _ _ (hHeld.2.2.2.2.2.2.2.2.2.2.2.2.2.2.2))).trans (hHeld.2.2.2.2.2.2.2.2.2.2.2.2.2.2.2)
                  refine ⟨_, rfl, ?_⟩
                  have n0_ := Aside0.mk (Kd.R_below (by (with_reducible repeat (first | apply Kd.R_alloc | apply Kd.R_drewN | apply Kd.R_drew)); exact HO_5.out) hb)
                  have n1_ := Aside0.mk (Kd.S_elder' (by (with_reducible repeat (first | apply Kd.S_alloc | apply Kd.S_drewN | apply Kd.S_drew)); exact HO_7.out) (Kd.R_base ho0) hb)
                  have n2_ := Aside0.mk (Kd.R_lower ho0 (below_size (by repeat (first | (with_reducible first | exact HB.out | apply below_alloc | apply pw_below_drewN | apply below_drew1 | refine below_set ?_ GE251.out) | exact HB.out))))
                  have n3_ := Aside0.mk (blk_below (g := gb251) (o := .cells #[.int .u64 x252000_2, .int .u64 x252001_2, .bool x252002_2, .int .u32 x252003_2, .int .u8 x252004_2, .int .i64 x252005_2, .int .u16 x252006_2, .int .u16 x252007_2] 31 (0, 0)) (by (with_reducible repeat (first | refine blk_drewN ?_ _ | refine blk_drew ?_ | refine blk_alloc ?_ _)); exact BK251.out) hb)
                  have n4_ := Aside0.mk (below_step (by repeat (first | (with_reducible first | exact HB.out | apply below_alloc | apply pw_below_drewN | apply below_drew1 | refine below_set ?_ GE251.out) | exact HB.out)) hb)
                  clear HO_5
                  clear HO_7
                  clear BK251
                  clear HB
                  have HO_5 := n0_
                  have HO_7 := n1_
                  have HO255 := n2_
                  have BK251 := n3_
                  have HB := n4_
                  clear n0_ n1_ n2_ n3_ n4_
                  (try clear hb)
                  (try clear hb2)
                  (try clear hk)
                  (try clear hi)
                  (try clear ho0)
                  obtain ⟨Ao23, co23, eo23⟩ := Kd.R_slice HO255.out
                  (first | subst eo23 | (injection eo23 with f1_ f2_ f3_; have f4_ := f1_.symm; have f5_ := f3_.symm; clear f1_ f2_ f3_; subst f4_; subst f5_))
                  refine hK.out _ _ ⟨(blk_cell BK251.out 0).trans rfl, (blk_cell BK251.out 1).trans rfl, (blk_cell BK251.out 2).trans rfl, (blk_cell BK251.out 3).trans rfl, (blk_cell BK251.out 4).trans rfl, (blk_cell BK251.out 5).trans rfl, (blk_cell BK251.out 6).trans rfl, (blk_cell BK251.out 7).trans rfl, HS8_, HS9_, HS10_, HS11_, HS12_, HS13_, HS14_, HS15_⟩ (fun hHeld => ?_)
                  clear hK K
                  refine norm_ (a' := ?_) ?_ ?_
                  rotate_left
                  · show Act.put _ (some 36) _ = _
                    simp only [Act.put, List.setIfInBounds_toArray, List.set_cons_zero, List.set_cons_succ, i64_w, i32_w]
                    rfl
                  refine last_ (i := 7) (N := some 37) #[true, true, true, true, true, true, true, true, false, false] rfl rfl (one_of HT_.out (by kernel_rfl)) (by decide) (fun K hK => ?_)
                  refine value_ (w1 := ?_) (v := ?_) (by rfl) rfl ?_ ?_
                  rotate_left 2
                  · go_simp
                    constructor
                    · rfl
                    · rfl
                  refine hK.out _ _ ?_
                  clear hK K
                  refine norm_ (a' := ?_) ?_ ?_
                  rotate_left
                  · show Act.put _ (some 37) _ = _
                    simp only [Act.put, List.setIfInBounds_toArray, List.set_cons_zero, List.set_cons_succ, i64_w, i32_w]
                    rfl
                  refine last_ (i := 8) (N := some 38) #[true, true, true, true, true, true, true, true, true, false] rfl rfl (one_of HT_.out (by kernel_rfl)) (by decide) (fun K hK => ?_)
                  refine Kd.S_append_step (Kd.slice 5 (Kd.int .u8)) (w0 := w) w.heap.size (by rfl) (.tmp 30) (.tmp 37) 42 33 (.slice none 0 0) 24 rfl Try.underlying42 info33 rfl (by decide) (by omega) u7 x7_2 t253 [.slice Ao23 t253.length co23] (fun _ => True) (fun k_ => some k_ = (.slice Ao23 t253.length co23 : Value).ownBlock) rfl rfl ?aP (fun k_ hk_ => ((Kd.R_mono (ok' := fun k_ => ((fun _ => True)) k_ ∧ some k_ ≠ (u7 : Value).ownBlock) (Kd.R_apart' (HO255.out) (Kd.S_typed HO_7.out) (by decide)) (fun k_ hk => ⟨trivial, hk.2⟩))).1 k_ hk_.symm) ?aF ?aO ?aB ?aS ?aL ?_
                  (case aP => exact Kd.M_row (Kd.R_mono (Kd.R_tight rfl (Kd.R_mono (ok' := fun k_ => ((fun _ => True)) k_ ∧ some k_ ≠ (u7 : Value).ownBlock) (Kd.R_apart' (HO255.out) (Kd.S_typed HO_7.out) (by decide)) (fun k_ hk => ⟨trivial, hk.2⟩))) (fun _ h_ => h_)))
                  (case aB => exact (by repeat (first | (with_reducible first | exact HB.out | apply below_alloc | apply pw_below_drewN | apply below_drew1 | refine below_set ?_ GE251.out) | exact HB.out)))
                  (case aF => exact (fun _ _ => trivial))
                  (case aO => exact (by (with_reducible repeat (first | apply Kd.S_alloc | apply Kd.S_drewN | apply Kd.S_drew)); exact Kd.S_mono HO_7.out (fun k_ hk => ⟨trivial, fun e_ => hk.2 e_⟩)))
                  (case aS => exact (below_size (by repeat (first | (with_reducible first | exact HB.out | apply below_alloc | apply pw_below_drewN | apply below_drew1 | refine below_set ?_ GE251.out) | exact HB.out))))
                  (case aL => have := LMc18.out; omega)
                  intro v257 w22 ho hb hg hat
                  rw [← Ny256.out] at ho
                  have n0_ := Aside0.mk (Kd.R_over' (by (with_reducible repeat (first | apply Kd.R_alloc | apply Kd.R_drewN | apply Kd.R_drew)); exact HO_5.out) (Kd.S_typed (by (with_reducible repeat (first | apply Kd.S_alloc | apply Kd.S_drewN | apply Kd.S_drew)); exact HO_7.out)) (by decide) hg)
                  have n1_ := Aside0.mk (blk_grown (g := gb251) (o := .cells #[.int .u64 x252000_2, .int .u64 x252001_2, .bool x252002_2, .int .u32 x252003_2, .int .u8 x252004_2, .int .i64 x252005_2, .int .u16 x252006_2, .int .u16 x252007_2] 31 (0, 0)) (by (with_reducible repeat (first | refine blk_drewN ?_ _ | refine blk_drew ?_ | refine blk_alloc ?_ _)); exact BK251.out) hg (Kd.S_ne HO_7.out BK251.out (by decide)))
                  have n2_ := Aside0.mk (hb)
                  have n3_ := Aside0.mk (ho)
                  clear HO_5
                  clear BK251
                  clear HB
                  clear HO_7
                  clear HO255
                  have HO_5 := n0_
                  have BK251 := n1_
                  have HB := n2_
                  have HO258 := n3_
                  clear n0_ n1_ n2_ n3_
                  clear ho hb hg hat
                  refine hK.out _ _ ?_
                  clear hK K
                  refine norm_ (a' := ?_) ?_ ?_
                  rotate_left
                  · show Act.put _ (some 38) _ = _
                    simp only [Act.put, List.setIfInBounds_toArray, List.set_cons_zero, List.set_cons_succ, i64_w, i32_w]
                    rfl
                  refine pure_ (i := 9) (N := some 7) (v := ?_) (a' := ?_) #[true, true, true, true, true, true, true, true, true, true] rfl rfl (any_of HT_.out (by kernel_rfl)) (fun _ _ _ h => h) (Or.inl ⟨by rfl, ?_⟩) ?_ ?_
                  rotate_left
                  · intro w'
                    go_simp
                    with_reducible rfl
                  rotate_left
                  · simp only [Act.put, List.setIfInBounds_toArray, List.set_cons_zero, List.set_cons_succ, i64_w, i32_w]
                    rfl
                  refine done_ (done_of HT_.out (by kernel_rfl)) ?_
                  have p259 : 0 ≤ (x8_2 : Int) := of_decide_eq_true (by first | (with_reducible assumption) | assumption)
                  have q259 : x8_2 < (t248.length : Int) := of_decide_eq_true (by first | (with_reducible assumption) | assumption)
                  obtain ⟨ad259, e259, hx259_0, hx259_1, hx259_2, hx259_3, hx259_4, hx259_5, hx259_6, hx259_7⟩ := at_T31 (Kd.R_reads' HO_5.out).2.2 x8_2 p259 q259
                  obtain rfl : ad252 = ad259 := (by injection e259)
                  replace p259 := eq_true p259
                  replace q259 := eq_true q259
                  have hcz24_0 : w22.cell? ⟨gb251, 0, none⟩ = some (.int .u64 x252000_2) := (blk_cell BK251.out 0).trans rfl
                  have hcz24_1 : w22.cell? ⟨gb251, 1, none⟩ = some (.int .u64 x252001_2) := (blk_cell BK251.out 1).trans rfl
                  have hcz24_2 : w22.cell? ⟨gb251, 2, none⟩ = some (.bool x252002_2) := (blk_cell BK251.out 2).trans rfl
                  have hcz24_3 : w22.cell? ⟨gb251, 3, none⟩ = some (.int .u32 x252003_2) := (blk_cell BK251.out 3).trans rfl
                  have hcz24_4 : w22.cell? ⟨gb251, 4, none⟩ = some (.int .u8 x252004_2) := (blk_cell BK251.out 4).trans rfl
                  have hcz24_5 : w22.cell? ⟨gb251, 5, none⟩ = some (.int .i64 x252005_2) := (blk_cell BK251.out 5).trans rfl
                  have hcz24_6 : w22.cell? ⟨gb251, 6, none⟩ = some (.int .u16 x252006_2) := (blk_cell BK251.out 6).trans rfl
                  have hcz24_7 : w22.cell? ⟨gb251, 7, none⟩ = some (.int .u16 x252007_2) := (blk_cell BK251.out 7).trans rfl
                  have hfz24_0 := blk_frozen BK251.out 0
                  have hfz24_1 := blk_frozen BK251.out 1
                  have hfz24_2 := blk_frozen BK251.out 2
                  have hfz24_3 := blk_frozen BK251.out 3
                  have hfz24_4 := blk_frozen BK251.out 4
                  have hfz24_5 := blk_frozen BK251.out 5
                  have hfz24_6 := blk_frozen BK251.out 6
                  have hfz24_7 := blk_frozen BK251.out 7
                  try go_wp2
                  go_roundg k2
                  case measure => have := HJ2.out; have := HK2.out; omega
                  case rel => exact ⟨(y256), (wrap64 (x8_2 + 1)), ((rd_T31 t248 x8_2).f0), ((rd_T31 t248 x8_2).f1), ((rd_T31 t248 x8_2).f2), ((rd_T31 t248 x8_2).f3.f0.f0), ((rd_T31 t248 x8_2).f3.f0.f1), ((rd_T31 t248 x8_2).f3.f1), ((rd_T31 t248 x8_2).f3.f2), ((rd_T31 t248 x8_2).f3.f3), (by first | rfl | (simp; done) | (simp [*]; done) | (refine qa_int ?_; omega) | (refine qa_int ?_; simp <;> omega)), H', ⟨by have := HJ2.out; have := HK2.out; omega⟩, ⟨by (with_reducible repeat (first | apply Kd.R_alloc | apply Kd.R_drewN | apply Kd.R_drew)); exact Kd.R_mono (Kd.R_far (p := ⟨gb251, 7, none⟩) (Kd.R_far (p := ⟨gb251, 6, none⟩) (Kd.R_far (p := ⟨gb251, 5, none⟩) (Kd.R_far (p := ⟨gb251, 4, none⟩) (Kd.R_far (p := ⟨gb251, 3, none⟩) (Kd.R_far (p := ⟨gb251, 2, none⟩) (Kd.R_far (p := ⟨gb251, 1, none⟩) (Kd.R_far (p := ⟨gb251, 0, none⟩) (Kd.R_mono HO_5.out (fun k_ hk => (⟨hk, hk⟩ : _ ∧ k_ ≠ gb251))) (fun _ hk => hk.2) (.int .u64 ((rd_T31 t248 x8_2).f0))) (fun _ hk => hk.2) (.int .u64 ((rd_T31 t248 x8_2).f1))) (fun _ hk => hk.2) (.bool ((rd_T31 t248 x8_2).f2))) (fun _ hk => hk.2) (.int .u32 ((rd_T31 t248 x8_2).f3.f0.f0))) (fun _ hk => hk.2) (.int .u8 ((rd_T31 t248 x8_2).f3.f0.f1))) (fun _ hk => hk.2) (.int .i64 ((rd_T31 t248 x8_2).f3.f1))) (fun _ hk => hk.2) (.int .u16 ((rd_T31 t248 x8_2).f3.f2))) (fun _ hk => hk.2) (.int .u16 ((rd_T31 t248 x8_2).f3.f3))) (fun _ hk => hk.1)⟩, ⟨by (with_reducible repeat (first | apply Kd.S_alloc | apply Kd.S_drewN | apply Kd.S_drew)); exact Kd.S_mono (Kd.S_far (p := ⟨gb251, 7, none⟩) (Kd.S_far (p := ⟨gb251, 6, none⟩) (Kd.S_far (p := ⟨gb251, 5, none⟩) (Kd.S_far (p := ⟨gb251, 4, none⟩) (Kd.S_far (p := ⟨gb251, 3, none⟩) (Kd.S_far (p := ⟨gb251, 2, none⟩) (Kd.S_far (p := ⟨gb251, 1, none⟩) (Kd.S_far (p := ⟨gb251, 0, none⟩) (Kd.S_types HO258.out BK251.out (by decide)) (fun _ hk => hk.2) (.int .u64 ((rd_T31 t248 x8_2).f0))) (fun _ hk => hk.2) (.int .u64 ((rd_T31 t248 x8_2).f1))) (fun _ hk => hk.2) (.bool ((rd_T31 t248 x8_2).f2))) (fun _ hk => hk.2) (.int .u32 ((rd_T31 t248 x8_2).f3.f0.f0))) (fun _ hk => hk.2) (.int .u8 ((rd_T31 t248 x8_2).f3.f0.f1))) (fun _ hk => hk.2) (.int .i64 ((rd_T31 t248 x8_2).f3.f1))) (fun _ hk => hk.2) (.int .u16 ((rd_T31 t248 x8_2).f3.f2))) (fun _ hk => hk.2) (.int .u16 ((rd_T31 t248 x8_2).f3.f3))) (fun _ hk => trivial)⟩, ⟨by (with_reducible repeat (first | refine blk_drewN ?_ _ | refine blk_drew ?_ | refine blk_alloc ?_ _)); refine blk_put (cs := #[.int .u64 ((rd_T31 t248 x8_2).f0), .int .u64 ((rd_T31 t248 x8_2).f1), .bool ((rd_T31 t248 x8_2).f2), .int .u32 ((rd_T31 t248 x8_2).f3.f0.f0), .int .u8 ((rd_T31 t248 x8_2).f3.f0.f1), .int .i64 ((rd_T31 t248 x8_2).f3.f1), .int .u16 ((rd_T31 t248 x8_2).f3.f2), .int .u16 x252007_2]) ?_ 7 _ rfl; (with_reducible repeat (first | refine blk_drewN ?_ _ | refine blk_drew ?_ | refine blk_alloc ?_ _)); refine blk_put (cs := #[.int .u64 ((rd_T31 t248 x8_2).f0), .int .u64 ((rd_T31 t248 x8_2).f1), .bool ((rd_T31 t248 x8_2).f2), .int .u32 ((rd_T31 t248 x8_2).f3.f0.f0), .int .u8 ((rd_T31 t248 x8_2).f3.f0.f1), .int .i64 ((rd_T31 t248 x8_2).f3.f1), .int .u16 x252006_2, .int .u16 x252007_2]) ?_ 6 _ rfl; (with_reducible repeat (first | refine blk_drewN ?_ _ | refine blk_drew ?_ | refine blk_alloc ?_ _)); refine blk_put (cs := #[.int .u64 ((rd_T31 t248 x8_2).f0), .int .u64 ((rd_T31 t248 x8_2).f1), .bool ((rd_T31 t248 x8_2).f2), .int .u32 ((rd_T31 t248 x8_2).f3.f0.f0), .int .u8 ((rd_T31 t248 x8_2).f3.f0.f1), .int .i64 x252005_2, .int .u16 x252006_2, .int .u16 x252007_2]) ?_ 5 _ rfl; (with_reducible repeat (first | refine blk_drewN ?_ _ | refine blk_drew ?_ | refine blk_alloc ?_ _)); refine blk_put (cs := #[.int .u64 ((rd_T31 t248 x8_2).f0), .int .u64 ((rd_T31 t248 x8_2).f1), .bool ((rd_T31 t248 x8_2).f2), .int .u32 ((rd_T31 t248 x8_2).f3.f0.f0), .int .u8 x252004_2, .int .i64 x252005_2, .int .u16 x252006_2, .int .u16 x252007_2]) ?_ 4 _ rfl; (with_reducible repeat (first | refine blk_drewN ?_ _ | refine blk_drew ?_ | refine blk_alloc ?_ _)); refine blk_put (cs := #[.int .u64 ((rd_T31 t248 x8_2).f0), .int .u64 ((rd_T31 t248 x8_2).f1), .bool ((rd_T31 t248 x8_2).f2), .int .u32 x252003_2, .int .u8 x252004_2, .int .i64 x252005_2, .int .u16 x252006_2, .int .u16 x252007_2]) ?_ 3 _ rfl; (with_reducible repeat (first | refine blk_drewN ?_ _ | refine blk_drew ?_ | refine blk_alloc ?_ _)); refine blk_put (cs := #[.int .u64 ((rd_T31 t248 x8_2).f0), .int .u64 ((rd_T31 t248 x8_2).f1), .bool x252002_2, .int .u32 x252003_2, .int .u8 x252004_2, .int .i64 x252005_2, .int .u16 x252006_2, .int .u16 x252007_2]) ?_ 2 _ rfl; (with_reducible repeat (first | refine blk_drewN ?_ _ | refine blk_drew ?_ | refine blk_alloc ?_ _)); refine blk_put (cs := #[.int .u64 ((rd_T31 t248 x8_2).f0), .int .u64 x252001_2, .bool x252002_2, .int .u32 x252003_2, .int .u8 x252004_2, .int .i64 x252005_2, .int .u16 x252006_2, .int .u16 x252007_2]) ?_ 1 _ rfl; (with_reducible repeat (first | refine blk_drewN ?_ _ | refine blk_drew ?_ | refine blk_alloc ?_ _)); refine blk_put (cs := #[.int .u64 x252000_2, .int .u64 x252001_2, .bool x252002_2, .int .u32 x252003_2, .int .u8 x252004_2, .int .i64 x252005_2, .int .u16 x252006_2, .int .u16 x252007_2]) ?_ 0 _ rfl; (with_reducible repeat (first | refine blk_drewN ?_ _ | refine blk_drew ?_ | refine blk_alloc ?_ _)); exact BK251.out⟩, ⟨by repeat (first | (with_reducible first | exact HB.out | apply below_alloc | apply pw_below_drewN | apply below_drew1 | refine below_set ?_ GE251.out) | exact HB.out)⟩⟩
                · rw [if_neg c18] at H
                  exact absurd H (by simp)
              · rw [if_neg c16] at H
                exact absurd H (by simp)
            · rw [if_neg c15] at H
              have c15b0 : decide (x8_2 < (t248.length : Int)) = false := decide_eq_false c15
              clear c15
              by_cases c25 : (wrap64 ((t248.length : Int) + 1)) = 0
              · rw [if_pos c25] at H
                exact absurd H (by simp)
              · rw [if_neg c25] at H
                have c25b0 : ((wrap64 ((t248.length : Int) + 1)) == 0) = false := beq_eq_false_iff_ne.mpr c25
                have c25b1 : ((wrap64 ((t248.length : Int) + 1)) != 0) = true := bne_iff_ne.mpr c25
                have H' := Aside0.mk H
                clear H
                obtain ⟨Ao26, co26, eo26⟩ := Kd.R_slice HO_5.out
                subst eo26
                have hcz27_0 : wr.cell? ⟨gb251, 0, none⟩ = some (.int .u64 x252000_2) := (blk_cell BK251.out 0).trans rfl
                have hcz27_1 : wr.cell? ⟨gb251, 1, none⟩ = some (.int .u64 x252001_2) := (blk_cell BK251.out 1).trans rfl
                have hcz27_2 : wr.cell? ⟨gb251, 2, none⟩ = some (.bool x252002_2) := (blk_cell BK251.out 2).trans rfl
                have hcz27_3 : wr.cell? ⟨gb251, 3, none⟩ = some (.int .u32 x252003_2) := (blk_cell BK251.out 3).trans rfl
                have hcz27_4 : wr.cell? ⟨gb251, 4, none⟩ = some (.int .u8 x252004_2) := (blk_cell BK251.out 4).trans rfl
                have hcz27_5 : wr.cell? ⟨gb251, 5, none⟩ = some (.int .i64 x252005_2) := (blk_cell BK251.out 5).trans rfl
                have hcz27_6 : wr.cell? ⟨gb251, 6, none⟩ = some (.int .u16 x252006_2) := (blk_cell BK251.out 6).trans rfl
                have hcz27_7 : wr.cell? ⟨gb251, 7, none⟩ = some (.int .u16 x252007_2) := (blk_cell BK251.out 7).trans rfl
                have hfz27_0 := blk_frozen BK251.out 0
                have hfz27_1 := blk_frozen BK251.out 1
                have hfz27_2 := blk_frozen BK251.out 2
                have hfz27_3 := blk_frozen BK251.out 3
                have hfz27_4 := blk_frozen BK251.out 4
                have hfz27_5 := blk_frozen BK251.out 5
                have hfz27_6 := blk_frozen BK251.out 6
                have hfz27_7 := blk_frozen BK251.out 7
                go_wp2
                go_loopg [10] k2 (fun kq v10 w' => ∃ (x10_3 : Int) (x252000_3 : Int) (x252001_3 : Int) (x252002_3 : Bool) (x252003_3 : Int) (x252004_3 : Int) (x252005_3 : Int) (x252006_3 : Int) (x252007_3 : Int), v10 = .int .i64 x10_3 ∧ Aside0 (milestonelaw07_ChangeChains.l1 kq t248 x7_2 (Int.tmod (wrap64 (a1)) (wrap64 ((t248.length : Int) + 1))) x10_3 x252000_3 x252001_3 x252002_3 x252003_3 x252004_3 x252005_3 x252006_3 x252007_3 = some r) ∧ Aside0 (kq ≤ k2) ∧ Aside0 (Kd.R k31 31 w' w.heap.size (fun k_ => k_ ≠ gb251) (.slice Ao26 t248.length co26) t248) ∧ Aside0 (Kd.S (Kd.slice 5 (Kd.int .u8)) 33 w' w.heap.size (fun _ => True) u7 x7_2) ∧ Aside0 (w'.heap[gb251]? = some (.cells #[.int .u64 x252000_3, .int .u64 x252001_3, .bool x252002_3, .int .u32 x252003_3, .int .u8 x252004_3, .int .i64 x252005_3, .int .u16 x252006_3, .int .u16 x252007_3] 31 (0, 0))) ∧ Aside0 (Below w.heap.size w w'))
                case atStart => exact ⟨(0), (0), (0), (false), (0), (0), (0), (0), (0), (by first | rfl | (simp; done) | (simp [*]; done) | (refine qa_int ?_; omega) | (refine qa_int ?_; simp <;> omega)), H', ⟨Nat.le_refl _⟩, ⟨by (with_reducible repeat (first | apply Kd.R_alloc | apply Kd.R_drewN | apply Kd.R_drew)); exact Kd.R_mono (Kd.R_far (p := ⟨gb251, 7, none⟩) (Kd.R_far (p := ⟨gb251, 6, none⟩) (Kd.R_far (p := ⟨gb251, 5, none⟩) (Kd.R_far (p := ⟨gb251, 4, none⟩) (Kd.R_far (p := ⟨gb251, 3, none⟩) (Kd.R_far (p := ⟨gb251, 2, none⟩) (Kd.R_far (p := ⟨gb251, 1, none⟩) (Kd.R_far (p := ⟨gb251, 0, none⟩) (Kd.R_mono HO_5.out (fun k_ hk => (⟨hk, hk⟩ : _ ∧ k_ ≠ gb251))) (fun _ hk => hk.2) (.int .u64 0)) (fun _ hk => hk.2) (.int .u64 0)) (fun _ hk => hk.2) (.bool false)) (fun _ hk => hk.2) (.int .u32 0)) (fun _ hk => hk.2) (.int .u8 0)) (fun _ hk => hk.2) (.int .i64 0)) (fun _ hk => hk.2) (.int .u16 0)) (fun _ hk => hk.2) (.int .u16 0)) (fun _ hk => hk.1)⟩, ⟨by (with_reducible repeat (first | apply Kd.S_alloc | apply Kd.S_drewN | apply Kd.S_drew)); exact Kd.S_mono (Kd.S_far (p := ⟨gb251, 7, none⟩) (Kd.S_far (p := ⟨gb251, 6, none⟩) (Kd.S_far (p := ⟨gb251, 5, none⟩) (Kd.S_far (p := ⟨gb251, 4, none⟩) (Kd.S_far (p := ⟨gb251, 3, none⟩) (Kd.S_far (p := ⟨gb251, 2, none⟩) (Kd.S_far (p := ⟨gb251, 1, none⟩) (Kd.S_far (p := ⟨gb251, 0, none⟩) (Kd.S_types HO_7.out BK251.out (by decide)) (fun _ hk => hk.2) (.int .u64 0)) (fun _ hk => hk.2) (.int .u64 0)) (fun _ hk => hk.2) (.bool false)) (fun _ hk => hk.2) (.int .u32 0)) (fun _ hk => hk.2) (.int .u8 0)) (fun _ hk => hk.2) (.int .i64 0)) (fun _ hk => hk.2) (.int .u16 0)) (fun _ hk => hk.2) (.int .u16 0)) (fun _ hk => trivial)⟩, ⟨by (with_reducible repeat (first | refine blk_drewN ?_ _ | refine blk_drew ?_ | refine blk_alloc ?_ _)); refine blk_put (cs := #[.int .u64 0, .int .u64 0, .bool false, .int .u32 0, .int .u8 0, .int .i64 0, .int .u16 0, .int .u16 x252007_2]) ?_ 7 _ rfl; (with_reducible repeat (first | refine blk_drewN ?_ _ | refine blk_drew ?_ | refine blk_alloc ?_ _)); refine blk_put (cs := #[.int .u64 0, .int .u64 0, .bool false, .int .u32 0, .int .u8 0, .int .i64 0, .int .u16 x252006_2, .int .u16 x252007_2]) ?_ 6 _ rfl; (with_reducible repeat (first | refine blk_drewN ?_ _ | refine blk_drew ?_ | refine blk_alloc ?_ _)); refine blk_put (cs := #[.int .u64 0, .int .u64 0, .bool false, .int .u32 0, .int .u8 0, .int .i64 x252005_2, .int .u16 x252006_2, .int .u16 x252007_2]) ?_ 5 _ rfl; (with_reducible repeat (first | refine blk_drewN ?_ _ | refine blk_drew ?_ | refine blk_alloc ?_ _)); refine blk_put (cs := #[.int .u64 0, .int .u64 0, .bool false, .int .u32 0, .int .u8 x252004_2, .int .i64 x252005_2, .int .u16 x252006_2, .int .u16 x252007_2]) ?_ 4 _ rfl; (with_reducible repeat (first | refine blk_drewN ?_ _ | refine blk_drew ?_ | refine blk_alloc ?_ _)); refine blk_put (cs := #[.int .u64 0, .int .u64 0, .bool false, .int .u32 x252003_2, .int .u8 x252004_2, .int .i64 x252005_2, .int .u16 x252006_2, .int .u16 x252007_2]) ?_ 3 _ rfl; (with_reducible repeat (first | refine blk_drewN ?_ _ | refine blk_drew ?_ | refine blk_alloc ?_ _)); refine blk_put (cs := #[.int .u64 0, .int .u64 0, .bool x252002_2, .int .u32 x252003_2, .int .u8 x252004_2, .int .i64 x252005_2, .int .u16 x252006_2, .int .u16 x252007_2]) ?_ 2 _ rfl; (with_reducible repeat (first | refine blk_drewN ?_ _ | refine blk_drew ?_ | refine blk_alloc ?_ _)); refine blk_put (cs := #[.int .u64 0, .int .u64 x252001_2, .bool x252002_2, .int .u32 x252003_2, .int .u8 x252004_2, .int .i64 x252005_2, .int .u16 x252006_2, .int .u16 x252007_2]) ?_ 1 _ rfl; (with_reducible repeat (first | refine blk_drewN ?_ _ | refine blk_drew ?_ | refine blk_alloc ?_ _)); refine blk_put (cs := #[.int .u64 x252000_2, .int .u64 x252001_2, .bool x252002_2, .int .u32 x252003_2, .int .u8 x252004_2, .int .i64 x252005_2, .int .u16 x252006_2, .int .u16 x252007_2]) ?_ 0 _ rfl; (with_reducible repeat (first | refine blk_drewN ?_ _ | refine blk_drew ?_ | refine blk_alloc ?_ _)); exact BK251.out⟩, ⟨by repeat (first | (with_reducible first | exact HB.out | apply below_alloc | apply pw_below_drewN | apply below_drew1 | refine below_set ?_ GE251.out) | exact HB.out)⟩⟩
                case round =>
                  clear H'
                  try clear c1
                  try clear c2
                  try clear p2
                  try clear q2
                  try clear hx2
                  try clear c5
                  try clear p6
                  try clear c8
                  try clear c10
                  try clear c12
                  try clear c13
                  try clear c14
                  try clear c15
                  try clear c15b0
                  try clear c16
                  try clear c16b0
                  try clear c18
                  try clear c25
                  try clear c25b0
                  try clear c25b1
                  try clear p25
                  try clear q25
                  try clear hx25
                  try clear hcz14_0
                  try clear hcz14_1
                  try clear hcz14_2
                  try clear hcz14_3
                  try clear hcz14_4
                  try clear hcz14_5
                  try clear hcz14_6
                  try clear hcz14_7
                  try clear hcz24_0
                  try clear hcz24_1
                  try clear hcz24_2
                  try clear hcz24_3
                  try clear hcz24_4
                  try clear hcz24_5
                  try clear hcz24_6
                  try clear hcz24_7
                  try clear hcz27_0
                  try clear hcz27_1
                  try clear hcz27_2
                  try clear hcz27_3
                  try clear hcz27_4
                  try clear hcz27_5
                  try clear hcz27_6
                  try clear hcz27_7
                  try clear hfz14_0
                  try clear hfz14_1
                  try clear hfz14_2
                  try clear hfz14_3
                  try clear hfz14_4
                  try clear hfz14_5
                  try clear hfz14_6
                  try clear hfz14_7
                  try clear hfz24_0
                  try clear hfz24_1
                  try clear hfz24_2
                  try clear hfz24_3
                  try clear hfz24_4
                  try clear hfz24_5
                  try clear hfz24_6
                  try clear hfz24_7
                  try clear hfz27_0
                  try clear hfz27_1
                  try clear hfz27_2
                  try clear hfz27_3
                  try clear hfz27_4
                  try clear hfz27_5
                  try clear hfz27_6
                  try clear hfz27_7
                  try clear hx252_0
                  try clear hx252_1
                  try clear hx252_2
                  try clear hx252_3
                  try clear hx252_4
                  try clear hx252_5
                  try clear hx252_6
                  try clear hx252_7
                  try clear hx259_0
                  try clear hx259_1
                  try clear hx259_2
                  try clear hx259_3
                  try clear hx259_4
                  try clear hx259_5
                  try clear hx259_6
                  try clear hx259_7
                  try clear p2
                  try clear p252
                  try clear p259
                  try clear q252
                  try clear q259
                  obtain ⟨x10_3, x252000_3, x252001_3, x252002_3, x252003_3, x252004_3, x252005_3, x252006_3, x252007_3, rfl, HA, HK3, HO_5, HO_7, BK251, HB⟩ := hrel
                  cases gk with
                  | zero => exact absurd HA.out (by simp [milestonelaw07_ChangeChains.l1])
                  | succ k3 =>
                    have H := HA.out
                    clear HA
                    simp only [milestonelaw07_ChangeChains.l1] at H
                    by_cases c28 : x10_3 < (Int.tmod (wrap64 (a1)) (wrap64 ((t248.length : Int) + 1)))
                    · rw [if_pos c28] at H
                      have c28b0 : decide (x10_3 < (Int.tmod (wrap64 (a1)) (wrap64 ((t248.length : Int) + 1)))) = true := decide_eq_true c28
                      clear c28
                      by_cases c29 : 0 ≤ x10_3
                      · rw [if_pos c29] at H
                        have c29b0 : decide (0 ≤ x10_3) = true := decide_eq_true c29
                        clear c29
                        by_cases c30 : x10_3 < (x7_2.length : Int)
                        · rw [if_pos c30] at H
                          have c30b0 : decide (x10_3 < (x7_2.length : Int)) = true := decide_eq_true c30
                          clear c30
                          replace H := Option.bind_eq_some_iff.mp H
                          obtain ⟨⟨t261, t262, t263, t264, t265, t266, t267, t268, t269⟩, A310, H⟩ := H
                          replace H : (if t269 = 0 then (if x10_3 < (t248.length : Int) then (if (!(t261 == ((rd_T31 t248 x10_3).f0)) || (!(t262 == ((rd_T31 t248 x10_3).f1)) || (!(t263 == ((rd_T31 t248 x10_3).f2)) || (((!(t264 == ((rd_T31 t248 x10_3).f3.f0.f0)) || (!(t265 == ((rd_T31 t248 x10_3).f3.f0.f1)))) || (!(t266 == ((rd_T31 t248 x10_3).f3.f1)) || (!(t267 == ((rd_T31 t248 x10_3).f3.f2)) || (!(t268 == ((rd_T31 t248 x10_3).f3.f3)))))))))) = true then (some false) else ((change_Follows.f x252000_3 x252001_3 x252002_3 x252003_3 x252004_3 x252005_3 x252006_3 x252007_3 t261 t262 t263 t264 t265 t266 t267 t268).bind fun t272 => (if t272 = true then (milestonelaw07_ChangeChains.l1 k3 t248 x7_2 (Int.tmod (wrap64 (a1)) (wrap64 ((t248.length : Int) + 1))) (wrap64 (x10_3 + 1)) t261 t262 t263 t264 t265 t266 t267 t268) else (some false)))) else (none)) else (some false)) = some r := H
                          have A31 := Aside0.mk A310
                          clear A310
                          by_cases c32 : t269 = 0
                          · rw [if_pos c32] at H
                            have c32b0 : (t269 == 0) = true := beq_iff_eq.mpr c32
                            have c32b1 : (t269 != 0) = false := bne_eq_false_iff_eq.mpr c32
                            clear c32
                            by_cases c33 : x10_3 < (t248.length : Int)
                            · rw [if_pos c33] at H
                              have c33b0 : decide (x10_3 < (t248.length : Int)) = true := decide_eq_true c33
                              clear c33
                              by_cases c34 : (!(t261 == ((rd_T31 t248 x10_3).f0)) || (!(t262 == ((rd_T31 t248 x10_3).f1)) || (!(t263 == ((rd_T31 t248 x10_3).f2)) || (((!(t264 == ((rd_T31 t248 x10_3).f3.f0.f0)) || (!(t265 == ((rd_T31 t248 x10_3).f3.f0.f1)))) || (!(t266 == ((rd_T31 t248 x10_3).f3.f1)) || (!(t267 == ((rd_T31 t248 x10_3).f3.f2)) || (!(t268 == ((rd_T31 t248 x10_3).f3.f3)))))))))) = true
                              · rw [if_pos c34] at H
                                have c34b0 : (!(t261 == ((rd_T31 t248 x10_3).f0)) || (!(t262 == ((rd_T31 t248 x10_3).f1)) || (!(t263 == ((rd_T31 t248 x10_3).f2)) || (((!(t264 == ((rd_T31 t248 x10_3).f3.f0.f0)) || (!(t265 == ((rd_T31 t248 x10_3).f3.f0.f1)))) || (!(t266 == ((rd_T31 t248 x10_3).f3.f1)) || (!(t267 == ((rd_T31 t248 x10_3).f3.f2)) || (!(t268 == ((rd_T31 t248 x10_3).f3.f3)))))))))) = true := c34
                                clear c34
                                obtain rfl := Option.some.inj H
                                exact absurd HT.out (by decide)
                              · rw [if_neg c34] at H
                                have c34b0 : (!(t261 == ((rd_T31 t248 x10_3).f0)) || (!(t262 == ((rd_T31 t248 x10_3).f1)) || (!(t263 == ((rd_T31 t248 x10_3).f2)) || (((!(t264 == ((rd_T31 t248 x10_3).f3.f0.f0)) || (!(t265 == ((rd_T31 t248 x10_3).f3.f0.f1)))) || (!(t266 == ((rd_T31 t248 x10_3).f3.f1)) || (!(t267 == ((rd_T31 t248 x10_3).f3.f2)) || (!(t268 == ((rd_T31 t248 x10_3).f3.f3)))))))))) = false := by simpa using c34
                                clear c34
                                replace H := Option.bind_eq_some_iff.mp H
                                obtain ⟨t272, A350, H⟩ := H
                                replace H : (if t272 = true then (milestonelaw07_ChangeChains.l1 k3 t248 x7_2 (Int.tmod (wrap64 (a1)) (wrap64 ((t248.length : Int) + 1))) (wrap64 (x10_3 + 1)) t261 t262 t263 t264 t265 t266 t267 t268) else (some false)) = some r := H
                                have A35 := Aside0.mk A350
                                clear A350
                                by_cases c36 : t272 = true
                                · subst c36
                                  have H1 : (milestonelaw07_ChangeChains.l1 k3 t248 x7_2 (Int.tmod (wrap64 (a1)) (wrap64 ((t248.length : Int) + 1))) (wrap64 (x10_3 + 1)) t261 t262 t263 t264 t265 t266 t267 t268) = some r := by rw [if_pos rfl] at H; exact H
                                  clear H
                                  have H := H1
                                  clear H1
                                  have H' := Aside0.mk H
                                  clear H
                                  try go_wp2
                                  have n0_ := Aside0.mk (Kd.R_drew HO_5.out)
                                  have n1_ := Aside0.mk (Kd.S_drew HO_7.out)
                                  have n2_ := Aside0.mk (blk_drew BK251.out)
                                  have n3_ := Aside0.mk (below_drew1 HB.out)
                                  clear HO_5
                                  clear HO_7
                                  clear BK251
                                  clear HB
                                  have HO_5 := n0_
                                  have HO_7 := n1_
                                  have BK251 := n2_
                                  have HB := n3_
                                  clear n0_ n1_ n2_ n3_
                                  obtain ⟨Ao38, co38, eo38⟩ := Kd.S_slice HO_7.out
                                  (first | subst eo38 | (injection eo38 with f1_ f2_ f3_; have f4_ := f1_.symm; have f5_ := f3_.symm; clear f1_ f2_ f3_; subst f4_; subst f5_))
                                  have p260 : 0 ≤ (x10_3 : Int) := of_decide_eq_true (by first | (with_reducible assumption) | assumption)
                                  have q260 : x10_3 < (x7_2.length : Int) := of_decide_eq_true (by first | (with_reducible assumption) | assumption)
                                  obtain ⟨ad260, A260_0, c260_0, e260, hx260_0, hl260_0, hi260_0⟩ := at_L10 (Kd.S_reads' HO_7.out).2.2 x10_3 p260 q260
                                  cases e260
                                  obtain ⟨ce260, hce260, hMe260, hcc260⟩ := Kd.S_get HO_7.out [] x10_3 p260 (by first | exact q260 | exact of_decide_eq_true (by first | (with_reducible assumption) | assumption) | (have e_ := (Kd.S_reads' HO_7.out).1; omega))
                                  obtain ⟨ve260_0, rfl, ge260_0⟩ := hMe260
                                  have hv260_0 := hcc260 0 _ rfl
                                  rw [Nat.add_zero, show ((Kd.slice 5 (Kd.int .u8))).sz = 1 from rfl, Nat.mul_one] at hv260_0
                                  replace hv260_0 := Option.some.inj (hv260_0.symm.trans hx260_0)
                                  rw [hv260_0] at ge260_0
                                  have HL260_0 := Aside0.mk (show Kd.R (Kd.int .u8) 5 _ _ _ _ (rd_L10 x7_2 x10_3) from ge260_0)
                                  clear hv260_0 ge260_0
                                  clear hcc260 hce260
                                  have HR260_0 := Aside0.mk hi260_0
                                  have HC260_0 := Aside0.mk hl260_0
                                  clear hi260_0 hl260_0
                                  replace p260 := eq_true p260
                                  replace q260 := eq_true q260
                                  refine start_ (n := 12) (S := fun w' => w'.cell? ⟨gb251, 0, none⟩ = some (.int .u64 x252000_3) ∧ w'.cell? ⟨gb251, 1, none⟩ = some (.int .u64 x252001_3) ∧ w'.cell? ⟨gb251, 2, none⟩ = some (.bool x252002_3) ∧ w'.cell? ⟨gb251, 3, none⟩ = some (.int .u32 x252003_3) ∧ w'.cell? ⟨gb251, 4, none⟩ = some (.int .u8 x252004_3) ∧ w'.cell? ⟨gb251, 5, none⟩ = some (.int .i64 x252005_3) ∧ w'.cell? ⟨gb251, 6, none⟩ = some (.int .u16 x252006_3) ∧ w'.cell? ⟨gb251, 7, none⟩ = some (.int .u16 x252007_3) ∧ w'.cell? (ad260.add (x10_3).toNat) = some (.slice A260_0 (rd_L10 x7_2 x10_3).length c260_0)) (ds := []) #[false, false, false, false, false, false, false, false, false, false, false, false] (by kernel_rfl) rfl rfl ⟨(blk_cell BK251.out 0).trans rfl, (blk_cell BK251.out 1).trans rfl, (blk_cell BK251.out 2).trans rfl, (blk_cell BK251.out 3).trans rfl, (blk_cell BK251.out 4).trans rfl, (blk_cell BK251.out 5).trans rfl, (blk_cell BK251.out 6).trans rfl, (blk_cell BK251.out 7).trans rfl, hx260_0⟩ (fun hHeld => ?_); refine with_tabW milestonelaw07_ChangeChains.tab16 milestonelaw07_ChangeChains.bits16 (fun HT_ HW_ => ?_)
                                  generalize wr.drew = w37 at HO_5 HO_7 BK251 HB HL260_0 HR260_0 hx260_0 hHeld ⊢
                                  refine pure_ (i := 1) (N := some 57) (v := ?_) (a' := ?_) #[false, true, false, false, false, false, false, false, false, false, false, false] rfl rfl (any_of HT_.out (by kernel_rfl)) (fun _ _ _ h => h) (Or.inl ⟨by rfl, ?_⟩) ?_ ?_
                                  rotate_left
                                  · intro w'
                                    go_simp
                                    with_reducible rfl
                                  rotate_left
                                  · simp only [Act.put, List.setIfInBounds_toArray, List.set_cons_zero, List.set_cons_succ, i64_w, i32_w]
                                    rfl
                                  refine pure_ (i := 2) (N := some 58) (v := ?_) (a' := ?_) #[false, true, true, false, false, false, false, false, false, false, false, false] rfl rfl (any_of HT_.out (by kernel_rfl)) (fun _ _ _ h => h) (Or.inl ⟨by rfl, ?_⟩) ?_ ?_
                                  rotate_left
                                  · intro w'
                                    go_simp
                                    with_reducible rfl
                                  rotate_left
                                  · simp only [Act.put, List.setIfInBounds_toArray, List.set_cons_zero, List.set_cons_succ, i64_w, i32_w]
                                    rfl
                                  refine pure_ (i := 3) (N := some 59) (v := ?_) (a' := ?_) #[false, true, true, true, false, false, false, false, false, false, false, false] rfl rfl (any_of HT_.out (by kernel_rfl)) (fun _ _ _ h => h) (Or.inl ⟨by rfl, ?_⟩) ?_ ?_
                                  rotate_left
                                  · intro w'
                                    go_simp
                                    with_reducible rfl
                                  rotate_left
                                  · simp only [Act.put, List.setIfInBounds_toArray, List.set_cons_zero, List.set_cons_succ, i64_w, i32_w]
                                    rfl
                                  refine take_ (i := 0) (N := some 56) (v := ?_) (a' := ?_) #[true, true, true, true, false, false, false, false, false, false, false, false] rfl rfl (take_ofW HT_.out HW_.out (by kernel_rfl)) (fun _ _ _ h => h) (Or.inl ⟨by rfl, ?_⟩) hHeld ?_ ?_
                                  rotate_left
                                  · rintro w' ⟨s0, s1, s2, s3, s4, s5, s6, s7, s8⟩
                                    go_simp
                                    with_reducible rfl
                                  rotate_left
                                  · simp only [Act.put, List.setIfInBounds_toArray, List.set_cons_zero, List.set_cons_succ, i64_w, i32_w]
                                    rfl
                                  refine take_ (i := 4) (N := some 60) (v := ?_) (a' := ?_) #[true, true, true, true, true, false, false, false, false, false, false, false] rfl rfl (take_ofW HT_.out HW_.out (by kernel_rfl)) (fun _ _ _ h => h) (Or.inl ⟨by rfl, ?_⟩) hHeld ?_ ?_
                                  rotate_left
                                  · rintro w' ⟨s0, s1, s2, s3, s4, s5, s6, s7, s8⟩
                                    go_simp
                                    with_reducible rfl
                                  rotate_left
                                  · simp only [Act.put, List.setIfInBounds_toArray, List.set_cons_zero, List.set_cons_succ, i64_w, i32_w]
                                    rfl
                                  refine join_ (σ := Nat) 2 #[true, true, true, true, true, true, true, true, true, true, false, false] (fun s_ => [(61, .tuple #[.agg #[.int .u64 t261, .int .u64 t262, .bool t263, .int .u32 t264, .int .u8 t265, .int .i64 t266, .int .u16 t267, .int .u16 t268], .int .i64 t269]), (11, .pointer (some ⟨s_, 0, none⟩)), (55, .tuple #[.agg #[.int .u64 t261, .int .u64 t262, .bool t263, .int .u32 t264, .int .u8 t265, .int .i64 t266, .int .u16 t267, .int .u16 t268], .int .i64 t269]), (62, .agg #[.int .u64 t261, .int .u64 t262, .bool t263, .int .u32 t264, .int .u8 t265, .int .i64 t266, .int .u16 t267, .int .u16 t268]), (63, .int .i64 t269)]) (fun s_ w' => (w'.cell? ⟨gb251, 0, none⟩ = some (.int .u64 x252000_3) ∧ w'.cell? ⟨gb251, 1, none⟩ = some (.int .u64 x252001_3) ∧ w'.cell? ⟨gb251, 2, none⟩ = some (.bool x252002_3) ∧ w'.cell? ⟨gb251, 3, none⟩ = some (.int .u32 x252003_3) ∧ w'.cell? ⟨gb251, 4, none⟩ = some (.int .u8 x252004_3) ∧ w'.cell? ⟨gb251, 5, none⟩ = some (.int .i64 x252005_3) ∧ w'.cell? ⟨gb251, 6, none⟩ = some (.int .u16 x252006_3) ∧ w'.cell? ⟨gb251, 7, none⟩ = some (.int .u16 x252007_3) ∧ w'.cell? (ad260.add (x10_3).toNat) = some (.slice A260_0 (rd_L10 x7_2 x10_3).length c260_0)) ∧ (Kd.R (Kd.int .u8) 5 w' w.heap.size (fun k_ => some k_ ≠ (.slice (some ad260) x7_2.length co38 : Value).ownBlock) (.slice A260_0 (rd_L10 x7_2 x10_3).length c260_0) (rd_L10 x7_2 x10_3)) ∧ (Kd.R k31 31 w' w.heap.size (fun k_ => k_ ≠ gb251 ∧ k_ ≠ s_) (.slice Ao26 t248.length co26) t248) ∧ (Kd.S (Kd.slice 5 (Kd.int .u8)) 33 w' w.heap.size (fun _ => True) (.slice (some ad260) x7_2.length co38) x7_2) ∧ (w'.heap[gb251]? = some (.cells #[.int .u64 x252000_3, .int .u64 x252001_3, .bool x252002_3, .int .u32 x252003_3, .int .u8 x252004_3, .int .i64 x252005_3, .int .u16 x252006_3, .int .u16 x252007_3] 31 (0, 0))) ∧ (w'.heap[s_]? = some (.cells #[.int .u64 0, .int .u64 0, .bool false, .int .u32 0, .int .u8 0, .int .i64 0, .int .u16 0, .int .u16 0] 31 (0, 0))) ∧ (w.heap.size ≤ s_) ∧ (w.heap.size ≤ s_) ∧ (gb251 ≠ s_) ∧ (s_ ≠ gb251) ∧ (Below w.heap.size w w')) ?_ ?_
                                  rotate_left
                                  · intro hCont
                                    refine two_ (i := 5) (j := 9) (Ni := some 61) (Nj := some 11) #[true, true, true, true, true, true, false, false, false, false, false, false] #[true, true, true, true, true, false, false, false, false, true, false, false] rfl rfl rfl rfl (two_of HT_.out (by kernel_rfl)) (by decide) (by decide) (fun K hK => ?_) (fun K hK => ?_)
                                    · skip
                                      refine goes_ Try.func23 (by kernel_rfl) rfl #[.agg #[.int .u64 x252000_3, .int .u64 x252001_3, .bool x252002_3, .int .u32 x252003_3, .int .u8 x252004_3, .int .i64 x252005_3, .int .u16 x252006_3, .int .u16 x252007_3], .slice A260_0 (rd_L10 x7_2 x10_3).length c260_0] (by rfl) rfl rfl (by (try simp only [List.map_toArray, List.map_cons, List.map_nil]); first | done | rfl | (simp only [List.length_drop, List.length_take]; rfl)) ?_
                                      with_reducible refine (change_Decode.calls k3 x252000_3 x252001_3 x252002_3 x252003_3 x252004_3 x252005_3 x252006_3 x252007_3 _ _ (rd_L10 x7_2 x10_3) t261 t262 t263 t264 t265 t266 t267 t268 t269 _ ?side1 ?side2 A31.out).mono ?_
                                      (case side1 => repeat (first | exact (by repeat (first | (with_reducible exact HR260_0.out) | (with_reducible refine Kd.C_alloc ?_ _) | (with_reducible refine Kd.C_drewN ?_ _) | (with_reducible refine Kd.C_drew ?_) | exact HR260_0.out)) | (with_reducible refine Kd.C_alloc ?_ _) | (with_reducible refine Kd.C_drewN ?_ _) | (with_reducible refine Kd.C_drew ?_)))
                                      (case side2 => exact HC260_0.out)
                                      rintro e w39 ⟨rfl, hb⟩
                                      have HS8_ := (hb.cell (World.block_lt_of_cell? _ _ (hHeld.2.2.2.2.2.2.2.2))).trans (hHeld.2.2.2.2.2.2.2.2)
                                      refine ⟨_, rfl, ?_⟩
                                      have n0_ := Aside0.mk (Kd.R_below (by (with_reducible repeat (first | apply Kd.R_alloc | apply Kd.R_drewN | apply Kd.R_drew)); exact HO_5.out) hb)
                                      have n1_ := Aside0.mk (Kd.S_below (by (with_reducible repeat (first | apply Kd.S_alloc | apply Kd.S_drewN | apply Kd.S_drew)); exact HO_7.out) hb)
                                      have n2_ := Aside0.mk (Kd.R_below (by (with_reducible repeat (first | apply Kd.R_alloc | apply Kd.R_drewN | apply Kd.R_drew)); exact HL260_0.out) hb)
                                      have n3_ := Aside0.mk (blk_below (g := gb251) (o := .cells #[.int .u64 x252000_3, .int .u64 x252001_3, .bool x252002_3, .int .u32 x252003_3, .int .u8 x252004_3, .int .i64 x252005_3, .int .u16 x252006_3, .int .u16 x252007_3] 31 (0, 0)) (by (with_reducible repeat (first | refine blk_drewN ?_ _ | refine blk_drew ?_ | refine blk_alloc ?_ _)); exact BK251.out) hb)
                                      have n4_ := Aside0.mk (Kd.C_below (by repeat (first | (with_reducible exact HR260_0.out) | (with_reducible refine Kd.C_alloc ?_ _) | (with_reducible refine Kd.C_drewN ?_ _) | (with_reducible refine Kd.C_drew ?_) | exact HR260_0.out)) hb)
                                      have n5_ := Aside0.mk (below_step (by repeat (first | (with_reducible first | exact HB.out | apply below_alloc | apply pw_below_drewN | apply below_drew1 | refine below_set ?_ GE251.out) | exact HB.out)) hb)
                                      clear HO_5
                                      clear HO_7
                                      clear HL260_0
                                      clear BK251
                                      clear HR260_0
                                      clear HB
                                      have HO_5 := n0_
                                      have HO_7 := n1_
                                      have HL260_0 := n2_
                                      have BK251 := n3_
                                      have HR260_0 := n4_
                                      have HB := n5_
                                      clear n0_ n1_ n2_ n3_ n4_ n5_
                                      (try clear hb)
                                      (try clear hb2)
                                      (try clear hk)
                                      (try clear hi)
                                      refine hK.out _ _ ⟨(blk_cell BK251.out 0).trans rfl, (blk_cell BK251.out 1).trans rfl, (blk_cell BK251.out 2).trans rfl, (blk_cell BK251.out 3).trans rfl, (blk_cell BK251.out 4).trans rfl, (blk_cell BK251.out 5).trans rfl, (blk_cell BK251.out 6).trans rfl, (blk_cell BK251.out 7).trans rfl, HS8_⟩ (fun hHeld => ?_)
                                      clear hK K
                                      refine norm_ (a' := ?_) ?_ ?_
                                      rotate_left
                                      · show Act.put _ (some 61) _ = _
                                        simp only [Act.put, List.setIfInBounds_toArray, List.set_cons_zero, List.set_cons_succ, i64_w, i32_w]
                                        rfl
                                      refine pure_ (i := 6) (N := some 55) (v := ?_) (a' := ?_) #[true, true, true, true, true, true, true, false, false, false, false, false] rfl rfl (any_of HT_.out (by kernel_rfl)) (fun _ _ _ h => h) (Or.inl ⟨by rfl, ?_⟩) ?_ ?_
                                      rotate_left
                                      · intro w'
                                        go_simp
                                        with_reducible rfl
                                      rotate_left
                                      · simp only [Act.put, List.setIfInBounds_toArray, List.set_cons_zero, List.set_cons_succ, i64_w, i32_w]
                                        rfl
                                      refine pure_ (i := 7) (N := some 62) (v := ?_) (a' := ?_) #[true, true, true, true, true, true, true, true, false, false, false, false] rfl rfl (any_of HT_.out (by kernel_rfl)) (fun _ _ _ h => h) (Or.inl ⟨by rfl, ?_⟩) ?_ ?_
                                      rotate_left
                                      · intro w'
                                        go_simp
                                        with_reducible rfl
                                      rotate_left
                                      · simp only [Act.put, List.setIfInBounds_toArray, List.set_cons_zero, List.set_cons_succ, i64_w, i32_w]
                                        rfl
                                      refine pure_ (i := 8) (N := some 63) (v := ?_) (a' := ?_) #[true, true, true, true, true, true, true, true, true, false, false, false] rfl rfl (any_of HT_.out (by kernel_rfl)) (fun _ _ _ h => h) (Or.inl ⟨by rfl, ?_⟩) ?_ ?_
                                      rotate_left
                                      · intro w'
                                        go_simp
                                        with_reducible rfl
                                      rotate_left
                                      · simp only [Act.put, List.setIfInBounds_toArray, List.set_cons_zero, List.set_cons_succ, i64_w, i32_w]
                                        rfl
                                      refine one_ (i := 9) (N := some 11) #[true, true, true, true, true, true, true, true, true, true, false, false] rfl rfl (one_of HT_.out (by kernel_rfl)) (by decide) (fun K hK => ?_)
                                      refine box_step ?hg (N := 11) ?hd (cs := #[.int .u64 0, .int .u64 0, .bool false, .int .u32 0, .int .u8 0, .int .i64 0, .int .u16 0, .int .u16 0]) (t := 31) ?hr ?_; (case hd => rfl); (case hg => rfl); (case hr => first | (go_simp; done) | (go_simp; rfl))
                                      intro gb270 hg w40 hbox hb
                                      have HS8_ := (hb.cell (World.block_lt_of_cell? _ _ (hHeld.2.2.2.2.2.2.2.2))).trans (hHeld.2.2.2.2.2.2.2.2)
                                      have n0_ := Aside0.mk (Kd.R_below (Kd.R_elderB (by (with_reducible repeat (first | apply Kd.R_alloc | apply Kd.R_drewN | apply Kd.R_drew)); exact HO_5.out) gb270 (Nat.le_of_eq hg.symm)) hb)
                                      have n1_ := Aside0.mk (Kd.S_below (by (with_reducible repeat (first | apply Kd.S_alloc | apply Kd.S_drewN | apply Kd.S_drew)); exact HO_7.out) hb)
                                      have n2_ := Aside0.mk (Kd.R_below (by (with_reducible repeat (first | apply Kd.R_alloc | apply Kd.R_drewN | apply Kd.R_drew)); exact HL260_0.out) hb)
                                      have n3_ := Aside0.mk (blk_below (g := gb251) (o := .cells #[.int .u64 x252000_3, .int .u64 x252001_3, .bool x252002_3, .int .u32 x252003_3, .int .u8 x252004_3, .int .i64 x252005_3, .int .u16 x252006_3, .int .u16 x252007_3] 31 (0, 0)) (by (with_reducible repeat (first | refine blk_drewN ?_ _ | refine blk_drew ?_ | refine blk_alloc ?_ _)); exact BK251.out) hb)
                                      have n4_ := Aside0.mk (Kd.C_below (by repeat (first | (with_reducible exact HR260_0.out) | (with_reducible refine Kd.C_alloc ?_ _) | (with_reducible refine Kd.C_drewN ?_ _) | (with_reducible refine Kd.C_drew ?_) | exact HR260_0.out)) hb)
                                      have n5_ := Aside0.mk (below_step (by repeat (first | (with_reducible first | exact HB.out | apply below_alloc | apply pw_below_drewN | apply below_drew1 | refine below_set ?_ GE251.out) | exact HB.out)) hb)
                                      have n6_ := Aside0.mk (hbox)
                                      have n7_ := Aside0.mk ((by rw [hg]; exact (below_size (by repeat (first | (with_reducible first | exact HB.out | apply below_alloc | apply pw_below_drewN | apply below_drew1 | refine below_set ?_ GE251.out) | exact HB.out))) : w.heap.size ≤ gb270))
                                      have n8_ := Aside0.mk ((by rw [hg]; exact (below_size (by repeat (first | (with_reducible first | exact HB.out | apply below_alloc | apply pw_below_drewN | apply below_drew1 | refine below_set ?_ GE251.out) | exact HB.out))) : w.heap.size ≤ gb270))
                                      have n9_ := Aside0.mk ((by rw [hg]; exact Nat.ne_of_lt (blk_lt (g := gb251) (o := .cells #[.int .u64 x252000_3, .int .u64 x252001_3, .bool x252002_3, .int .u32 x252003_3, .int .u8 x252004_3, .int .i64 x252005_3, .int .u16 x252006_3, .int .u16 x252007_3] 31 (0, 0)) (by (with_reducible repeat (first | refine blk_drewN ?_ _ | refine blk_drew ?_ | refine blk_alloc ?_ _)); exact BK251.out)) : gb251 ≠ gb270))
                                      have n10_ := Aside0.mk ((by rw [hg]; exact Nat.ne_of_gt (blk_lt (g := gb251) (o := .cells #[.int .u64 x252000_3, .int .u64 x252001_3, .bool x252002_3, .int .u32 x252003_3, .int .u8 x252004_3, .int .i64 x252005_3, .int .u16 x252006_3, .int .u16 x252007_3] 31 (0, 0)) (by (with_reducible repeat (first | refine blk_drewN ?_ _ | refine blk_drew ?_ | refine blk_alloc ?_ _)); exact BK251.out)) : gb270 ≠ gb251))
                                      clear HO_5
                                      clear HO_7
                                      clear HL260_0
                                      clear BK251
                                      clear HR260_0
                                      clear HB
                                      have HO_5 := n0_
                                      have HO_7 := n1_
                                      have HL260_0 := n2_
                                      have BK251 := n3_
                                      have HR260_0 := n4_
                                      have HB := n5_
                                      have BK270 := n6_
                                      have GW270 := n7_
                                      have GE270 := n8_
                                      have NB251_270 := n9_
                                      have NB270_251 := n10_
                                      clear n0_ n1_ n2_ n3_ n4_ n5_ n6_ n7_ n8_ n9_ n10_
                                      clear hb hbox hg
                                      refine hK.out _ _ ⟨(blk_cell BK251.out 0).trans rfl, (blk_cell BK251.out 1).trans rfl, (blk_cell BK251.out 2).trans rfl, (blk_cell BK251.out 3).trans rfl, (blk_cell BK251.out 4).trans rfl, (blk_cell BK251.out 5).trans rfl, (blk_cell BK251.out 6).trans rfl, (blk_cell BK251.out 7).trans rfl, HS8_⟩ (fun hHeld => ?_)
                                      clear hK K
                                      refine norm_ (a' := ?_) ?_ ?_
                                      rotate_left
                                      · show Act.put _ (some 11) _ = _
                                        simp only [Act.put, List.setIfInBounds_toArray, List.set_cons_zero, List.set_cons_succ, i64_w, i32_w]
                                        rfl
                                      exact norm_ (by simp only [putAll, Act.put, List.setIfInBounds_toArray, List.set_cons_zero, List.set_cons_succ]) (hCont (gb270) _ ⟨hHeld, (by (with_reducible repeat (first | apply Kd.R_alloc | apply Kd.R_drewN | apply Kd.R_drew)); exact Kd.R_mono HL260_0.out (fun _ hk => hk.2)), (by (with_reducible repeat (first | apply Kd.R_alloc | apply Kd.R_drewN | apply Kd.R_drew)); exact HO_5.out), (by (with_reducible repeat (first | apply Kd.S_alloc | apply Kd.S_drewN | apply Kd.S_drew)); exact HO_7.out), (by (with_reducible repeat (first | refine blk_drewN ?_ _ | refine blk_drew ?_ | refine blk_alloc ?_ _)); exact BK251.out), (by (with_reducible repeat (first | refine blk_drewN ?_ _ | refine blk_drew ?_ | refine blk_alloc ?_ _)); exact BK270.out), GW270.out, GE270.out, NB251_270.out, NB270_251.out, (by repeat (first | (with_reducible first | exact HB.out | apply below_alloc | apply pw_below_drewN | apply below_drew1 | refine below_set ?_ GE251.out | refine below_set ?_ GE270.out) | exact HB.out))⟩)
                                    · skip
                                      refine box_step ?hg (N := 11) ?hd (cs := #[.int .u64 0, .int .u64 0, .bool false, .int .u32 0, .int .u8 0, .int .i64 0, .int .u16 0, .int .u16 0]) (t := 31) ?hr ?_; (case hd => rfl); (case hg => rfl); (case hr => first | (go_simp; done) | (go_simp; rfl))
                                      intro gb270 hg w39 hbox hb
                                      have HS8_ := (hb.cell (World.block_lt_of_cell? _ _ (hHeld.2.2.2.2.2.2.2.2))).trans (hHeld.2.2.2.2.2.2.2.2)
                                      have n0_ := Aside0.mk (Kd.R_below (Kd.R_elderB (by (with_reducible repeat (first | apply Kd.R_alloc | apply Kd.R_drewN | apply Kd.R_drew)); exact HO_5.out) gb270 (Nat.le_of_eq hg.symm)) hb)
                                      have n1_ := Aside0.mk (Kd.S_below (by (with_reducible repeat (first | apply Kd.S_alloc | apply Kd.S_drewN | apply Kd.S_drew)); exact HO_7.out) hb)
                                      have n2_ := Aside0.mk (Kd.R_below (by (with_reducible repeat (first | apply Kd.R_alloc | apply Kd.R_drewN | apply Kd.R_drew)); exact HL260_0.out) hb)
                                      have n3_ := Aside0.mk (blk_below (g := gb251) (o := .cells #[.int .u64 x252000_3, .int .u64 x252001_3, .bool x252002_3, .int .u32 x252003_3, .int .u8 x252004_3, .int .i64 x252005_3, .int .u16 x252006_3, .int .u16 x252007_3] 31 (0, 0)) (by (with_reducible repeat (first | refine blk_drewN ?_ _ | refine blk_drew ?_ | refine blk_alloc ?_ _)); exact BK251.out) hb)
                                      have n4_ := Aside0.mk (Kd.C_below (by repeat (first | (with_reducible exact HR260_0.out) | (with_reducible refine Kd.C_alloc ?_ _) | (with_reducible refine Kd.C_drewN ?_ _) | (with_reducible refine Kd.C_drew ?_) | exact HR260_0.out)) hb)
                                      have n5_ := Aside0.mk (below_step (by repeat (first | (with_reducible first | exact HB.out | apply below_alloc | apply pw_below_drewN | apply below_drew1 | refine below_set ?_ GE251.out) | exact HB.out)) hb)
                                      have n6_ := Aside0.mk (hbox)
                                      have n7_ := Aside0.mk ((by rw [hg]; exact (below_size (by repeat (first | (with_reducible first | exact HB.out | apply below_alloc | apply pw_below_drewN | apply below_drew1 | refine below_set ?_ GE251.out) | exact HB.out))) : w.heap.size ≤ gb270))
                                      have n8_ := Aside0.mk ((by rw [hg]; exact (below_size (by repeat (first | (with_reducible first | exact HB.out | apply below_alloc | apply pw_below_drewN | apply below_drew1 | refine below_set ?_ GE251.out) | exact HB.out))) : w.heap.size ≤ gb270))
                                      have n9_ := Aside0.mk ((by rw [hg]; exact Nat.ne_of_lt (blk_lt (g := gb251) (o := .cells #[.int .u64 x252000_3, .int .u64 x252001_3, .bool x252002_3, .int .u32 x252003_3, .int .u8 x252004_3, .int .i64 x252005_3, .int .u16 x252006_3, .int .u16 x252007_3] 31 (0, 0)) (by (with_reducible repeat (first | refine blk_drewN ?_ _ | refine blk_drew ?_ | refine blk_alloc ?_ _)); exact BK251.out)) : gb251 ≠ gb270))
                                      have n10_ := Aside0.mk ((by rw [hg]; exact Nat.ne_of_gt (blk_lt (g := gb251) (o := .cells #[.int .u64 x252000_3, .int .u64 x252001_3, .bool x252002_3, .int .u32 x252003_3, .int .u8 x252004_3, .int .i64 x252005_3, .int .u16 x252006_3, .int .u16 x252007_3] 31 (0, 0)) (by (with_reducible repeat (first | refine blk_drewN ?_ _ | refine blk_drew ?_ | refine blk_alloc ?_ _)); exact BK251.out)) : gb270 ≠ gb251))
                                      clear HO_5
                                      clear HO_7
                                      clear HL260_0
                                      clear BK251
                                      clear HR260_0
                                      clear HB
                                      have HO_5 := n0_
                                      have HO_7 := n1_
                                      have HL260_0 := n2_
                                      have BK251 := n3_
                                      have HR260_0 := n4_
                                      have HB := n5_
                                      have BK270 := n6_
                                      have GW270 := n7_
                                      have GE270 := n8_
                                      have NB251_270 := n9_
                                      have NB270_251 := n10_
                                      clear n0_ n1_ n2_ n3_ n4_ n5_ n6_ n7_ n8_ n9_ n10_
                                      clear hb hbox hg
                                      refine hK.out _ _ ⟨(blk_cell BK251.out 0).trans rfl, (blk_cell BK251.out 1).trans rfl, (blk_cell BK251.out 2).trans rfl, (blk_cell BK251.out 3).trans rfl, (blk_cell BK251.out 4).trans rfl, (blk_cell BK251.out 5).trans rfl, (blk_cell BK251.out 6).trans rfl, (blk_cell BK251.out 7).trans rfl, HS8_⟩ (fun hHeld => ?_)
                                      clear hK K
                                      refine norm_ (a' := ?_) ?_ ?_
                                      rotate_left
                                      · show Act.put _ (some 11) _ = _
                                        simp only [Act.put, List.setIfInBounds_toArray, List.set_cons_zero, List.set_cons_succ, i64_w, i32_w]
                                        rfl
                                      refine one_ (i := 5) (N := some 61) #[true, true, true, true, true, true, false, false, false, true, false, false] rfl rfl (one_of HT_.out (by kernel_rfl)) (by decide) (fun K hK => ?_)
                                      refine goes_ Try.func23 (by kernel_rfl) rfl #[.agg #[.int .u64 x252000_3, .int .u64 x252001_3, .bool x252002_3, .int .u32 x252003_3, .int .u8 x252004_3, .int .i64 x252005_3, .int .u16 x252006_3, .int .u16 x252007_3], .slice A260_0 (rd_L10 x7_2 x10_3).length c260_0] (by rfl) rfl rfl (by (try simp only [List.map_toArray, List.map_cons, List.map_nil]); first | done | rfl | (simp only [List.length_drop, List.length_take]; rfl)) ?_
                                      with_reducible refine (change_Decode.calls k3 x252000_3 x252001_3 x252002_3 x252003_3 x252004_3 x252005_3 x252006_3 x252007_3 _ _ (rd_L10 x7_2 x10_3) t261 t262 t263 t264 t265 t266 t267 t268 t269 _ ?side1 ?side2 A31.out).mono ?_
                                      (case side1 => repeat (first | exact (by repeat (first | (with_reducible exact HR260_0.out) | (with_reducible refine Kd.C_alloc ?_ _) | (with_reducible refine Kd.C_drewN ?_ _) | (with_reducible refine Kd.C_drew ?_) | exact HR260_0.out)) | (with_reducible refine Kd.C_alloc ?_ _) | (with_reducible refine Kd.C_drewN ?_ _) | (with_reducible refine Kd.C_drew ?_)))
                                      (case side2 => exact HC260_0.out)
                                      rintro e w40 ⟨rfl, hb⟩
                                      have HS8_ := (hb.cell (World.block_lt_of_cell? _ _ (hHeld.2.2.2.2.2.2.2.2))).trans (hHeld.2.2.2.2.2.2.2.2)
                                      refine ⟨_, rfl, ?_⟩
                                      have n0_ := Aside0.mk (Kd.R_below (by (with_reducible repeat (first | apply Kd.R_alloc | apply Kd.R_drewN | apply Kd.R_drew)); exact HO_5.out) hb)
                                      have n1_ := Aside0.mk (Kd.S_below (by (with_reducible repeat (first | apply Kd.S_alloc | apply Kd.S_drewN | apply Kd.S_drew)); exact HO_7.out) hb)
                                      have n2_ := Aside0.mk (Kd.R_below (by (with_reducible repeat (first | apply Kd.R_alloc | apply Kd.R_drewN | apply Kd.R_drew)); exact HL260_0.out) hb)
                                      have n3_ := Aside0.mk (blk_below (g := gb251) (o := .cells #[.int .u64 x252000_3, .int .u64 x252001_3, .bool x252002_3, .int .u32 x252003_3, .int .u8 x252004_3, .int .i64 x252005_3, .int .u16 x252006_3, .int .u16 x252007_3] 31 (0, 0)) (by (with_reducible repeat (first | refine blk_drewN ?_ _ | refine blk_drew ?_ | refine blk_alloc ?_ _)); exact BK251.out) hb)
                                      have n4_ := Aside0.mk (Kd.C_below (by repeat (first | (with_reducible exact HR260_0.out) | (with_reducible refine Kd.C_alloc ?_ _) | (with_reducible refine Kd.C_drewN ?_ _) | (with_reducible refine Kd.C_drew ?_) | exact HR260_0.out)) hb)
                                      have n5_ := Aside0.mk (blk_below (g := gb270) (o := .cells #[.int .u64 0, .int .u64 0, .bool false, .int .u32 0, .int .u8 0, .int .i64 0, .int .u16 0, .int .u16 0] 31 (0, 0)) (by (with_reducible repeat (first | refine blk_drewN ?_ _ | refine blk_drew ?_ | refine blk_alloc ?_ _)); exact BK270.out) hb)
                                      have n6_ := Aside0.mk (below_step (by repeat (first | (with_reducible first | exact HB.out | apply below_alloc | apply pw_below_drewN | apply below_drew1 | refine below_set ?_ GE251.out | refine below_set ?_ GE270.out) | exact HB.out)) hb)
                                      clear HO_5
                                      clear HO_7
                                      clear HL260_0
                                      clear BK251
                                      clear HR260_0
                                      clear BK270
                                      clear HB
                                      have HO_5 := n0_
                                      have HO_7 := n1_
                                      have HL260_0 := n2_
                                      have BK251 := n3_
                                      have HR260_0 := n4_
                                      have BK270 := n5_
                                      have HB := n6_
                                      clear n0_ n1_ n2_ n3_ n4_ n5_ n6_
                                      (try clear hb)
                                      (try clear hb2)
                                      (try clear hk)
                                      (try clear hi)
                                      refine hK.out _ _ ⟨(blk_cell BK251.out 0).trans rfl, (blk_cell BK251.out 1).trans rfl, (blk_cell BK251.out 2).trans rfl, (blk_cell BK251.out 3).trans rfl, (blk_cell BK251.out 4).trans rfl, (blk_cell BK251.out 5).trans rfl, (blk_cell BK251.out 6).trans rfl, (blk_cell BK251.out 7).trans rfl, HS8_⟩ (fun hHeld => ?_)
                                      clear hK K
                                      refine norm_ (a' := ?_) ?_ ?_
                                      rotate_left
                                      · show Act.put _ (some 61) _ = _
                                        simp only [Act.put, List.setIfInBounds_toArray, List.set_cons_zero, List.set_cons_succ, i64_w, i32_w]
                                        rfl
                                      refine pure_ (i := 6) (N := some 55) (v := ?_) (a' := ?_) #[true, true, true, true, true, true, true, false, false, true, false, false] rfl rfl (any_of HT_.out (by kernel_rfl)) (fun _ _ _ h => h) (Or.inl ⟨by rfl, ?_⟩) ?_ ?_
                                      rotate_left
                                      · intro w'
                                        go_simp
                                        with_reducible rfl
                                      rotate_left
                                      · simp only [Act.put, List.setIfInBounds_toArray, List.set_cons_zero, List.set_cons_succ, i64_w, i32_w]
                                        rfl
                                      refine pure_ (i := 7) (N := some 62) (v := ?_) (a' := ?_) #[true, true, true, true, true, true, true, true, false, true, false, false] rfl rfl (any_of HT_.out (by kernel_rfl)) (fun _ _ _ h => h) (Or.inl ⟨by rfl, ?_⟩) ?_ ?_
                                      rotate_left
                                      · intro w'
                                        go_simp
                                        with_reducible rfl
                                      rotate_left
                                      · simp only [Act.put, List.setIfInBounds_toArray, List.set_cons_zero, List.set_cons_succ, i64_w, i32_w]
                                        rfl
                                      refine pure_ (i := 8) (N := some 63) (v := ?_) (a' := ?_) #[true, true, true, true, true, true, true, true, true, true, false, false] rfl rfl (any_of HT_.out (by kernel_rfl)) (fun _ _ _ h => h) (Or.inl ⟨by rfl, ?_⟩) ?_ ?_
                                      rotate_left
                                      · intro w'
                                        go_simp
                                        with_reducible rfl
                                      rotate_left
                                      · simp only [Act.put, List.setIfInBounds_toArray, List.set_cons_zero, List.set_cons_succ, i64_w, i32_w]
                                        rfl
                                      exact norm_ (by simp only [putAll, Act.put, List.setIfInBounds_toArray, List.set_cons_zero, List.set_cons_succ]) (hCont (gb270) _ ⟨hHeld, (by (with_reducible repeat (first | apply Kd.R_alloc | apply Kd.R_drewN | apply Kd.R_drew)); exact Kd.R_mono HL260_0.out (fun _ hk => hk.2)), (by (with_reducible repeat (first | apply Kd.R_alloc | apply Kd.R_drewN | apply Kd.R_drew)); exact HO_5.out), (by (with_reducible repeat (first | apply Kd.S_alloc | apply Kd.S_drewN | apply Kd.S_drew)); exact HO_7.out), (by (with_reducible repeat (first | refine blk_drewN ?_ _ | refine blk_drew ?_ | refine blk_alloc ?_ _)); exact BK251.out), (by (with_reducible repeat (first | refine blk_drewN ?_ _ | refine blk_drew ?_ | refine blk_alloc ?_ _)); exact BK270.out), GW270.out, GE270.out, NB251_270.out, NB270_251.out, (by repeat (first | (with_reducible first | exact HB.out | apply below_alloc | apply pw_below_drewN | apply below_drew1 | refine below_set ?_ GE251.out | refine below_set ?_ GE270.out) | exact HB.out))⟩)
                                  rintro gb270 w41 ⟨hS_, h0_, h1_, h2_, h3_, h4_, h5_, h6_, h7_, h8_, h9_⟩
                                  have n0_ : Aside0 (Kd.R (Kd.int .u8) 5 w41 w.heap.size (fun k_ => some k_ ≠ (.slice (some ad260) x7_2.length co38 : Value).ownBlock) (.slice A260_0 (rd_L10 x7_2 x10_3).length c260_0) (rd_L10 x7_2 x10_3)) := ⟨h0_⟩
                                  have n1_ : Aside0 (Kd.R k31 31 w41 w.heap.size (fun k_ => k_ ≠ gb251 ∧ k_ ≠ gb270) (.slice Ao26 t248.length co26) t248) := ⟨h1_⟩
                                  have n2_ : Aside0 (Kd.S (Kd.slice 5 (Kd.int .u8)) 33 w41 w.heap.size (fun _ => True) (.slice (some ad260) x7_2.length co38) x7_2) := ⟨h2_⟩
                                  have n3_ : Aside0 (w41.heap[gb251]? = some (.cells #[.int .u64 x252000_3, .int .u64 x252001_3, .bool x252002_3, .int .u32 x252003_3, .int .u8 x252004_3, .int .i64 x252005_3, .int .u16 x252006_3, .int .u16 x252007_3] 31 (0, 0))) := ⟨h3_⟩
                                  have n4_ : Aside0 (w41.heap[gb270]? = some (.cells #[.int .u64 0, .int .u64 0, .bool false, .int .u32 0, .int .u8 0, .int .i64 0, .int .u16 0, .int .u16 0] 31 (0, 0))) := ⟨h4_⟩
                                  have n5_ : Aside0 (w.heap.size ≤ gb270) := ⟨h5_⟩
                                  have n6_ : Aside0 (w.heap.size ≤ gb270) := ⟨h6_⟩
                                  have n7_ : Aside0 (gb251 ≠ gb270) := ⟨h7_⟩
                                  have n8_ : Aside0 (gb270 ≠ gb251) := ⟨h8_⟩
                                  have n9_ : Aside0 (Below w.heap.size w w41) := ⟨h9_⟩
                                  clear HO_5
                                  clear HO_7
                                  clear BK251
                                  clear HB
                                  clear h0_ h1_ h2_ h3_ h4_ h5_ h6_ h7_ h8_ h9_
                                  have HL260_0 := n0_
                                  have HO_5 := n1_
                                  have HO_7 := n2_
                                  have BK251 := n3_
                                  have BK270 := n4_
                                  have GW270 := n5_
                                  have GE270 := n6_
                                  have NB251_270 := n7_
                                  have NB270_251 := n8_
                                  have HB := n9_
                                  clear n0_ n1_ n2_ n3_ n4_ n5_ n6_ n7_ n8_ n9_
                                  have hHeld : w41.cell? ⟨gb251, 0, none⟩ = some (.int .u64 x252000_3) ∧ w41.cell? ⟨gb251, 1, none⟩ = some (.int .u64 x252001_3) ∧ w41.cell? ⟨gb251, 2, none⟩ = some (.bool x252002_3) ∧ w41.cell? ⟨gb251, 3, none⟩ = some (.int .u32 x252003_3) ∧ w41.cell? ⟨gb251, 4, none⟩ = some (.int .u8 x252004_3) ∧ w41.cell? ⟨gb251, 5, none⟩ = some (.int .i64 x252005_3) ∧ w41.cell? ⟨gb251, 6, none⟩ = some (.int .u16 x252006_3) ∧ w41.cell? ⟨gb251, 7, none⟩ = some (.int .u16 x252007_3) ∧ w41.cell? (ad260.add (x10_3).toNat) = some (.slice A260_0 (rd_L10 x7_2 x10_3).length c260_0) := hS_
                                  refine norm_ (a' := ?_) ?_ ?_
                                  rotate_left
                                  · simp only [putAll, Act.put, List.setIfInBounds_toArray, List.set_cons_zero, List.set_cons_succ]
                                    rfl
                                  refine one_ (i := 10) (N := none) #[true, true, true, true, true, true, true, true, true, true, true, false] rfl rfl (one_of HT_.out (by kernel_rfl)) (by decide) (fun K hK => ?_)
                                  have hs42 : w41.cell? ⟨gb270, 0, none⟩ = some (.int .u64 0) := (blk_cell BK270.out 0).trans rfl
                                  have hfs42 := blk_frozen BK270.out 0
                                  have hns42_0 := NB251_270.out
                                  have hms42_0 := NB270_251.out
                                  have hs43 : w41.cell? ⟨gb270, 1, none⟩ = some (.int .u64 0) := (blk_cell BK270.out 1).trans rfl
                                  have hfs43 := blk_frozen BK270.out 1
                                  have hns43_0 := NB251_270.out
                                  have hms43_0 := NB270_251.out
                                  have hs44 : w41.cell? ⟨gb270, 2, none⟩ = some (.bool false) := (blk_cell BK270.out 2).trans rfl
                                  have hfs44 := blk_frozen BK270.out 2
                                  have hns44_0 := NB251_270.out
                                  have hms44_0 := NB270_251.out
                                  have hs45 : w41.cell? ⟨gb270, 3, none⟩ = some (.int .u32 0) := (blk_cell BK270.out 3).trans rfl
                                  have hfs45 := blk_frozen BK270.out 3
                                  have hns45_0 := NB251_270.out
                                  have hms45_0 := NB270_251.out
                                  have hs46 : w41.cell? ⟨gb270, 4, none⟩ = some (.int .u8 0) := (blk_cell BK270.out 4).trans rfl
                                  have hfs46 := blk_frozen BK270.out 4
                                  have hns46_0 := NB251_270.out
                                  have hms46_0 := NB270_251.out
                                  have hs47 : w41.cell? ⟨gb270, 5, none⟩ = some (.int .i64 0) := (blk_cell BK270.out 5).trans rfl
                                  have hfs47 := blk_frozen BK270.out 5
                                  have hns47_0 := NB251_270.out
                                  have hms47_0 := NB270_251.out
                                  have hs48 : w41.cell? ⟨gb270, 6, none⟩ = some (.int .u16 0) := (blk_cell BK270.out 6).trans rfl
                                  have hfs48 := blk_frozen BK270.out 6
                                  have hns48_0 := NB251_270.out
                                  have hms48_0 := NB270_251.out
                                  have hs49 : w41.cell? ⟨gb270, 7, none⟩ = some (.int .u16 0) := (blk_cell BK270.out 7).trans rfl
                                  have hfs49 := blk_frozen BK270.out 7
                                  have hns49_0 := NB251_270.out
                                  have hms49_0 := NB270_251.out
                                  refine skip_ (w1 := ?_) (by rfl) rfl ?_ ?_
                                  rotate_left
                                  · go_simp
                                    rfl
                                  refine hK.out _ _ ⟨((cell_far (p := ⟨gb270, _, none⟩) NB251_270.out _).trans (((cell_far (p := ⟨gb270, _, none⟩) NB251_270.out _).trans (((cell_far (p := ⟨gb270, _, none⟩) NB251_270.out _).trans (((cell_far (p := ⟨gb270, _, none⟩) NB251_270.out _).trans (((cell_far (p := ⟨gb270, _, none⟩) NB251_270.out _).trans (((cell_far (p := ⟨gb270, _, none⟩) NB251_270.out _).trans (((cell_far (p := ⟨gb270, _, none⟩) NB251_270.out _).trans (((cell_far (p := ⟨gb270, _, none⟩) NB251_270.out _).trans (hHeld.1)))))))))))))))), ((cell_far (p := ⟨gb270, _, none⟩) NB251_270.out _).trans (((cell_far (p := ⟨gb270, _, none⟩) NB251_270.out _).trans (((cell_far (p := ⟨gb270, _, none⟩) NB251_270.out _).trans (((cell_far (p := ⟨gb270, _, none⟩) NB251_270.out _).trans (((cell_far (p := ⟨gb270, _, none⟩) NB251_270.out _).trans (((cell_far (p := ⟨gb270, _, none⟩) NB251_270.out _).trans (((cell_far (p := ⟨gb270, _, none⟩) NB251_270.out _).trans (((cell_far (p := ⟨gb270, _, none⟩) NB251_270.out _).trans (hHeld.2.1)))))))))))))))), ((cell_far (p := ⟨gb270, _, none⟩) NB251_270.out _).trans (((cell_far (p := ⟨gb270, _, none⟩) NB251_270.out _).trans (((cell_far (p := ⟨gb270, _, none⟩) NB251_270.out _).trans (((cell_far (p := ⟨gb270, _, none⟩) NB251_270.out _).trans (((cell_far (p := ⟨gb270, _, none⟩) NB251_270.out _).trans (((cell_far (p := ⟨gb270, _, none⟩) NB251_270.out _).trans (((cell_far (p := ⟨gb270, _, none⟩) NB251_270.out _).trans (((cell_far (p := ⟨gb270, _, none⟩) NB251_270.out _).trans (hHeld.2.2.1)))))))))))))))), ((cell_far (p := ⟨gb270, _, none⟩) NB251_270.out _).trans (((cell_far (p := ⟨gb270, _, none⟩) NB251_270.out _).trans (((cell_far (p := ⟨gb270, _, none⟩) NB251_270.out _).trans (((cell_far (p := ⟨gb270, _, none⟩) NB251_270.out _).trans (((cell_far (p := ⟨gb270, _, none⟩) NB251_270.out _).trans (((cell_far (p := ⟨gb270, _, none⟩) NB251_270.out _).trans (((cell_far (p := ⟨gb270, _, none⟩) NB251_270.out _).trans (((cell_far (p := ⟨gb270, _, none⟩) NB251_270.out _).trans (hHeld.2.2.2.1)))))))))))))))), ((cell_far (p := ⟨gb270, _, none⟩) NB251_270.out _).trans (((cell_far (p := ⟨gb270, _, none⟩) NB251_270.out _).trans (((cell_far (p := ⟨gb270, _, none⟩) NB251_270.out _).trans (((cell_far (p := ⟨gb270, _, none⟩) NB251_270.out _).trans (((cell_far (p := ⟨gb270, _, none⟩) NB251_270.out _).trans (((cell_far (p := ⟨gb270, _, none⟩) NB251_270.out _).trans (((cell_far (p := ⟨gb270, _, none⟩) NB251_270.out _).trans (((cell_far (p := ⟨gb270, _, none⟩) NB251_270.out _).trans (hHeld.2.2.2.2.1)))))))))))))))), ((cell_far (p := ⟨gb270, _, none⟩) NB251_270.out _).trans (((cell_far (p := ⟨gb270, _, none⟩) NB251_270.out _).trans (((cell_far (p := ⟨gb270, _, none⟩) NB251_270.out _).trans (((cell_far (p := ⟨gb270, _, none⟩) NB251_270.out _).trans (((cell_far (p := ⟨gb270, _, none⟩) NB251_270.out _).trans (((cell_far (p := ⟨gb270, _, none⟩) NB251_270.out _).trans (((cell_far (p := ⟨gb270, _, none⟩) NB251_270.out _).trans (((cell_far (p := ⟨gb270, _, none⟩) NB251_270.out _).trans (hHeld.2.2.2.2.2.1)))))))))))))))), ((cell_far (p := ⟨gb270, _, none⟩) NB251_270.out _).trans (((cell_far (p := ⟨gb270, _, none⟩) NB251_270.out _).trans (((cell_far (p := ⟨gb270, _, none⟩) NB251_270.out _).trans (((cell_far (p := ⟨gb270, _, none⟩) NB251_270.out _).trans (((cell_far (p := ⟨gb270, _, none⟩) NB251_270.out _).trans (((cell_far (p := ⟨gb270, _, none⟩) NB251_270.out _).trans (((cell_far (p := ⟨gb270, _, none⟩) NB251_270.out _).trans (((cell_far (p := ⟨gb270, _, none⟩) NB251_270.out _).trans (hHeld.2.2.2.2.2.2.1)))))))))))))))), ((cell_far (p := ⟨gb270, _, none⟩) NB251_270.out _).trans (((cell_far (p := ⟨gb270, _, none⟩) NB251_270.out _).trans (((cell_far (p := ⟨gb270, _, none⟩) NB251_270.out _).trans (((cell_far (p := ⟨gb270, _, none⟩) NB251_270.out _).trans (((cell_far (p := ⟨gb270, _, none⟩) NB251_270.out _).trans (((cell_far (p := ⟨gb270, _, none⟩) NB251_270.out _).trans (((cell_far (p := ⟨gb270, _, none⟩) NB251_270.out _).trans (((cell_far (p := ⟨gb270, _, none⟩) NB251_270.out _).trans (hHeld.2.2.2.2.2.2.2.1)))))))))))))))), ((cell_far (p := ⟨gb270, _, none⟩) (by first | exact Kd.own_blk (Kd.S_ne HO_7.out BK270.out (by decide)) | (rw [add_block]; exact Kd.own_blk (Kd.S_ne HO_7.out BK270.out (by decide))) | (show (Addr.add _ _).block ≠ _; rw [add_block]; exact Kd.own_blk (Kd.S_ne HO_7.out BK270.out (by decide))) | (dsimp only; exact Kd.own_blk (Kd.S_ne HO_7.out BK270.out (by decide)))) _).trans (((cell_far (p := ⟨gb270, _, none⟩) (by first | exact Kd.own_blk (Kd.S_ne HO_7.out BK270.out (by decide)) | (rw [add_block]; exact Kd.own_blk (Kd.S_ne HO_7.out BK270.out (by decide))) | (show (Addr.add _ _).block ≠ _; rw [add_block]; exact Kd.own_blk (Kd.S_ne HO_7.out BK270.out (by decide))) | (dsimp only; exact Kd.own_blk (Kd.S_ne HO_7.out BK270.out (by decide)))) _).trans (((cell_far (p := ⟨gb270, _, none⟩) (by first | exact Kd.own_blk (Kd.S_ne HO_7.out BK270.out (by decide)) | (rw [add_block]; exact Kd.own_blk (Kd.S_ne HO_7.out BK270.out (by decide))) | (show (Addr.add _ _).block ≠ _; rw [add_block]; exact Kd.own_blk (Kd.S_ne HO_7.out BK270.out (by decide))) | (dsimp only; exact Kd.own_blk (Kd.S_ne HO_7.out BK270.out (by decide)))) _).trans (((cell_far (p := ⟨gb270, _, none⟩) (by first | exact Kd.own_blk (Kd.S_ne HO_7.out BK270.out (by decide)) | (rw [add_block]; exact Kd.own_blk (Kd.S_ne HO_7.out BK270.out (by decide))) | (show (Addr.add _ _).block ≠ _; rw [add_block]; exact Kd.own_blk (Kd.S_ne HO_7.out BK270.out (by decide))) | (dsimp only; exact Kd.own_blk (Kd.S_ne HO_7.out BK270.out (by decide)))) _).trans (((cell_far (p := ⟨gb270, _, none⟩) (by first | exact Kd.own_blk (Kd.S_ne HO_7.out BK270.out (by decide)) | (rw [add_block]; exact Kd.own_blk (Kd.S_ne HO_7.out BK270.out (by decide))) | (show (Addr.add _ _).block ≠ _; rw [add_block]; exact Kd.own_blk (Kd.S_ne HO_7.out BK270.out (by decide))) | (dsimp only; exact Kd.own_blk (Kd.S_ne HO_7.out BK270.out (by decide)))) _).trans (((cell_far (p := ⟨gb270, _, none⟩) (by first | exact Kd.own_blk (Kd.S_ne HO_7.out BK270.out (by decide)) | (rw [add_block]; exact Kd.own_blk (Kd.S_ne HO_7.out BK270.out (by decide))) | (show (Addr.add _ _).block ≠ _; rw [add_block]; exact Kd.own_blk (Kd.S_ne HO_7.out BK270.out (by decide))) | (dsimp only; exact Kd.own_blk (Kd.S_ne HO_7.out BK270.out (by decide)))) _).trans (((cell_far (p := ⟨gb270, _, none⟩) (by first | exact Kd.own_blk (Kd.S_ne HO_7.out BK270.out (by decide)) | (rw [add_block]; exact Kd.own_blk (Kd.S_ne HO_7.out BK270.out (by decide))) | (show (Addr.add _ _).block ≠ _; rw [add_block]; exact Kd.own_blk (Kd.S_ne HO_7.out BK270.out (by decide))) | (dsimp only; exact Kd.own_blk (Kd.S_ne HO_7.out BK270.out (by decide)))) _).trans (((cell_far (p := ⟨gb270, _, none⟩) (by first | exact Kd.own_blk (Kd.S_ne HO_7.out BK270.out (by decide)) | (rw [add_block]; exact Kd.own_blk (Kd.S_ne HO_7.out BK270.out (by decide))) | (show (Addr.add _ _).block ≠ _; rw [add_block]; exact Kd.own_blk (Kd.S_ne HO_7.out BK270.out (by decide))) | (dsimp only; exact Kd.own_blk (Kd.S_ne HO_7.out BK270.out (by decide)))) _).trans (hHeld.2.2.2.2.2.2.2.2))))))))))))))))⟩ (fun hHeld => ?_)
                                  clear hK K
                                  refine pure_ (i := 11) (N := some 12) (v := ?_) (a' := ?_) #[true, true, true, true, true, true, true, true, true, true, true, true] rfl rfl (any_of HT_.out (by kernel_rfl)) (fun _ _ _ h => h) (Or.inl ⟨by rfl, ?_⟩) ?_ ?_
                                  rotate_left
                                  · intro w'
                                    go_simp
                                    with_reducible rfl
                                  rotate_left
                                  · simp only [Act.put, List.setIfInBounds_toArray, List.set_cons_zero, List.set_cons_succ, i64_w, i32_w]
                                    rfl
                                  refine done_ (done_of HT_.out (by kernel_rfl)) ?_
                                  try go_wp2
                                  have n0_ : Aside0 (Kd.R k31 31 ((((((((w41.setCell ⟨gb270, 0, none⟩ (.int .u64 t261)).setCell ⟨gb270, 1, none⟩ (.int .u64 t262)).setCell ⟨gb270, 2, none⟩ (.bool t263)).setCell ⟨gb270, 3, none⟩ (.int .u32 t264)).setCell ⟨gb270, 4, none⟩ (.int .u8 t265)).setCell ⟨gb270, 5, none⟩ (.int .i64 t266)).setCell ⟨gb270, 6, none⟩ (.int .u16 t267)).setCell ⟨gb270, 7, none⟩ (.int .u16 t268)) w.heap.size (fun k_ => k_ ≠ gb251 ∧ k_ ≠ gb270) (.slice Ao26 t248.length co26) t248) := ⟨by (with_reducible repeat (first | apply Kd.R_alloc | apply Kd.R_drewN | apply Kd.R_drew)); exact Kd.R_mono (Kd.R_far (p := ⟨gb270, 7, none⟩) (Kd.R_far (p := ⟨gb270, 6, none⟩) (Kd.R_far (p := ⟨gb270, 5, none⟩) (Kd.R_far (p := ⟨gb270, 4, none⟩) (Kd.R_far (p := ⟨gb270, 3, none⟩) (Kd.R_far (p := ⟨gb270, 2, none⟩) (Kd.R_far (p := ⟨gb270, 1, none⟩) (Kd.R_far (p := ⟨gb270, 0, none⟩) (Kd.R_mono HO_5.out (fun k_ hk => (⟨hk, hk.2⟩ : _ ∧ k_ ≠ gb270))) (fun _ hk => hk.2) (.int .u64 t261)) (fun _ hk => hk.2) (.int .u64 t262)) (fun _ hk => hk.2) (.bool t263)) (fun _ hk => hk.2) (.int .u32 t264)) (fun _ hk => hk.2) (.int .u8 t265)) (fun _ hk => hk.2) (.int .i64 t266)) (fun _ hk => hk.2) (.int .u16 t267)) (fun _ hk => hk.2) (.int .u16 t268)) (fun _ hk => ⟨hk.1.1, hk.1.2⟩)⟩
                                  have n1_ : Aside0 (Kd.S (Kd.slice 5 (Kd.int .u8)) 33 ((((((((w41.setCell ⟨gb270, 0, none⟩ (.int .u64 t261)).setCell ⟨gb270, 1, none⟩ (.int .u64 t262)).setCell ⟨gb270, 2, none⟩ (.bool t263)).setCell ⟨gb270, 3, none⟩ (.int .u32 t264)).setCell ⟨gb270, 4, none⟩ (.int .u8 t265)).setCell ⟨gb270, 5, none⟩ (.int .i64 t266)).setCell ⟨gb270, 6, none⟩ (.int .u16 t267)).setCell ⟨gb270, 7, none⟩ (.int .u16 t268)) w.heap.size (fun _ => True) (.slice (some ad260) x7_2.length co38) x7_2) := ⟨by (with_reducible repeat (first | apply Kd.S_alloc | apply Kd.S_drewN | apply Kd.S_drew)); exact Kd.S_mono (Kd.S_far (p := ⟨gb270, 7, none⟩) (Kd.S_far (p := ⟨gb270, 6, none⟩) (Kd.S_far (p := ⟨gb270, 5, none⟩) (Kd.S_far (p := ⟨gb270, 4, none⟩) (Kd.S_far (p := ⟨gb270, 3, none⟩) (Kd.S_far (p := ⟨gb270, 2, none⟩) (Kd.S_far (p := ⟨gb270, 1, none⟩) (Kd.S_far (p := ⟨gb270, 0, none⟩) (Kd.S_types HO_7.out BK270.out (by decide)) (fun _ hk => hk.2) (.int .u64 t261)) (fun _ hk => hk.2) (.int .u64 t262)) (fun _ hk => hk.2) (.bool t263)) (fun _ hk => hk.2) (.int .u32 t264)) (fun _ hk => hk.2) (.int .u8 t265)) (fun _ hk => hk.2) (.int .i64 t266)) (fun _ hk => hk.2) (.int .u16 t267)) (fun _ hk => hk.2) (.int .u16 t268)) (fun _ hk => trivial)⟩
                                  have n2_ : Aside0 (Kd.R (Kd.int .u8) 5 ((((((((w41.setCell ⟨gb270, 0, none⟩ (.int .u64 t261)).setCell ⟨gb270, 1, none⟩ (.int .u64 t262)).setCell ⟨gb270, 2, none⟩ (.bool t263)).setCell ⟨gb270, 3, none⟩ (.int .u32 t264)).setCell ⟨gb270, 4, none⟩ (.int .u8 t265)).setCell ⟨gb270, 5, none⟩ (.int .i64 t266)).setCell ⟨gb270, 6, none⟩ (.int .u16 t267)).setCell ⟨gb270, 7, none⟩ (.int .u16 t268)) w.heap.size (fun k_ => some k_ ≠ (.slice (some ad260) x7_2.length co38 : Value).ownBlock) (.slice A260_0 (rd_L10 x7_2 x10_3).length c260_0) (rd_L10 x7_2 x10_3)) := ⟨by (with_reducible repeat (first | apply Kd.R_alloc | apply Kd.R_drewN | apply Kd.R_drew)); exact Kd.R_mono (Kd.R_far (p := ⟨gb270, 7, none⟩) (Kd.R_far (p := ⟨gb270, 6, none⟩) (Kd.R_far (p := ⟨gb270, 5, none⟩) (Kd.R_far (p := ⟨gb270, 4, none⟩) (Kd.R_far (p := ⟨gb270, 3, none⟩) (Kd.R_far (p := ⟨gb270, 2, none⟩) (Kd.R_far (p := ⟨gb270, 1, none⟩) (Kd.R_far (p := ⟨gb270, 0, none⟩) (Kd.R_types HL260_0.out BK270.out (by decide)) (fun _ hk => hk.2) (.int .u64 t261)) (fun _ hk => hk.2) (.int .u64 t262)) (fun _ hk => hk.2) (.bool t263)) (fun _ hk => hk.2) (.int .u32 t264)) (fun _ hk => hk.2) (.int .u8 t265)) (fun _ hk => hk.2) (.int .i64 t266)) (fun _ hk => hk.2) (.int .u16 t267)) (fun _ hk => hk.2) (.int .u16 t268)) (fun _ hk => hk.1)⟩
                                  have n3_ : Aside0 (((((((((w41.setCell ⟨gb270, 0, none⟩ (.int .u64 t261)).setCell ⟨gb270, 1, none⟩ (.int .u64 t262)).setCell ⟨gb270, 2, none⟩ (.bool t263)).setCell ⟨gb270, 3, none⟩ (.int .u32 t264)).setCell ⟨gb270, 4, none⟩ (.int .u8 t265)).setCell ⟨gb270, 5, none⟩ (.int .i64 t266)).setCell ⟨gb270, 6, none⟩ (.int .u16 t267)).setCell ⟨gb270, 7, none⟩ (.int .u16 t268)).heap[gb251]? = some (.cells #[.int .u64 x252000_3, .int .u64 x252001_3, .bool x252002_3, .int .u32 x252003_3, .int .u8 x252004_3, .int .i64 x252005_3, .int .u16 x252006_3, .int .u16 x252007_3] 31 (0, 0))) := ⟨by (with_reducible repeat (first | refine blk_drewN ?_ _ | refine blk_drew ?_ | refine blk_alloc ?_ _)); refine blk_far ?_ NB251_270.out _; (with_reducible repeat (first | refine blk_drewN ?_ _ | refine blk_drew ?_ | refine blk_alloc ?_ _)); refine blk_far ?_ NB251_270.out _; (with_reducible repeat (first | refine blk_drewN ?_ _ | refine blk_drew ?_ | refine blk_alloc ?_ _)); refine blk_far ?_ NB251_270.out _; (with_reducible repeat (first | refine blk_drewN ?_ _ | refine blk_drew ?_ | refine blk_alloc ?_ _)); refine blk_far ?_ NB251_270.out _; (with_reducible repeat (first | refine blk_drewN ?_ _ | refine blk_drew ?_ | refine blk_alloc ?_ _)); refine blk_far ?_ NB251_270.out _; (with_reducible repeat (first | refine blk_drewN ?_ _ | refine blk_drew ?_ | refine blk_alloc ?_ _)); refine blk_far ?_ NB251_270.out _; (with_reducible repeat (first | refine blk_drewN ?_ _ | refine blk_drew ?_ | refine blk_alloc ?_ _)); refine blk_far ?_ NB251_270.out _; (with_reducible repeat (first | refine blk_drewN ?_ _ | refine blk_drew ?_ | refine blk_alloc ?_ _)); refine blk_far ?_ NB251_270.out _; (with_reducible repeat (first | refine blk_drewN ?_ _ | refine blk_drew ?_ | refine blk_alloc ?_ _)); exact BK251.out⟩
                                  have n4_ : Aside0 (((((((((w41.setCell ⟨gb270, 0, none⟩ (.int .u64 t261)).setCell ⟨gb270, 1, none⟩ (.int .u64 t262)).setCell ⟨gb270, 2, none⟩ (.bool t263)).setCell ⟨gb270, 3, none⟩ (.int .u32 t264)).setCell ⟨gb270, 4, none⟩ (.int .u8 t265)).setCell ⟨gb270, 5, none⟩ (.int .i64 t266)).setCell ⟨gb270, 6, none⟩ (.int .u16 t267)).setCell ⟨gb270, 7, none⟩ (.int .u16 t268)).heap[gb270]? = some (.cells #[.int .u64 t261, .int .u64 t262, .bool t263, .int .u32 t264, .int .u8 t265, .int .i64 t266, .int .u16 t267, .int .u16 t268] 31 (0, 0))) := ⟨by (with_reducible repeat (first | refine blk_drewN ?_ _ | refine blk_drew ?_ | refine blk_alloc ?_ _)); refine blk_put (cs := #[.int .u64 t261, .int .u64 t262, .bool t263, .int .u32 t264, .int .u8 t265, .int .i64 t266, .int .u16 t267, .int .u16 0]) ?_ 7 _ rfl; (with_reducible repeat (first | refine blk_drewN ?_ _ | refine blk_drew ?_ | refine blk_alloc ?_ _)); refine blk_put (cs := #[.int .u64 t261, .int .u64 t262, .bool t263, .int .u32 t264, .int .u8 t265, .int .i64 t266, .int .u16 0, .int .u16 0]) ?_ 6 _ rfl; (with_reducible repeat (first | refine blk_drewN ?_ _ | refine blk_drew ?_ | refine blk_alloc ?_ _)); refine blk_put (cs := #[.int .u64 t261, .int .u64 t262, .bool t263, .int .u32 t264, .int .u8 t265, .int .i64 0, .int .u16 0, .int .u16 0]) ?_ 5 _ rfl; (with_reducible repeat (first | refine blk_drewN ?_ _ | refine blk_drew ?_ | refine blk_alloc ?_ _)); refine blk_put (cs := #[.int .u64 t261, .int .u64 t262, .bool t263, .int .u32 t264, .int .u8 0, .int .i64 0, .int .u16 0, .int .u16 0]) ?_ 4 _ rfl; (with_reducible repeat (first | refine blk_drewN ?_ _ | refine blk_drew ?_ | refine blk_alloc ?_ _)); refine blk_put (cs := #[.int .u64 t261, .int .u64 t262, .bool t263, .int .u32 0, .int .u8 0, .int .i64 0, .int .u16 0, .int .u16 0]) ?_ 3 _ rfl; (with_reducible repeat (first | refine blk_drewN ?_ _ | refine blk_drew ?_ | refine blk_alloc ?_ _)); refine blk_put (cs := #[.int .u64 t261, .int .u64 t262, .bool false, .int .u32 0, .int .u8 0, .int .i64 0, .int .u16 0, .int .u16 0]) ?_ 2 _ rfl; (with_reducible repeat (first | refine blk_drewN ?_ _ | refine blk_drew ?_ | refine blk_alloc ?_ _)); refine blk_put (cs := #[.int .u64 t261, .int .u64 0, .bool false, .int .u32 0, .int .u8 0, .int .i64 0, .int .u16 0, .int .u16 0]) ?_ 1 _ rfl; (with_reducible repeat (first | refine blk_drewN ?_ _ | refine blk_drew ?_ | refine blk_alloc ?_ _)); refine blk_put (cs := #[.int .u64 0, .int .u64 0, .bool false, .int .u32 0, .int .u8 0, .int .i64 0, .int .u16 0, .int .u16 0]) ?_ 0 _ rfl; (with_reducible repeat (first | refine blk_drewN ?_ _ | refine blk_drew ?_ | refine blk_alloc ?_ _)); exact BK270.out⟩
                                  have n5_ : Aside0 (Below w.heap.size w ((((((((w41.setCell ⟨gb270, 0, none⟩ (.int .u64 t261)).setCell ⟨gb270, 1, none⟩ (.int .u64 t262)).setCell ⟨gb270, 2, none⟩ (.bool t263)).setCell ⟨gb270, 3, none⟩ (.int .u32 t264)).setCell ⟨gb270, 4, none⟩ (.int .u8 t265)).setCell ⟨gb270, 5, none⟩ (.int .i64 t266)).setCell ⟨gb270, 6, none⟩ (.int .u16 t267)).setCell ⟨gb270, 7, none⟩ (.int .u16 t268))) := ⟨by repeat (first | (with_reducible first | exact HB.out | apply below_alloc | apply pw_below_drewN | apply below_drew1 | refine below_set ?_ GE251.out | refine below_set ?_ GE270.out) | exact HB.out)⟩
                                  (try clear HO_5)
                                  (try clear HO_7)
                                  (try clear HL260_0)
                                  (try clear BK251)
                                  (try clear BK270)
                                  (try clear HB)
                                  generalize ((((((((w41.setCell ⟨gb270, 0, none⟩ (.int .u64 t261)).setCell ⟨gb270, 1, none⟩ (.int .u64 t262)).setCell ⟨gb270, 2, none⟩ (.bool t263)).setCell ⟨gb270, 3, none⟩ (.int .u32 t264)).setCell ⟨gb270, 4, none⟩ (.int .u8 t265)).setCell ⟨gb270, 5, none⟩ (.int .i64 t266)).setCell ⟨gb270, 6, none⟩ (.int .u16 t267)).setCell ⟨gb270, 7, none⟩ (.int .u16 t268)) = w50 at n0_ n1_ n2_ n3_ n4_ n5_ ⊢
                                  have HO_5 := n0_
                                  have HO_7 := n1_
                                  have HL260_0 := n2_
                                  have BK251 := n3_
                                  have BK270 := n4_
                                  have HB := n5_
                                  clear n0_ n1_ n2_ n3_ n4_ n5_
                                  have n0_ := Aside0.mk (Kd.R_drew HO_5.out)
                                  have n1_ := Aside0.mk (Kd.S_drew HO_7.out)
                                  have n2_ := Aside0.mk (Kd.R_drew HL260_0.out)
                                  have n3_ := Aside0.mk (blk_drew BK251.out)
                                  have n4_ := Aside0.mk (blk_drew BK270.out)
                                  have n5_ := Aside0.mk (below_drew1 HB.out)
                                  clear HO_5
                                  clear HO_7
                                  clear HL260_0
                                  clear BK251
                                  clear BK270
                                  clear HB
                                  have HO_5 := n0_
                                  have HO_7 := n1_
                                  have HL260_0 := n2_
                                  have BK251 := n3_
                                  have BK270 := n4_
                                  have HB := n5_
                                  clear n0_ n1_ n2_ n3_ n4_ n5_
                                  have p271 : 0 ≤ (x10_3 : Int) := of_decide_eq_true (by first | (with_reducible assumption) | assumption)
                                  have q271 : x10_3 < (t248.length : Int) := of_decide_eq_true (by first | (with_reducible assumption) | assumption)
                                  obtain ⟨ad271, e271, hx271_0, hx271_1, hx271_2, hx271_3, hx271_4, hx271_5, hx271_6, hx271_7⟩ := at_T31 (Kd.R_reads' HO_5.out).2.2 x10_3 p271 q271
                                  cases e271
                                  replace p271 := eq_true p271
                                  replace q271 := eq_true q271
                                  refine start_ (n := 16) (S := fun w' => w'.cell? ⟨gb270, 0, none⟩ = some (.int .u64 t261) ∧ w'.cell? ⟨gb270, 1, none⟩ = some (.int .u64 t262) ∧ w'.cell? ⟨gb270, 2, none⟩ = some (.bool t263) ∧ w'.cell? ⟨gb270, 3, none⟩ = some (.int .u32 t264) ∧ w'.cell? ⟨gb270, 4, none⟩ = some (.int .u8 t265) ∧ w'.cell? ⟨gb270, 5, none⟩ = some (.int .i64 t266) ∧ w'.cell? ⟨gb270, 6, none⟩ = some (.int .u16 t267) ∧ w'.cell? ⟨gb270, 7, none⟩ = some (.int .u16 t268) ∧ w'.cell? ⟨gb251, 0, none⟩ = some (.int .u64 x252000_3) ∧ w'.cell? ⟨gb251, 1, none⟩ = some (.int .u64 x252001_3) ∧ w'.cell? ⟨gb251, 2, none⟩ = some (.bool x252002_3) ∧ w'.cell? ⟨gb251, 3, none⟩ = some (.int .u32 x252003_3) ∧ w'.cell? ⟨gb251, 4, none⟩ = some (.int .u8 x252004_3) ∧ w'.cell? ⟨gb251, 5, none⟩ = some (.int .i64 x252005_3) ∧ w'.cell? ⟨gb251, 6, none⟩ = some (.int .u16 x252006_3) ∧ w'.cell? ⟨gb251, 7, none⟩ = some (.int .u16 x252007_3) ∧ w'.cell? (ad271.add ((x10_3).toNat * 8)) = some (.int .u64 ((rd_T31 t248 x10_3).f0)) ∧ w'.cell? ⟨(ad271.add ((x10_3).toNat * 8)).block, (ad271.add ((x10_3).toNat * 8)).off + 1, none⟩ = some (.int .u64 ((rd_T31 t248 x10_3).f1)) ∧ w'.cell? ⟨(ad271.add ((x10_3).toNat * 8)).block, (ad271.add ((x10_3).toNat * 8)).off + 2, none⟩ = some (.bool ((rd_T31 t248 x10_3).f2)) ∧ w'.cell? ⟨(ad271.add ((x10_3).toNat * 8)).block, (ad271.add ((x10_3).toNat * 8)).off + 3, none⟩ = some (.int .u32 ((rd_T31 t248 x10_3).f3.f0.f0)) ∧ w'.cell? ⟨(ad271.add ((x10_3).toNat * 8)).block, (ad271.add ((x10_3).toNat * 8)).off + 4, none⟩ = some (.int .u8 ((rd_T31 t248 x10_3).f3.f0.f1)) ∧ w'.cell? ⟨(ad271.add ((x10_3).toNat * 8)).block, (ad271.add ((x10_3).toNat * 8)).off + 5, none⟩ = some (.int .i64 ((rd_T31 t248 x10_3).f3.f1)) ∧ w'.cell? ⟨(ad271.add ((x10_3).toNat * 8)).block, (ad271.add ((x10_3).toNat * 8)).off + 6, none⟩ = some (.int .u16 ((rd_T31 t248 x10_3).f3.f2)) ∧ w'.cell? ⟨(ad271.add ((x10_3).toNat * 8)).block, (ad271.add ((x10_3).toNat * 8)).off + 7, none⟩ = some (.int .u16 ((rd_T31 t248 x10_3).f3.f3))) (ds := []) #[false, false, false, false, false, false, false, false, false, false, false, false, false, false, false, false] (by kernel_rfl) rfl rfl ⟨(blk_cell BK270.out 0).trans rfl, (blk_cell BK270.out 1).trans rfl, (blk_cell BK270.out 2).trans rfl, (blk_cell BK270.out 3).trans rfl, (blk_cell BK270.out 4).trans rfl, (blk_cell BK270.out 5).trans rfl, (blk_cell BK270.out 6).trans rfl, (blk_cell BK270.out 7).trans rfl, (blk_cell BK251.out 0).trans rfl, (blk_cell BK251.out 1).trans rfl, (blk_cell BK251.out 2).trans rfl, (blk_cell BK251.out 3).trans rfl, (blk_cell BK251.out 4).trans rfl, (blk_cell BK251.out 5).trans rfl, (blk_cell BK251.out 6).trans rfl, (blk_cell BK251.out 7).trans rfl, hx271_0, hx271_1, hx271_2, hx271_3, hx271_4, hx271_5, hx271_6, hx271_7⟩ (fun hHeld => ?_); refine with_tabW milestonelaw07_ChangeChains.tab17 milestonelaw07_ChangeChains.bits17 (fun HT_ HW_ => ?_)
                                  generalize w50.drew = w51 at HO_5 HO_7 HL260_0 BK251 BK270 HB hx271_0 hx271_1 hx271_2 hx271_3 hx271_4 hx271_5 hx271_6 hx271_7 hHeld ⊢
                                  refine pure_ (i := 0) (N := some 64) (v := ?_) (a' := ?_) #[true, false, false, false, false, false, false, false, false, false, false, false, false, false, false, false] rfl rfl (any_of HT_.out (by kernel_rfl)) (fun _ _ _ h => h) (Or.inl ⟨by rfl, ?_⟩) ?_ ?_
                                  rotate_left
                                  · intro w'
                                    go_simp
                                    with_reducible rfl
                                  rotate_left
                                  · simp only [Act.put, List.setIfInBounds_toArray, List.set_cons_zero, List.set_cons_succ, i64_w, i32_w]
                                    rfl
                                  refine pure_ (i := 1) (N := some 65) (v := ?_) (a' := ?_) #[true, true, false, false, false, false, false, false, false, false, false, false, false, false, false, false] rfl rfl (any_of HT_.out (by kernel_rfl)) (fun _ _ _ h => h) (Or.inl ⟨by rfl, ?_⟩) ?_ ?_
                                  rotate_left
                                  · intro w'
                                    go_simp
                                    with_reducible rfl
                                  rotate_left
                                  · simp only [Act.put, List.setIfInBounds_toArray, List.set_cons_zero, List.set_cons_succ, i64_w, i32_w]
                                    rfl
                                  refine pure_ (i := 2) (N := some 66) (v := ?_) (a' := ?_) #[true, true, true, false, false, false, false, false, false, false, false, false, false, false, false, false] rfl rfl (any_of HT_.out (by kernel_rfl)) (fun _ _ _ h => h) (Or.inl ⟨by rfl, ?_⟩) ?_ ?_
                                  rotate_left
                                  · intro w'
                                    go_simp
                                    with_reducible rfl
                                  rotate_left
                                  · simp only [Act.put, List.setIfInBounds_toArray, List.set_cons_zero, List.set_cons_succ, i64_w, i32_w]
                                    rfl
                                  refine pure_ (i := 4) (N := some 68) (v := ?_) (a' := ?_) #[true, true, true, false, true, false, false, false, false, false, false, false, false, false, false, false] rfl rfl (any_of HT_.out (by kernel_rfl)) (fun _ _ _ h => h) (Or.inl ⟨by rfl, ?_⟩) ?_ ?_
                                  rotate_left
                                  · intro w'
                                    go_simp
                                    with_reducible rfl
                                  rotate_left
                                  · simp only [Act.put, List.setIfInBounds_toArray, List.set_cons_zero, List.set_cons_succ, i64_w, i32_w]
                                    rfl
                                  refine pure_ (i := 5) (N := some 69) (v := ?_) (a' := ?_) #[true, true, true, false, true, true, false, false, false, false, false, false, false, false, false, false] rfl rfl (any_of HT_.out (by kernel_rfl)) (fun _ _ _ h => h) (Or.inl ⟨by rfl, ?_⟩) ?_ ?_
                                  rotate_left
                                  · intro w'
                                    go_simp
                                    with_reducible rfl
                                  rotate_left
                                  · simp only [Act.put, List.setIfInBounds_toArray, List.set_cons_zero, List.set_cons_succ, i64_w, i32_w]
                                    rfl
                                  refine pure_ (i := 6) (N := some 70) (v := ?_) (a' := ?_) #[true, true, true, false, true, true, true, false, false, false, false, false, false, false, false, false] rfl rfl (any_of HT_.out (by kernel_rfl)) (fun _ _ _ h => h) (Or.inl ⟨by rfl, ?_⟩) ?_ ?_
                                  rotate_left
                                  · intro w'
                                    go_simp
                                    with_reducible rfl
                                  rotate_left
                                  · simp only [Act.put, List.setIfInBounds_toArray, List.set_cons_zero, List.set_cons_succ, i64_w, i32_w]
                                    rfl
                                  refine take_ (i := 3) (N := some 67) (v := ?_) (a' := ?_) #[true, true, true, true, true, true, true, false, false, false, false, false, false, false, false, false] rfl rfl (take_ofW HT_.out HW_.out (by kernel_rfl)) (fun _ _ _ h => h) (Or.inl ⟨by rfl, ?_⟩) hHeld ?_ ?_
                                  rotate_left
                                  · rintro w' ⟨s0, s1, s2, s3, s4, s5, s6, s7, s8, s9, s10, s11, s12, s13, s14, s15, s16, s17, s18, s19, s20, s21, s22, s23⟩
                                    go_simp
                                    with_reducible rfl
                                  rotate_left
                                  · simp only [Act.put, List.setIfInBounds_toArray, List.set_cons_zero, List.set_cons_succ, i64_w, i32_w]
                                    rfl
                                  refine take_ (i := 7) (N := some 71) (v := ?_) (a' := ?_) #[true, true, true, true, true, true, true, true, false, false, false, false, false, false, false, false] rfl rfl (take_ofW HT_.out HW_.out (by kernel_rfl)) (fun _ _ _ h => h) (Or.inl ⟨by rfl, ?_⟩) hHeld ?_ ?_
                                  rotate_left
                                  · rintro w' ⟨s0, s1, s2, s3, s4, s5, s6, s7, s8, s9, s10, s11, s12, s13, s14, s15, s16, s17, s18, s19, s20, s21, s22, s23⟩
                                    go_simp
                                    with_reducible rfl
                                  rotate_left
                                  · simp only [Act.put, List.setIfInBounds_toArray, List.set_cons_zero, List.set_cons_succ, i64_w, i32_w]
                                    rfl
                                  refine pure_ (i := 8) (N := some 72) (v := ?_) (a' := ?_) #[true, true, true, true, true, true, true, true, true, false, false, false, false, false, false, false] rfl rfl (any_of HT_.out (by kernel_rfl)) (fun _ _ _ h => h) (Or.inl ⟨by rfl, ?_⟩) ?_ ?_
                                  rotate_left
                                  · intro w'
                                    go_simp
                                    with_reducible rfl
                                  rotate_left
                                  · simp only [Act.put, List.setIfInBounds_toArray, List.set_cons_zero, List.set_cons_succ, i64_w, i32_w]
                                    rfl
                                  refine pure_ (i := 9) (N := some 73) (v := ?_) (a' := ?_) #[true, true, true, true, true, true, true, true, true, true, false, false, false, false, false, false] rfl rfl (any_of HT_.out (by kernel_rfl)) (fun _ _ _ h => h) (Or.inl ⟨by rfl, ?_⟩) ?_ ?_
                                  rotate_left
                                  · intro w'
                                    go_simp
                                    with_reducible rfl
                                  rotate_left
                                  · simp only [Act.put, List.setIfInBounds_toArray, List.set_cons_zero, List.set_cons_succ, i64_w, i32_w]
                                    rfl
                                  refine pure_ (i := 10) (N := some 74) (v := ?_) (a' := ?_) #[true, true, true, true, true, true, true, true, true, true, true, false, false, false, false, false] rfl rfl (any_of HT_.out (by kernel_rfl)) (fun _ _ _ h => h) (Or.inl ⟨by rfl, ?_⟩) ?_ ?_
                                  rotate_left
                                  · intro w'
                                    go_simp
                                    with_reducible rfl
                                  rotate_left
                                  · simp only [Act.put, List.setIfInBounds_toArray, List.set_cons_zero, List.set_cons_succ, i64_w, i32_w]
                                    rfl
                                  refine take_ (i := 11) (N := some 75) (v := ?_) (a' := ?_) #[true, true, true, true, true, true, true, true, true, true, true, true, false, false, false, false] rfl rfl (take_ofW HT_.out HW_.out (by kernel_rfl)) (fun _ _ _ h => h) (Or.inl ⟨by rfl, ?_⟩) hHeld ?_ ?_
                                  rotate_left
                                  · rintro w' ⟨s0, s1, s2, s3, s4, s5, s6, s7, s8, s9, s10, s11, s12, s13, s14, s15, s16, s17, s18, s19, s20, s21, s22, s23⟩
                                    go_simp
                                    with_reducible rfl
                                  rotate_left
                                  · simp only [Act.put, List.setIfInBounds_toArray, List.set_cons_zero, List.set_cons_succ, i64_w, i32_w]
                                    rfl
                                  refine take_ (i := 12) (N := some 76) (v := ?_) (a' := ?_) #[true, true, true, true, true, true, true, true, true, true, true, true, true, false, false, false] rfl rfl (take_ofW HT_.out HW_.out (by kernel_rfl)) (fun _ _ _ h => h) (Or.inl ⟨by rfl, ?_⟩) hHeld ?_ ?_
                                  rotate_left
                                  · rintro w' ⟨s0, s1, s2, s3, s4, s5, s6, s7, s8, s9, s10, s11, s12, s13, s14, s15, s16, s17, s18, s19, s20, s21, s22, s23⟩
                                    go_simp
                                    with_reducible rfl
                                  rotate_left
                                  · simp only [Act.put, List.setIfInBounds_toArray, List.set_cons_zero, List.set_cons_succ, i64_w, i32_w]
                                    rfl
                                  refine one_ (i := 13) (N := some 77) #[true, true, true, true, true, true, true, true, true, true, true, true, true, true, false, false] rfl rfl (one_of HT_.out (by kernel_rfl)) (by decide) (fun K hK => ?_)
                                  refine goes_ Try.func25 (by kernel_rfl) rfl #[.agg #[.int .u64 x252000_3, .int .u64 x252001_3, .bool x252002_3, .int .u32 x252003_3, .int .u8 x252004_3, .int .i64 x252005_3, .int .u16 x252006_3, .int .u16 x252007_3], .agg #[.int .u64 t261, .int .u64 t262, .bool t263, .int .u32 t264, .int .u8 t265, .int .i64 t266, .int .u16 t267, .int .u16 t268]] (by rfl) rfl rfl (by (try simp only [List.map_toArray, List.map_cons, List.map_nil]); first | done | rfl | (simp only [List.length_drop, List.length_take]; rfl)) ?_
                                  with_reducible refine (change_Follows.calls x252000_3 x252001_3 x252002_3 x252003_3 x252004_3 x252005_3 x252006_3 x252007_3 t261 t262 t263 t264 t265 t266 t267 t268 true _ A35.out).mono ?_
                                  rintro e w52 ⟨rfl, hb⟩
                                  have HS16_ := (hb.cell (World.block_lt_of_cell? _ _ (hHeld.2.2.2.2.2.2.2.2.2.2.2.2.2.2.2.2.1))).trans (hHeld.2.2.2.2.2.2.2.2.2.2.2.2.2.2.2.2.1)
                                  have HS17_ := (hb.cell (World.block_lt_of_cell? _ _ (hHeld.2.2.2.2.2.2.2.2.2.2.2.2.2.2.2.2.2.1))).trans (hHeld.2.2.2.2.2.2.2.2.2.2.2.2.2.2.2.2.2.1)
                                  have HS18_ := (hb.cell (World.block_lt_of_cell? _ _ (hHeld.2.2.2.2.2.2.2.2.2.2.2.2.2.2.2.2.2.2.1))).trans (hHeld.2.2.2.2.2.2.2.2.2.2.2.2.2.2.2.2.2.2.1)
                                  have HS19_ := (hb.cell (World.block_lt_of_cell? _ _ (hHeld.2.2.2.2.2.2.2.2.2.2.2.2.2.2.2.2.2.2.2.1))).trans (hHeld.2.2.2.2.2.2.2.2.2.2.2.2.2.2.2.2.2.2.2.1)
                                  have HS20_ := (hb.cell (World.block_lt_of_cell? _ _ (hHeld.2.2.2.2.2.2.2.2.2.2.2.2.2.2.2.2.2.2.2.2.1))).trans (hHeld.2.2.2.2.2.2.2.2.2.2.2.2.2.2.2.2.2.2.2.2.1)
                                  have HS21_ := (hb.cell (World.block_lt_of_cell? _ _ (hHeld.2.2.2.2.2.2.2.2.2.2.2.2.2.2.2.2.2.2.2.2.2.1))).trans (hHeld.2.2.2.2.2.2.2.2.2.2.2.2.2.2.2.2.2.2.2.2.2.1)
                                  have HS22_ := (hb.cell (World.block_lt_of_cell? _ _ (hHeld.2.2.2.2.2.2.2.2.2.2.2.2.2.2.2.2.2.2.2.2.2.2.1))).trans (hHeld.2.2.2.2.2.2.2.2.2.2.2.2.2.2.2.2.2.2.2.2.2.2.1)
                                  have HS23_ := (hb.cell (World.block_lt_of_cell? _ _ (hHeld.2.2.2.2.2.2.2.2.2.2.2.2.2.2.2.2.2.2.2.2.2.2.2))).trans (hHeld.2.2.2.2.2.2.2.2.2.2.2.2.2.2.2.2.2.2.2.2.2.2.2)
                                  refine ⟨_, rfl, ?_⟩
                                  have n0_ := Aside0.mk (Kd.R_below (by (with_reducible repeat (first | apply Kd.R_alloc | apply Kd.R_drewN | apply Kd.R_drew)); exact HO_5.out) hb)
                                  have n1_ := Aside0.mk (Kd.S_below (by (with_reducible repeat (first | apply Kd.S_alloc | apply Kd.S_drewN | apply Kd.S_drew)); exact HO_7.out) hb)
                                  have n2_ := Aside0.mk (Kd.R_below (by (with_reducible repeat (first | apply Kd.R_alloc | apply Kd.R_drewN | apply Kd.R_drew)); exact HL260_0.out) hb)
                                  have n3_ := Aside0.mk (blk_below (g := gb251) (o := .cells #[.int .u64 x252000_3, .int .u64 x252001_3, .bool x252002_3, .int .u32 x252003_3, .int .u8 x252004_3, .int .i64 x252005_3, .int .u16 x252006_3, .int .u16 x252007_3] 31 (0, 0)) (by (with_reducible repeat (first | refine blk_drewN ?_ _ | refine blk_drew ?_ | refine blk_alloc ?_ _)); exact BK251.out) hb)
                                  have n4_ := Aside0.mk (blk_below (g := gb270) (o := .cells #[.int .u64 t261, .int .u64 t262, .bool t263, .int .u32 t264, .int .u8 t265, .int .i64 t266, .int .u16 t267, .int .u16 t268] 31 (0, 0)) (by (with_reducible repeat (first | refine blk_drewN ?_ _ | refine blk_drew ?_ | refine blk_alloc ?_ _)); exact BK270.out) hb)
                                  have n5_ := Aside0.mk (below_step (by repeat (first | (with_reducible first | exact HB.out | apply below_alloc | apply pw_below_drewN | apply below_drew1 | refine below_set ?_ GE251.out | refine below_set ?_ GE270.out) | exact HB.out)) hb)
                                  clear HO_5
                                  clear HO_7
                                  clear HL260_0
                                  clear BK251
                                  clear BK270
                                  clear HB
                                  have HO_5 := n0_
                                  have HO_7 := n1_
                                  have HL260_0 := n2_
                                  have BK251 := n3_
                                  have BK270 := n4_
                                  have HB := n5_
                                  clear n0_ n1_ n2_ n3_ n4_ n5_
                                  (try clear hb)
                                  (try clear hb2)
                                  (try clear hk)
                                  (try clear hi)
                                  refine hK.out _ _ ⟨(blk_cell BK270.out 0).trans rfl, (blk_cell BK270.out 1).trans rfl, (blk_cell BK270.out 2).trans rfl, (blk_cell BK270.out 3).trans rfl, (blk_cell BK270.out 4).trans rfl, (blk_cell BK270.out 5).trans rfl, (blk_cell BK270.out 6).trans rfl, (blk_cell BK270.out 7).trans rfl, (blk_cell BK251.out 0).trans rfl, (blk_cell BK251.out 1).trans rfl, (blk_cell BK251.out 2).trans rfl, (blk_cell BK251.out 3).trans rfl, (blk_cell BK251.out 4).trans rfl, (blk_cell BK251.out 5).trans rfl, (blk_cell BK251.out 6).trans rfl, (blk_cell BK251.out 7).trans rfl, HS16_, HS17_, HS18_, HS19_, HS20_, HS21_, HS22_, HS23_⟩ (fun hHeld => ?_)
                                  clear hK K
                                  refine norm_ (a' := ?_) ?_ ?_
                                  rotate_left
                                  · show Act.put _ (some 77) _ = _
                                    simp only [Act.put, List.setIfInBounds_toArray, List.set_cons_zero, List.set_cons_succ, i64_w, i32_w]
                                    rfl
                                  refine pure_ (i := 14) (N := some 78) (v := ?_) (a' := ?_) #[true, true, true, true, true, true, true, true, true, true, true, true, true, true, true, false] rfl rfl (any_of HT_.out (by kernel_rfl)) (fun _ _ _ h => h) (Or.inl ⟨by rfl, ?_⟩) ?_ ?_
                                  rotate_left
                                  · intro w'
                                    go_simp
                                    with_reducible rfl
                                  rotate_left
                                  · simp only [Act.put, List.setIfInBounds_toArray, List.set_cons_zero, List.set_cons_succ, i64_w, i32_w]
                                    rfl
                                  refine pure_ (i := 15) (N := some 79) (v := ?_) (a' := ?_) #[true, true, true, true, true, true, true, true, true, true, true, true, true, true, true, true] rfl rfl (any_of HT_.out (by kernel_rfl)) (fun _ _ _ h => h) (Or.inl ⟨by rfl, ?_⟩) ?_ ?_
                                  rotate_left
                                  · intro w'
                                    go_simp
                                    with_reducible rfl
                                  rotate_left
                                  · simp only [Act.put, List.setIfInBounds_toArray, List.set_cons_zero, List.set_cons_succ, i64_w, i32_w]
                                    rfl
                                  refine done_ (done_of HT_.out (by kernel_rfl)) ?_
                                  have hnb53 := NB270_251.out
                                  have hnc53 := NB251_270.out
                                  have hcz54_0 : w52.cell? ⟨gb270, 0, none⟩ = some (.int .u64 t261) := (blk_cell BK270.out 0).trans rfl
                                  have hcz54_1 : w52.cell? ⟨gb270, 1, none⟩ = some (.int .u64 t262) := (blk_cell BK270.out 1).trans rfl
                                  have hcz54_2 : w52.cell? ⟨gb270, 2, none⟩ = some (.bool t263) := (blk_cell BK270.out 2).trans rfl
                                  have hcz54_3 : w52.cell? ⟨gb270, 3, none⟩ = some (.int .u32 t264) := (blk_cell BK270.out 3).trans rfl
                                  have hcz54_4 : w52.cell? ⟨gb270, 4, none⟩ = some (.int .u8 t265) := (blk_cell BK270.out 4).trans rfl
                                  have hcz54_5 : w52.cell? ⟨gb270, 5, none⟩ = some (.int .i64 t266) := (blk_cell BK270.out 5).trans rfl
                                  have hcz54_6 : w52.cell? ⟨gb270, 6, none⟩ = some (.int .u16 t267) := (blk_cell BK270.out 6).trans rfl
                                  have hcz54_7 : w52.cell? ⟨gb270, 7, none⟩ = some (.int .u16 t268) := (blk_cell BK270.out 7).trans rfl
                                  have hfz54_0 := blk_frozen BK270.out 0
                                  have hfz54_1 := blk_frozen BK270.out 1
                                  have hfz54_2 := blk_frozen BK270.out 2
                                  have hfz54_3 := blk_frozen BK270.out 3
                                  have hfz54_4 := blk_frozen BK270.out 4
                                  have hfz54_5 := blk_frozen BK270.out 5
                                  have hfz54_6 := blk_frozen BK270.out 6
                                  have hfz54_7 := blk_frozen BK270.out 7
                                  have hcz55_0 : w52.cell? ⟨gb251, 0, none⟩ = some (.int .u64 x252000_3) := (blk_cell BK251.out 0).trans rfl
                                  have hcz55_1 : w52.cell? ⟨gb251, 1, none⟩ = some (.int .u64 x252001_3) := (blk_cell BK251.out 1).trans rfl
                                  have hcz55_2 : w52.cell? ⟨gb251, 2, none⟩ = some (.bool x252002_3) := (blk_cell BK251.out 2).trans rfl
                                  have hcz55_3 : w52.cell? ⟨gb251, 3, none⟩ = some (.int .u32 x252003_3) := (blk_cell BK251.out 3).trans rfl
                                  have hcz55_4 : w52.cell? ⟨gb251, 4, none⟩ = some (.int .u8 x252004_3) := (blk_cell BK251.out 4).trans rfl
                                  have hcz55_5 : w52.cell? ⟨gb251, 5, none⟩ = some (.int .i64 x252005_3) := (blk_cell BK251.out 5).trans rfl
                                  have hcz55_6 : w52.cell? ⟨gb251, 6, none⟩ = some (.int .u16 x252006_3) := (blk_cell BK251.out 6).trans rfl
                                  have hcz55_7 : w52.cell? ⟨gb251, 7, none⟩ = some (.int .u16 x252007_3) := (blk_cell BK251.out 7).trans rfl
                                  have hfz55_0 := blk_frozen BK251.out 0
                                  have hfz55_1 := blk_frozen BK251.out 1
                                  have hfz55_2 := blk_frozen BK251.out 2
                                  have hfz55_3 := blk_frozen BK251.out 3
                                  have hfz55_4 := blk_frozen BK251.out 4
                                  have hfz55_5 := blk_frozen BK251.out 5
                                  have hfz55_6 := blk_frozen BK251.out 6
                                  have hfz55_7 := blk_frozen BK251.out 7
                                  try go_wp2
                                  go_roundg k3
                                  case measure => have := HJ2.out; have := HK2.out; have := HK3.out; omega
                                  case rel => exact ⟨(wrap64 (x10_3 + 1)), (t261), (t262), (t263), (t264), (t265), (t266), (t267), (t268), (by first | rfl | (simp; done) | (simp [*]; done) | (refine qa_int ?_; omega) | (refine qa_int ?_; simp <;> omega)), H', ⟨by have := HJ2.out; have := HK2.out; have := HK3.out; omega⟩, ⟨by (with_reducible repeat (first | apply Kd.R_alloc | apply Kd.R_drewN | apply Kd.R_drew)); exact Kd.R_mono (Kd.R_far (p := ⟨gb251, 7, none⟩) (Kd.R_far (p := ⟨gb251, 6, none⟩) (Kd.R_far (p := ⟨gb251, 5, none⟩) (Kd.R_far (p := ⟨gb251, 4, none⟩) (Kd.R_far (p := ⟨gb251, 3, none⟩) (Kd.R_far (p := ⟨gb251, 2, none⟩) (Kd.R_far (p := ⟨gb251, 1, none⟩) (Kd.R_far (p := ⟨gb251, 0, none⟩) (Kd.R_mono HO_5.out (fun k_ hk => (⟨hk, hk.1⟩ : _ ∧ k_ ≠ gb251))) (fun _ hk => hk.2) (.int .u64 t261)) (fun _ hk => hk.2) (.int .u64 t262)) (fun _ hk => hk.2) (.bool t263)) (fun _ hk => hk.2) (.int .u32 t264)) (fun _ hk => hk.2) (.int .u8 t265)) (fun _ hk => hk.2) (.int .i64 t266)) (fun _ hk => hk.2) (.int .u16 t267)) (fun _ hk => hk.2) (.int .u16 t268)) (fun _ hk => hk.1.1)⟩, ⟨by (with_reducible repeat (first | apply Kd.S_alloc | apply Kd.S_drewN | apply Kd.S_drew)); exact Kd.S_mono (Kd.S_far (p := ⟨gb251, 7, none⟩) (Kd.S_far (p := ⟨gb251, 6, none⟩) (Kd.S_far (p := ⟨gb251, 5, none⟩) (Kd.S_far (p := ⟨gb251, 4, none⟩) (Kd.S_far (p := ⟨gb251, 3, none⟩) (Kd.S_far (p := ⟨gb251, 2, none⟩) (Kd.S_far (p := ⟨gb251, 1, none⟩) (Kd.S_far (p := ⟨gb251, 0, none⟩) (Kd.S_types HO_7.out BK251.out (by decide)) (fun _ hk => hk.2) (.int .u64 t261)) (fun _ hk => hk.2) (.int .u64 t262)) (fun _ hk => hk.2) (.bool t263)) (fun _ hk => hk.2) (.int .u32 t264)) (fun _ hk => hk.2) (.int .u8 t265)) (fun _ hk => hk.2) (.int .i64 t266)) (fun _ hk => hk.2) (.int .u16 t267)) (fun _ hk => hk.2) (.int .u16 t268)) (fun _ hk => trivial)⟩, ⟨by (with_reducible repeat (first | refine blk_drewN ?_ _ | refine blk_drew ?_ | refine blk_alloc ?_ _)); refine blk_put (cs := #[.int .u64 t261, .int .u64 t262, .bool t263, .int .u32 t264, .int .u8 t265, .int .i64 t266, .int .u16 t267, .int .u16 x252007_3]) ?_ 7 _ rfl; (with_reducible repeat (first | refine blk_drewN ?_ _ | refine blk_drew ?_ | refine blk_alloc ?_ _)); refine blk_put (cs := #[.int .u64 t261, .int .u64 t262, .bool t263, .int .u32 t264, .int .u8 t265, .int .i64 t266, .int .u16 x252006_3, .int .u16 x252007_3]) ?_ 6 _ rfl; (with_reducible repeat (first | refine blk_drewN ?_ _ | refine blk_drew ?_ | refine blk_alloc ?_ _)); refine blk_put (cs := #[.int .u64 t261, .int .u64 t262, .bool t263, .int .u32 t264, .int .u8 t265, .int .i64 x252005_3, .int .u16 x252006_3, .int .u16 x252007_3]) ?_ 5 _ rfl; (with_reducible repeat (first | refine blk_drewN ?_ _ | refine blk_drew ?_ | refine blk_alloc ?_ _)); refine blk_put (cs := #[.int .u64 t261, .int .u64 t262, .bool t263, .int .u32 t264, .int .u8 x252004_3, .int .i64 x252005_3, .int .u16 x252006_3, .int .u16 x252007_3]) ?_ 4 _ rfl; (with_reducible repeat (first | refine blk_drewN ?_ _ | refine blk_drew ?_ | refine blk_alloc ?_ _)); refine blk_put (cs := #[.int .u64 t261, .int .u64 t262, .bool t263, .int .u32 x252003_3, .int .u8 x252004_3, .int .i64 x252005_3, .int .u16 x252006_3, .int .u16 x252007_3]) ?_ 3 _ rfl; (with_reducible repeat (first | refine blk_drewN ?_ _ | refine blk_drew ?_ | refine blk_alloc ?_ _)); refine blk_put (cs := #[.int .u64 t261, .int .u64 t262, .bool x252002_3, .int .u32 x252003_3, .int .u8 x252004_3, .int .i64 x252005_3, .int .u16 x252006_3, .int .u16 x252007_3]) ?_ 2 _ rfl; (with_reducible repeat (first | refine blk_drewN ?_ _ | refine blk_drew ?_ | refine blk_alloc ?_ _)); refine blk_put (cs := #[.int .u64 t261, .int .u64 x252001_3, .bool x252002_3, .int .u32 x252003_3, .int .u8 x252004_3, .int .i64 x252005_3, .int .u16 x252006_3, .int .u16 x252007_3]) ?_ 1 _ rfl; (with_reducible repeat (first | refine blk_drewN ?_ _ | refine blk_drew ?_ | refine blk_alloc ?_ _)); refine blk_put (cs := #[.int .u64 x252000_3, .int .u64 x252001_3, .bool x252002_3, .int .u32 x252003_3, .int .u8 x252004_3, .int .i64 x252005_3, .int .u16 x252006_3, .int .u16 x252007_3]) ?_ 0 _ rfl; (with_reducible repeat (first | refine blk_drewN ?_ _ | refine blk_drew ?_ | refine blk_alloc ?_ _)); exact BK251.out⟩, ⟨by repeat (first | (with_reducible first | exact HB.out | apply below_alloc | apply pw_below_drewN | apply below_drew1 | refine below_set ?_ GE251.out | refine below_set ?_ GE270.out) | exact HB.out)⟩⟩
                                · replace c36 := Bool.eq_false_iff.mpr c36
                                  subst c36
                                  have H1 : (some false) = some r := by rw [if_neg (show ¬ (false = true) by decide)] at H; exact H
                                  clear H
                                  have H := H1
                                  clear H1
                                  obtain rfl := Option.some.inj H
                                  exact absurd HT.out (by decide)
                            · rw [if_neg c33] at H
                              exact absurd H (by simp)
                          · rw [if_neg c32] at H
                            have c32b0 : (t269 == 0) = false := beq_eq_false_iff_ne.mpr c32
                            have c32b1 : (t269 != 0) = true := bne_iff_ne.mpr c32
                            obtain rfl := Option.some.inj H
                            exact absurd HT.out (by decide)
                        · rw [if_neg c30] at H
                          exact absurd H (by simp)
                      · rw [if_neg c29] at H
                        exact absurd H (by simp)
                    · rw [if_neg c28] at H
                      have c28b0 : decide (x10_3 < (Int.tmod (wrap64 (a1)) (wrap64 ((t248.length : Int) + 1)))) = false := decide_eq_false c28
                      clear c28
                      obtain rfl := Option.some.inj H
                      simp only [Option.some.injEq, Prod.mk.injEq] at H
                      obtain ⟨rfl⟩ := H
                      go_wp2
                      go_ret
                      exact ⟨by first | rfl | (simp [errW_none, errW_some] <;> rfl) | (simp [*, errW_none, errW_some] <;> rfl), by repeat (first | (with_reducible first | exact HB.out | apply below_alloc | apply pw_below_drewN | apply below_drew1 | refine below_set ?_ GE251.out) | exact HB.out)⟩

/-- THE ONE PURE STATEMENT of milestonelaw07_ChangeChains: yours. -/
def milestonelaw07_ChangeChains.Pure : Prop := ∀ (l0 : List (S38)) (a1 : Int), l0.length ≤ maxLen → (∀ x ∈ l0, ((Lit.int .u8 x.f0).wf = true ∧ ((Lit.int .u8 x.f1).wf = true ∧ ((Lit.int .u8 x.f2).wf = true ∧ ((Lit.int .u8 x.f3).wf = true ∧ (Lit.int .u8 x.f4).wf = true))))) → (Lit.int .u8 a1).wf = true → ∃ k, milestonelaw07_ChangeChains.f k l0 a1 = some true
theorem milestonelaw07_ChangeChains.walk (P : milestonelaw07_ChangeChains.Pure) (a0 : Option Addr) (cap0 : Nat) (l0 : List (S38)) (a1 : Int) (w : World) (hr0 : Kd.C k38 w a0 l0.length l0) (hc0 : l0.length ≤ cap0) (hm0 : l0.length ≤ maxLen) (hw0 : ∀ x ∈ l0, ((Lit.int .u8 x.f0).wf = true ∧ ((Lit.int .u8 x.f1).wf = true ∧ ((Lit.int .u8 x.f2).wf = true ∧ ((Lit.int .u8 x.f3).wf = true ∧ (Lit.int .u8 x.f4).wf = true))))) (w1 : (Lit.int .u8 a1).wf = true) :
    Calls Try.prog 10 #[.slice a0 l0.length cap0, .int .u8 a1] w fun e w' => e = .returned (.bool true) ∧ Below w.heap.size w w' := by
  obtain ⟨k, h⟩ := P l0 a1 hm0 hw0 w1
  refine (milestonelaw07_ChangeChains.calls k _ _ l0 a1 true w hr0 hc0 h rfl).mono ?_
  rintro e w' ⟨rfl, hd⟩
  exact ⟨rfl, hd⟩

end Go.Proofs.Ytllcighpfikpkaa.QChangeChains
