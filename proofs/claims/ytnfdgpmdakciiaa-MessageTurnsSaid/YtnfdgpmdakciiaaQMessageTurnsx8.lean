-- Lines by a program of this session, for this claim.
import Derived.Test.YtnfdgpmdakciiaaQMessageTurnsx0
import Derived.Test.YtnfdgpmdakciiaaQMessageTurnsx2
import Derived.Test.YtnfdgpmdakciiaaQMessageTurnsx4
import Derived.Test.YtnfdgpmdakciiaaQMessageTurnsx6
import Derived.Test.YtnfdgpmdakciiaaQMessageTurnsx7
namespace Go.Proofs.Ytnfdgpmdakciiaa.QMessageTurns
open Go.RowKit Go.Proofs.YtnfdgpmdakciiaaW.PrintWords Go.Proofs.YtnfdgpmdakciiaaW.PrintLast Go.Proofs.YtnfdgpmdakciiaaW.PrintMore
attribute [local go_sem] max2_int min2_int max_two min_two max_three min_three max_four min_four   -- for this text's walks alone
set_option linter.unusedVariables false
set_option linter.unusedSimpArgs false

/-! ### milestonelaw13_MessageTurns: function 5 -/
mutual
def milestonelaw13_MessageTurns.j0 : Nat → Int → List (S28) → Int → Int → Int → List Int → Bool → Option (Bool)
 | 0, _, _, _, _, _, _, _ => none
 | k + 1, x0, x1, x2, x3, x4, x5, x39 => if x39 = true then ((milestonelaw13_awake.f k).bind fun t249 => (some t249)) else (milestonelaw13_MessageTurns.l0 k x1 x2 x3 x4 x5 0 (wrap64 (Int.tmod x0 16)) ([] : List (S28)))
def milestonelaw13_MessageTurns.l0 : Nat → List (S28) → Int → Int → Int → List Int → Int → Int → List (S28) → Option (Bool)
 | 0, _, _, _, _, _, _, _, _ => none
 | k + 1, x1, x2, x3, x4, x5, x14, x251000, x251001 => if x14 < (x1.length : Int) then (if 0 ≤ x14 then ((milestonelaw13_near.f k ((rd_T28 x1 x14).f0) ((rd_T28 x1 x14).f1) ((rd_T28 x1 x14).f2) ((rd_T28 x1 x14).f3.f0) ((rd_T28 x1 x14).f3.f1) ((rd_T28 x1 x14).f4) ((rd_T28 x1 x14).f5)).bind fun bt252 => (if x251001.length < 3518437208883 then (milestonelaw13_MessageTurns.l0 k x1 x2 x3 x4 x5 (wrap64 (x14 + 1)) x251000 (x251001 ++ [(⟨bt252.1, bt252.2.1, bt252.2.2.1, (⟨bt252.2.2.2.1, bt252.2.2.2.2.1⟩ : S25), bt252.2.2.2.2.2.1, bt252.2.2.2.2.2.2⟩ : S28)])) else (none))) else (none)) else ((message_Encode.f k x251000 x251001).bind fun t262 => (if ([] : List Int).length + t262.length < 140737488355328 then ((some (([] : List Int) ++ t262 : List Int)).bind fun y265 => (if (y265.length : Int) = 0 then (none) else (if 0 ≤ (Int.tmod (wrap64 (x2)) (y265.length : Int)) then (if (Int.tmod (wrap64 (x2)) (y265.length : Int)) < (y265.length : Int) then ((message_Decode.f k (y265.set ((Int.tmod (wrap64 (x2)) (y265.length : Int)) : Int).toNat (Go.bits .xor .u8 (rd y265 (Int.tmod (wrap64 (x2)) (y265.length : Int))) x3))).bind fun bt270 => (if (t262.length : Int) = 0 then (none) else (if 0 ≤ (Int.tmod (wrap64 (x4)) (t262.length : Int)) then (if (Int.tmod (wrap64 (x4)) (t262.length : Int)) ≤ (t262.length : Int) then ((message_Decode.f k (t262.take ((Int.tmod (wrap64 (x4)) (t262.length : Int)) : Int).toNat)).bind fun bt281 => ((message_Decode.f k x5).bind fun bt288 => (if (wrap64 ((x5.length : Int) - 4)) ≥ 2 then (if 0 ≤ (wrap64 ((x5.length : Int) - 4)) then (if (wrap64 ((x5.length : Int) - 4)) ≤ (x5.length : Int) then ((milestoneref01_Tail.f k (x5.take ((wrap64 ((x5.length : Int) - 4)) : Int).toNat)).bind fun t296 => (if ((bt270.2.2.2 == 0) == (x3 == 0)) = true then (if bt281.2.2.2 = 0 then ((milestonelaw13_sums.f k (t262.take ((Int.tmod (wrap64 (x4)) (t262.length : Int)) : Int).toNat)).bind fun t304 => (if t304 = true then (if bt288.2.2.2 = 0 then (some ((strOfNums t296).toList == (strOfNums (x5.drop ((wrap64 ((x5.length : Int) - 4)) : Int).toNat)).toList)) else (some true)) else (some false))) else (if bt288.2.2.2 = 0 then (some ((strOfNums t296).toList == (strOfNums (x5.drop ((wrap64 ((x5.length : Int) - 4)) : Int).toNat)).toList)) else (some true))) else (some false))) else (none)) else (none)) else (if ((bt270.2.2.2 == 0) == (x3 == 0)) = true then (if bt281.2.2.2 = 0 then ((milestonelaw13_sums.f k (t262.take ((Int.tmod (wrap64 (x4)) (t262.length : Int)) : Int).toNat)).bind fun t309 => (if t309 = true then (if bt288.2.2.2 = 0 then (some false) else (some true)) else (some false))) else (if bt288.2.2.2 = 0 then (some false) else (some true))) else (some false))))) else (none)) else (none)))) else (none)) else (none)))) else (none)))
end
def milestonelaw13_MessageTurns.f (k : Nat) (a0 : Int) (l1 : List (S28)) (a2 : Int) (a3 : Int) (a4 : Int) (l5 : List Int) : Option (Bool) := (milestonelaw13_awake.f k).bind fun t248 => (if t248 = true then (if (l1.length : Int) > 20 then (milestonelaw13_MessageTurns.j0 k a0 l1 a2 a3 a4 l5 true) else (milestonelaw13_MessageTurns.j0 k a0 l1 a2 a3 a4 l5 (decide ((l5.length : Int) > 100)))) else (milestonelaw13_MessageTurns.j0 k a0 l1 a2 a3 a4 l5 true))
theorem milestonelaw13_MessageTurns.mono_l : ∀ k, (∀ y0 y1 y2 y3 y4 y5 y6, LeO (milestonelaw13_MessageTurns.j0 k y0 y1 y2 y3 y4 y5 y6) (milestonelaw13_MessageTurns.j0 (k + 1) y0 y1 y2 y3 y4 y5 y6)) ∧ (∀ y0 y1 y2 y3 y4 y5 y6 y7, LeO (milestonelaw13_MessageTurns.l0 k y0 y1 y2 y3 y4 y5 y6 y7) (milestonelaw13_MessageTurns.l0 (k + 1) y0 y1 y2 y3 y4 y5 y6 y7))
 | 0 => ⟨fun _ _ _ _ _ _ _ r h => by simp [milestonelaw13_MessageTurns.j0] at h, fun _ _ _ _ _ _ _ _ r h => by simp [milestonelaw13_MessageTurns.l0] at h⟩
 | k + 1 => by
  obtain ⟨ih0, ih1⟩ := milestonelaw13_MessageTurns.mono_l k
  refine ⟨?_, ?_⟩
  · intro y0 y1 y2 y3 y4 y5 y6
    unfold milestonelaw13_MessageTurns.j0
    repeat' first
    | (with_reducible exact ih0 _ _ _ _ _ _ _)
    | (with_reducible exact ih1 _ _ _ _ _ _ _ _)
    | (with_reducible exact message_Decode.mono _ _)
    | (with_reducible exact message_Encode.mono _ _ _)
    | (with_reducible exact milestonelaw13_awake.mono _)
    | (with_reducible exact milestonelaw13_near.mono _ _ _ _ _ _ _ _)
    | (with_reducible exact milestonelaw13_sums.mono _ _)
    | (with_reducible exact milestoneref01_Tail.mono _ _)
    | (with_reducible exact LeO.refl _)
    | (with_reducible exact LeO.none _)
    | (with_reducible refine LeO.ite ?_ ?_)
    | (with_reducible refine LeO.bind ?_ (fun _ => ?_))
    | exact ih0 _ _ _ _ _ _ _
    | exact ih1 _ _ _ _ _ _ _ _
    | exact message_Decode.mono _ _
    | exact message_Encode.mono _ _ _
    | exact milestonelaw13_awake.mono _
    | exact milestonelaw13_near.mono _ _ _ _ _ _ _ _
    | exact milestonelaw13_sums.mono _ _
    | exact milestoneref01_Tail.mono _ _
    | exact LeO.none _
    | refine LeO.ite ?_ ?_
    | refine LeO.bind ?_ (fun _ => ?_)
  · intro y0 y1 y2 y3 y4 y5 y6 y7
    unfold milestonelaw13_MessageTurns.l0
    repeat' first
    | (with_reducible exact ih0 _ _ _ _ _ _ _)
    | (with_reducible exact ih1 _ _ _ _ _ _ _ _)
    | (with_reducible exact message_Decode.mono _ _)
    | (with_reducible exact message_Encode.mono _ _ _)
    | (with_reducible exact milestonelaw13_awake.mono _)
    | (with_reducible exact milestonelaw13_near.mono _ _ _ _ _ _ _ _)
    | (with_reducible exact milestonelaw13_sums.mono _ _)
    | (with_reducible exact milestoneref01_Tail.mono _ _)
    | (with_reducible exact LeO.refl _)
    | (with_reducible exact LeO.none _)
    | (with_reducible refine LeO.ite ?_ ?_)
    | (with_reducible refine LeO.bind ?_ (fun _ => ?_))
    | exact ih0 _ _ _ _ _ _ _
    | exact ih1 _ _ _ _ _ _ _ _
    | exact message_Decode.mono _ _
    | exact message_Encode.mono _ _ _
    | exact milestonelaw13_awake.mono _
    | exact milestonelaw13_near.mono _ _ _ _ _ _ _ _
    | exact milestonelaw13_sums.mono _ _
    | exact milestoneref01_Tail.mono _ _
    | exact LeO.none _
    | refine LeO.ite ?_ ?_
    | refine LeO.bind ?_ (fun _ => ?_)
theorem milestonelaw13_MessageTurns.mono : ∀ a0 a1 a2 a3 a4 a5 k, LeO (milestonelaw13_MessageTurns.f k a0 a1 a2 a3 a4 a5) (milestonelaw13_MessageTurns.f (k + 1) a0 a1 a2 a3 a4 a5) := by
 intro a0 a1 a2 a3 a4 a5 k
 obtain ⟨ih0, ih1⟩ := milestonelaw13_MessageTurns.mono_l k
 unfold milestonelaw13_MessageTurns.f
 repeat' first
  | (with_reducible exact ih0 _ _ _ _ _ _ _)
  | (with_reducible exact ih1 _ _ _ _ _ _ _ _)
  | (with_reducible exact message_Decode.mono _ _)
  | (with_reducible exact message_Encode.mono _ _ _)
  | (with_reducible exact milestonelaw13_awake.mono _)
  | (with_reducible exact milestonelaw13_near.mono _ _ _ _ _ _ _ _)
  | (with_reducible exact milestonelaw13_sums.mono _ _)
  | (with_reducible exact milestoneref01_Tail.mono _ _)
  | (with_reducible exact LeO.refl _)
  | (with_reducible exact LeO.none _)
  | (with_reducible refine LeO.ite ?_ ?_)
  | (with_reducible refine LeO.bind ?_ (fun _ => ?_))
  | exact ih0 _ _ _ _ _ _ _
  | exact ih1 _ _ _ _ _ _ _ _
  | exact message_Decode.mono _ _
  | exact message_Encode.mono _ _ _
  | exact milestonelaw13_awake.mono _
  | exact milestonelaw13_near.mono _ _ _ _ _ _ _ _
  | exact milestonelaw13_sums.mono _ _
  | exact milestoneref01_Tail.mono _ _
  | exact LeO.none _
  | refine LeO.ite ?_ ?_
  | refine LeO.bind ?_ (fun _ => ?_)
def milestonelaw13_MessageTurns.T7 : Bool × List (List Nat × List Nat) := (true, [([], []), ([0], [0]), ([], []), ([], []), ([2, 3], [2, 3]), ([4], [4]), ([5], [5]), ([6], [6]), ([1, 7, 6], [1, 7]), ([0, 1, 2, 3, 4, 5, 6, 7, 8], []), ([9, 8, 8, 0, 1, 2, 3, 4, 5, 6, 7, 8], [8, 9])])
def milestonelaw13_MessageTurns.B7 : List Nat := [0, 1, 0, 0, 12, 28, 60, 124, 255, 511, 1023]
theorem milestonelaw13_MessageTurns.tab7 : rtab .any (opsOf Try.f5 7) = milestonelaw13_MessageTurns.T7 := by kernel_rfl
theorem milestonelaw13_MessageTurns.bits7 : waitsOk milestonelaw13_MessageTurns.T7.2 milestonelaw13_MessageTurns.B7 = true := by kernel_rfl
def milestonelaw13_MessageTurns.T15 : Bool × List (List Nat × List Nat) := (true, [([], []), ([0], [0]), ([1], [1]), ([2], [2]), ([2], [2]), ([3, 4, 2], [2, 3, 4]), ([5, 2, 2], [2, 5]), ([6, 2], [2, 6]), ([2], [2]), ([2], [2]), ([8, 9, 2], [2, 8, 9]), ([10, 2], [2, 10]), ([7, 11, 2], [2, 7, 11]), ([2, 12], [2, 12]), ([13, 6, 0, 1, 2, 3, 4, 5, 6, 7, 8, 9, 10, 11, 12, 13], [13])])
def milestonelaw13_MessageTurns.B15 : List Nat := [0, 1, 3, 7, 7, 31, 63, 127, 7, 7, 775, 1799, 4095, 8191, 16383]
theorem milestonelaw13_MessageTurns.tab15 : rtab .any (opsOf Try.f5 15) = milestonelaw13_MessageTurns.T15 := by kernel_rfl
theorem milestonelaw13_MessageTurns.bits15 : waitsOk milestonelaw13_MessageTurns.T15.2 milestonelaw13_MessageTurns.B15 = true := by kernel_rfl
set_option maxHeartbeats 8000000 in
set_option maxRecDepth 100000 in
theorem milestonelaw13_MessageTurns.calls (k : Nat) (a0 : Int) (A1 : Option Addr) (c1 : Nat) (l1 : List (S28)) (a2 : Int) (a3 : Int) (a4 : Int) (A5 : Option Addr) (c5 : Nat) (l5 : List Int) (r : Bool) (w : World) (hr1 : Kd.C k28 w A1 l1.length l1) (hc1 : l1.length ≤ c1) (hr5 : Kd.C (Kd.int .u8) w A5 l5.length l5) (hc5 : l5.length ≤ c5) (h : milestonelaw13_MessageTurns.f k a0 l1 a2 a3 a4 l5 = some r) (hT : r = true) :
 Calls Try.prog 5 #[.int .u8 a0, .slice A1 l1.length c1, .int .u16 a2, .int .u8 a3, .int .u16 a4, .slice A5 l5.length c5] w fun e w' => e = .returned (.bool r) ∧ Below w.heap.size w w' := by
 have HT := Aside0.mk hT
 clear hT
 have hu34 := Try.underlying34
 have hu28 := Try.underlying28
 have HR1 := Aside0.mk hr1
 have HC1 := Aside0.mk hc1
 clear hr1 hc1
 have HR5 := Aside0.mk hr5
 have HC5 := Aside0.mk hc5
 clear hr5 hc5
 have HB := Aside0.mk (Below.refl w.heap.size w)
 have H : ((milestonelaw13_awake.f k).bind fun t248 => (if t248 = true then (if (l1.length : Int) > 20 then (milestonelaw13_MessageTurns.j0 k a0 l1 a2 a3 a4 l5 true) else (milestonelaw13_MessageTurns.j0 k a0 l1 a2 a3 a4 l5 (decide ((l5.length : Int) > 100)))) else (milestonelaw13_MessageTurns.j0 k a0 l1 a2 a3 a4 l5 true))) = some r := h
 clear h
 have HC7 := Aside0.mk H
 clear H
 go_enter Try.func5, Try.ntmps5
 go_upto_region 1 with (fail)
 go_cut [39] (fun v39 wc => ∃ (kq : Nat) (x39_6 : Bool), v39 = .bool x39_6 ∧ Aside0 (milestonelaw13_MessageTurns.j0 kq a0 l1 a2 a3 a4 l5 x39_6 = some r) ∧ Aside0 (kq ≤ k) ∧ Aside0 (Below w.heap.size w wc))
 case first =>
  have H := HC7.out
  clear HC7
  replace H := Option.bind_eq_some_iff.mp H
  obtain ⟨t248, A80, H⟩ := H
  replace H : (if t248 = true then (if (l1.length : Int) > 20 then (milestonelaw13_MessageTurns.j0 k a0 l1 a2 a3 a4 l5 true) else (milestonelaw13_MessageTurns.j0 k a0 l1 a2 a3 a4 l5 (decide ((l5.length : Int) > 100)))) else (milestonelaw13_MessageTurns.j0 k a0 l1 a2 a3 a4 l5 true)) = some r := H
  have A8 := Aside0.mk A80
  clear A80
  by_cases c9 : t248 = true
  · subst c9
    have H1 : (if (l1.length : Int) > 20 then (milestonelaw13_MessageTurns.j0 k a0 l1 a2 a3 a4 l5 true) else (milestonelaw13_MessageTurns.j0 k a0 l1 a2 a3 a4 l5 (decide ((l5.length : Int) > 100)))) = some r := by rw [if_pos rfl] at H; exact H
    clear H
    have H := H1
    clear H1
    by_cases c10 : (l1.length : Int) > 20
    · rw [if_pos c10] at H
      have c10b0 : decide (20 < (l1.length : Int)) = true := decide_eq_true c10
      have c10b1 : decide (20 < l1.length) = true := decide_eq_true (by omega)
      clear c10
      (first | skip)
      have H' := Aside0.mk H
      clear H
      go_wp2_with (first | ((with_reducible refine gate_callee (f := 12) rfl ?_); refine goesL_ (some 28) rfl rfl Try.func12 (by kernel_rfl) rfl #[] rfl (by (try simp only [List.map_toArray, List.map_cons, List.map_nil]); first | done | (refine qa_arr ?_; (repeat' (first | rfl | refine qa_cons ?_ ?_ | refine qa_int ?_ | refine qa_agg ?_ | refine qa_arr ?_ | omega)); done)) ?_; (with_reducible refine (milestonelaw13_awake.calls k  true _ A8.out).mono ?_); rintro e w11 ⟨rfl, hb⟩; refine ⟨_, rfl, ?_⟩; have n0_ := Aside0.mk (below_step (by repeat (first | (with_reducible first | exact HB.out | apply below_drew1))) hb); clear HB; have HB := n0_; clear n0_; (try clear hb); (try clear hb2); (try clear hk); (try clear hi)))
      go_meet
      case rel => exact ⟨_, (true), (by first | rfl | (refine qa_int ?_; simp <;> omega)), H', ⟨by first | omega⟩, ⟨by repeat (first | (with_reducible first | exact HB.out | apply below_drew1))⟩⟩
    · rw [if_neg c10] at H
      have c10b0 : decide (20 < (l1.length : Int)) = false := decide_eq_false c10
      have c10b1 : decide (20 < l1.length) = false := decide_eq_false (by omega)
      clear c10
      (first | skip)
      have H' := Aside0.mk H
      clear H
      go_wp2_with (first | ((with_reducible refine gate_callee (f := 12) rfl ?_); refine goesL_ (some 28) rfl rfl Try.func12 (by kernel_rfl) rfl #[] rfl (by (try simp only [List.map_toArray, List.map_cons, List.map_nil]); first | done | (refine qa_arr ?_; (repeat' (first | rfl | refine qa_cons ?_ ?_ | refine qa_int ?_ | refine qa_agg ?_ | refine qa_arr ?_ | omega)); done)) ?_; (with_reducible refine (milestonelaw13_awake.calls k  true _ A8.out).mono ?_); rintro e w12 ⟨rfl, hb⟩; refine ⟨_, rfl, ?_⟩; have n0_ := Aside0.mk (below_step (by repeat (first | (with_reducible first | exact HB.out | apply below_drew1))) hb); clear HB; have HB := n0_; clear n0_; (try clear hb); (try clear hb2); (try clear hk); (try clear hi)))
      go_meet
      case rel => exact ⟨_, (decide ((l5.length : Int) > 100)), (by first | rfl | (refine qa_int ?_; simp <;> omega)), H', ⟨by first | omega⟩, ⟨by repeat (first | (with_reducible first | exact HB.out | apply below_drew1))⟩⟩
  · replace c9 := Bool.eq_false_iff.mpr c9
    subst c9
    have H1 : (milestonelaw13_MessageTurns.j0 k a0 l1 a2 a3 a4 l5 true) = some r := by rw [if_neg (show ¬ (false = true) by decide)] at H; exact H
    clear H
    have H := H1
    clear H1
    have H' := Aside0.mk H
    clear H
    go_wp2_with (first | ((with_reducible refine gate_callee (f := 12) rfl ?_); refine goesL_ (some 28) rfl rfl Try.func12 (by kernel_rfl) rfl #[] rfl (by (try simp only [List.map_toArray, List.map_cons, List.map_nil]); first | done | (refine qa_arr ?_; (repeat' (first | rfl | refine qa_cons ?_ ?_ | refine qa_int ?_ | refine qa_agg ?_ | refine qa_arr ?_ | omega)); done)) ?_; (with_reducible refine (milestonelaw13_awake.calls k  false _ A8.out).mono ?_); rintro e w13 ⟨rfl, hb⟩; refine ⟨_, rfl, ?_⟩; have n0_ := Aside0.mk (below_step (by repeat (first | (with_reducible first | exact HB.out | apply below_drew1))) hb); clear HB; have HB := n0_; clear n0_; (try clear hb); (try clear hb2); (try clear hk); (try clear hi)))
    go_meet
    case rel => exact ⟨_, (true), (by first | rfl | (refine qa_int ?_; simp <;> omega)), H', ⟨by first | omega⟩, ⟨by repeat (first | (with_reducible first | exact HB.out | apply below_drew1))⟩⟩
 case rest =>
  clear HC7
  try clear c1
  try clear p2
  try clear c5
  try clear c9
  try clear c10
  try clear c10b0
  try clear c10b1
  try clear c12
  obtain ⟨kq, x39_6, rfl, HA, HJ6, HB⟩ := hcut
  cases kq with
  | zero => exact absurd HA.out (by simp [milestonelaw13_MessageTurns.j0])
  | succ kj6 =>
   have H := HA.out
   clear HA
   simp only [milestonelaw13_MessageTurns.j0] at H
   by_cases c14 : x39_6 = true
   · subst c14
     have H1 : ((milestonelaw13_awake.f kj6).bind fun t249 => (some t249)) = some r := by rw [if_pos rfl] at H; exact H
     clear H
     have H := H1
     clear H1
     replace H := Option.bind_eq_some_iff.mp H
     obtain ⟨t249, A150, H⟩ := H
     replace H : (some t249) = some r := H
     have A15 := Aside0.mk A150
     clear A150
     obtain rfl := Option.some.inj H
     simp only [Option.some.injEq, Prod.mk.injEq] at H
     obtain ⟨rfl⟩ := H
     go_wp2_with (first | ((with_reducible refine gate_callee (f := 12) rfl ?_); refine goesL_ (some 40) rfl rfl Try.func12 (by kernel_rfl) rfl #[] rfl (by (try simp only [List.map_toArray, List.map_cons, List.map_nil]); first | done | (refine qa_arr ?_; (repeat' (first | rfl | refine qa_cons ?_ ?_ | refine qa_int ?_ | refine qa_agg ?_ | refine qa_arr ?_ | omega)); done)) ?_; (with_reducible refine (milestonelaw13_awake.calls kj6  t249 _ A15.out).mono ?_); rintro e w16 ⟨rfl, hb⟩; refine ⟨_, rfl, ?_⟩; have n0_ := Aside0.mk (below_step (by repeat (first | (with_reducible first | exact HB.out | apply below_drew1))) hb); clear HB; have HB := n0_; clear n0_; (try clear hb); (try clear hb2); (try clear hk); (try clear hi)))
     go_ret
     exact ⟨by first | rfl | (simp [*, errW_none, errW_some] <;> rfl), by repeat (first | (with_reducible first | exact HB.out | apply below_drew1))⟩
   · replace c14 := Bool.eq_false_iff.mpr c14
     subst c14
     have H1 : (milestonelaw13_MessageTurns.l0 kj6 l1 a2 a3 a4 l5 0 (wrap64 (Int.tmod a0 16)) ([] : List (S28))) = some r := by rw [if_neg (show ¬ (false = true) by decide)] at H; exact H
     clear H
     have H := H1
     clear H1
     have H' := Aside0.mk H
     clear H
     go_wp2_with (first | ((with_reducible refine gate_dst (N := 13) rfl ?_); (try (refine gate_guard (by rfl) ?_; dsimp only)); refine box_event ?hg (N := 13) ?hd (cs := #[.int .i64 0, .slice none 0 0]) (t := 34) ?hr ?_; (case hd => rfl); (case hg => rfl); (case hr => first | (go_simp; done)); intro gb250 hg w17 hbox hb; have n0_ := Aside0.mk (below_step (by repeat (first | (with_reducible first | exact HB.out | apply below_drew1))) hb); have n1_ := Aside0.mk (hbox); have n2_ := Aside0.mk ((by rw [hg]; exact (below_size (by repeat (first | (with_reducible first | exact HB.out | apply below_drew1)))) : w.heap.size ≤ gb250)); have n3_ := Aside0.mk ((by rw [hg]; exact (below_size (by repeat (first | (with_reducible first | exact HB.out | apply below_drew1)))) : w.heap.size ≤ gb250)); clear HB; have HB := n0_; have BK250 := n1_; have GW250 := n2_; have GE250 := n3_; clear n0_ n1_ n2_ n3_; clear hb hbox hg; have hcz18_0 : w17.cell? ⟨gb250, 0, none⟩ = some (.int .i64 0) := (blk_cell BK250.out 0).trans rfl; have hcz18_1 : w17.cell? ⟨gb250, 1, none⟩ = some (.slice none 0 0) := (blk_cell BK250.out 1).trans rfl; have hfz18_0 := blk_frozen BK250.out 0; have hfz18_1 := blk_frozen BK250.out 1))
     go_loopg [14] kj6 (fun kq v14 w' => ∃ (x14_2 : Int) (x251001_2 : List (S28)) (u251001 : Value), v14 = .int .i64 x14_2 ∧ Aside0 (milestonelaw13_MessageTurns.l0 kq l1 a2 a3 a4 l5 x14_2 (wrap64 (Int.tmod a0 16)) x251001_2 = some r) ∧ Aside0 (kq ≤ kj6) ∧ Aside0 (Kd.R k28 28 w' w.heap.size (fun _ => True) u251001 x251001_2) ∧ Aside0 (w'.heap[gb250]? = some (.cells #[.int .i64 (wrap64 (Int.tmod a0 16)), u251001] 34 (0, 0))) ∧ Aside0 (Below w.heap.size w w'))
     case atStart => exact ⟨(0), (([] : List (S28))), (.slice none 0 0), (by first | rfl | (refine qa_int ?_; simp <;> omega)), H', ⟨Nat.le_refl _⟩, ⟨by first | exact Kd.R_nil _ _ _ _ _ | exact Kd.S_nil _ _ _ _ _⟩, ⟨by refine blk_put (cs := #[.int .i64 (wrap64 (Int.tmod a0 16)), .slice none 0 0]) ?_ 1 _ rfl; refine blk_put (cs := #[.int .i64 0, .slice none 0 0]) ?_ 0 _ rfl; exact BK250.out⟩, ⟨by repeat (first | (with_reducible first | exact HB.out | refine below_set ?_ GE250.out))⟩⟩
     case round =>
      clear H'
      try clear c1
      try clear p2
      try clear c5
      try clear p6
      try clear c9
      try clear c10
      try clear c10b0
      try clear c10b1
      try clear c12
      try clear c14
      try clear hcz18_0
      try clear hcz18_1
      try clear hfz18_0
      try clear hfz18_1
      try clear p2
      obtain ⟨x14_2, x251001_2, u251001, rfl, HA, HK2, HO_251001, BK250, HB⟩ := hrel
      cases gk with
      | zero => exact absurd HA.out (by simp [milestonelaw13_MessageTurns.l0])
      | succ k2 =>
       have H := HA.out
       clear HA
       simp only [milestonelaw13_MessageTurns.l0] at H
       by_cases c19 : x14_2 < (l1.length : Int)
       · rw [if_pos c19] at H
         have c19b0 : decide (x14_2 < (l1.length : Int)) = true := decide_eq_true c19
         clear c19
         by_cases c20 : 0 ≤ x14_2
         · rw [if_pos c20] at H
           have c20b0 : decide (0 ≤ x14_2) = true := decide_eq_true c20
           clear c20
           replace H := Option.bind_eq_some_iff.mp H
           obtain ⟨⟨t252, t253, t254, t255, t256, t257, t258⟩, A210, H⟩ := H
           replace H : (if x251001_2.length < 3518437208883 then (milestonelaw13_MessageTurns.l0 k2 l1 a2 a3 a4 l5 (wrap64 (x14_2 + 1)) (wrap64 (Int.tmod a0 16)) (x251001_2 ++ [(⟨t252, t253, t254, (⟨t255, t256⟩ : S25), t257, t258⟩ : S28)])) else (none)) = some r := H
           have A21 := Aside0.mk A210
           clear A210
           by_cases c22 : x251001_2.length < 3518437208883
           · rw [if_pos c22] at H
             have LMc22 := Aside0.mk c22
             clear c22
             obtain ⟨y259, hy259⟩ : ∃ y_ : List (S28), y_ = (x251001_2 ++ [(⟨t252, t253, t254, (⟨t255, t256⟩ : S25), t257, t258⟩ : S28)]) := ⟨_, rfl⟩
             replace H : (milestonelaw13_MessageTurns.l0 k2 l1 a2 a3 a4 l5 (wrap64 (x14_2 + 1)) (wrap64 (Int.tmod a0 16)) y259) = some r := by first | (rw [hy259]; with_reducible exact H) | exact H
             have Ny259 := Aside0.mk hy259
             clear hy259
             have H' := Aside0.mk H
             clear H
             try go_wp2
             have n0_ := Aside0.mk (Kd.R_drew HO_251001.out)
             have n1_ := Aside0.mk (blk_drew BK250.out)
             have n2_ := Aside0.mk (below_drew1 HB.out)
             clear HO_251001
             clear BK250
             clear HB
             have HO_251001 := n0_
             have BK250 := n1_
             have HB := n2_
             clear n0_ n1_ n2_
             have p251 : 0 ≤ (x14_2 : Int) := of_decide_eq_true (by with_reducible assumption)
             have q251 : x14_2 < (l1.length : Int) := of_decide_eq_true (by with_reducible assumption)
             obtain ⟨ad251, e251, hx251_0, hx251_1, hx251_2, hx251_3, hx251_4, hx251_5, hx251_6⟩ := at_T28 HR1.out x14_2 p251 q251
             have hw251_6 := hx251_6
             have hw251_5 := hx251_5
             have hw251_4 := hx251_4
             have hw251_3 := hx251_3
             have hw251_2 := hx251_2
             have hw251_1 := hx251_1
             have hw251_0 := hx251_0
             cases e251
             replace hx251_0 := (HB.out.cell (World.block_lt_of_cell? w _ hx251_0)).trans hx251_0
             replace hx251_1 := (HB.out.cell (World.block_lt_of_cell? w _ hx251_1)).trans hx251_1
             replace hx251_2 := (HB.out.cell (World.block_lt_of_cell? w _ hx251_2)).trans hx251_2
             replace hx251_3 := (HB.out.cell (World.block_lt_of_cell? w _ hx251_3)).trans hx251_3
             replace hx251_4 := (HB.out.cell (World.block_lt_of_cell? w _ hx251_4)).trans hx251_4
             replace hx251_5 := (HB.out.cell (World.block_lt_of_cell? w _ hx251_5)).trans hx251_5
             replace hx251_6 := (HB.out.cell (World.block_lt_of_cell? w _ hx251_6)).trans hx251_6
             replace p251 := eq_true p251
             replace q251 := eq_true q251
             refine start_ (n := 11) (S := fun w' => w'.cell? ⟨gb250, 0, none⟩ = some (.int .i64 (wrap64 (Int.tmod a0 16))) ∧ w'.cell? ⟨gb250, 1, none⟩ = some (u251001) ∧ w'.cell? (ad251.add ((x14_2).toNat * 7)) = some (.int .u8 ((rd_T28 l1 x14_2).f0)) ∧ w'.cell? ⟨(ad251.add ((x14_2).toNat * 7)).block, (ad251.add ((x14_2).toNat * 7)).off + 1, none⟩ = some (.int .u64 ((rd_T28 l1 x14_2).f1)) ∧ w'.cell? ⟨(ad251.add ((x14_2).toNat * 7)).block, (ad251.add ((x14_2).toNat * 7)).off + 2, none⟩ = some (.int .i64 ((rd_T28 l1 x14_2).f2)) ∧ w'.cell? ⟨(ad251.add ((x14_2).toNat * 7)).block, (ad251.add ((x14_2).toNat * 7)).off + 3, none⟩ = some (.int .u32 ((rd_T28 l1 x14_2).f3.f0)) ∧ w'.cell? ⟨(ad251.add ((x14_2).toNat * 7)).block, (ad251.add ((x14_2).toNat * 7)).off + 4, none⟩ = some (.int .u8 ((rd_T28 l1 x14_2).f3.f1)) ∧ w'.cell? ⟨(ad251.add ((x14_2).toNat * 7)).block, (ad251.add ((x14_2).toNat * 7)).off + 5, none⟩ = some (.int .u16 ((rd_T28 l1 x14_2).f4)) ∧ w'.cell? ⟨(ad251.add ((x14_2).toNat * 7)).block, (ad251.add ((x14_2).toNat * 7)).off + 6, none⟩ = some (.int .u16 ((rd_T28 l1 x14_2).f5))) (ds := [10]) #[false, false, false, false, false, false, false, false, false, false, false] (by kernel_rfl) rfl rfl ⟨(blk_cell BK250.out 0).trans rfl, (blk_cell BK250.out 1).trans rfl, ((HB.out.cell (World.block_lt_of_cell? w _ hw251_0)).trans hw251_0), ((HB.out.cell (World.block_lt_of_cell? w _ hw251_1)).trans hw251_1), ((HB.out.cell (World.block_lt_of_cell? w _ hw251_2)).trans hw251_2), ((HB.out.cell (World.block_lt_of_cell? w _ hw251_3)).trans hw251_3), ((HB.out.cell (World.block_lt_of_cell? w _ hw251_4)).trans hw251_4), ((HB.out.cell (World.block_lt_of_cell? w _ hw251_5)).trans hw251_5), ((HB.out.cell (World.block_lt_of_cell? w _ hw251_6)).trans hw251_6)⟩ (fun hHeld => ?_); refine with_tabW milestonelaw13_MessageTurns.tab7 milestonelaw13_MessageTurns.bits7 (fun HT_ HW_ => ?_)
             generalize wr.drew = w23 at HO_251001 BK250 HB hx251_0 hx251_1 hx251_2 hx251_3 hx251_4 hx251_5 hx251_6 hHeld ⊢
             refine pure_ (i := 0) (N := some 51) (v := ?_) (a' := ?_) #[true, false, false, false, false, false, false, false, false, false, false] rfl rfl (any_of HT_.out (by kernel_rfl)) (fun _ _ _ h => h) (Or.inl ⟨by rfl, ?_⟩) ?_ ?_
             rotate_left
             · intro w'
               go_simp
               with_reducible rfl
             rotate_left
             · simp only [Act.put, List.setIfInBounds_toArray, List.set_cons_zero, List.set_cons_succ, i64_w, i32_w]
               rfl
             refine pure_ (i := 2) (N := some 53) (v := ?_) (a' := ?_) #[true, false, true, false, false, false, false, false, false, false, false] rfl rfl (any_of HT_.out (by kernel_rfl)) (fun _ _ _ h => h) (Or.inl ⟨by rfl, ?_⟩) ?_ ?_
             rotate_left
             · intro w'
               go_simp
               with_reducible rfl
             rotate_left
             · simp only [Act.put, List.setIfInBounds_toArray, List.set_cons_zero, List.set_cons_succ, i64_w, i32_w]
               rfl
             refine pure_ (i := 3) (N := some 54) (v := ?_) (a' := ?_) #[true, false, true, true, false, false, false, false, false, false, false] rfl rfl (any_of HT_.out (by kernel_rfl)) (fun _ _ _ h => h) (Or.inl ⟨by rfl, ?_⟩) ?_ ?_
             rotate_left
             · intro w'
               go_simp
               with_reducible rfl
             rotate_left
             · simp only [Act.put, List.setIfInBounds_toArray, List.set_cons_zero, List.set_cons_succ, i64_w, i32_w]
               rfl
             refine pure_ (i := 4) (N := some 55) (v := ?_) (a' := ?_) #[true, false, true, true, true, false, false, false, false, false, false] rfl rfl (any_of HT_.out (by kernel_rfl)) (fun _ _ _ h => h) (Or.inl ⟨by rfl, ?_⟩) ?_ ?_
             rotate_left
             · intro w'
               go_simp
               with_reducible rfl
             rotate_left
             · simp only [Act.put, List.setIfInBounds_toArray, List.set_cons_zero, List.set_cons_succ, i64_w, i32_w]
               rfl
             refine take_ (i := 1) (N := some 52) (v := ?_) (a' := ?_) #[true, true, true, true, true, false, false, false, false, false, false] rfl rfl (take_ofW HT_.out HW_.out (by kernel_rfl)) (fun _ _ _ h => h) (Or.inl ⟨by rfl, ?_⟩) hHeld ?_ ?_
             rotate_left
             · rintro w' ⟨s0, s1, s2, s3, s4, s5, s6, s7, s8⟩
               go_simp
               with_reducible rfl
             rotate_left
             · simp only [Act.put, List.setIfInBounds_toArray, List.set_cons_zero, List.set_cons_succ, i64_w, i32_w]
               rfl
             refine take_ (i := 5) (N := some 56) (v := ?_) (a' := ?_) #[true, true, true, true, true, true, false, false, false, false, false] rfl rfl (take_ofW HT_.out HW_.out (by kernel_rfl)) (fun _ _ _ h => h) (Or.inl ⟨by rfl, ?_⟩) hHeld ?_ ?_
             rotate_left
             · rintro w' ⟨s0, s1, s2, s3, s4, s5, s6, s7, s8⟩
               go_simp
               with_reducible rfl
             rotate_left
             · simp only [Act.put, List.setIfInBounds_toArray, List.set_cons_zero, List.set_cons_succ, i64_w, i32_w]
               rfl
             refine one_ (i := 6) (N := some 57) #[true, true, true, true, true, true, true, false, false, false, false] rfl rfl (one_of HT_.out (by kernel_rfl)) (by decide) (fun K hK => ?_)
             refine goes_ Try.func8 (by kernel_rfl) rfl #[.agg #[.int .u8 ((rd_T28 l1 x14_2).f0), .int .u64 ((rd_T28 l1 x14_2).f1), .int .i64 ((rd_T28 l1 x14_2).f2), .int .u32 ((rd_T28 l1 x14_2).f3.f0), .int .u8 ((rd_T28 l1 x14_2).f3.f1), .int .u16 ((rd_T28 l1 x14_2).f4), .int .u16 ((rd_T28 l1 x14_2).f5)]] (by rfl) rfl rfl (by (try simp only [List.map_toArray, List.map_cons, List.map_nil]); first | rfl) ?_
             with_reducible refine (milestonelaw13_near.calls k2 ((rd_T28 l1 x14_2).f0) ((rd_T28 l1 x14_2).f1) ((rd_T28 l1 x14_2).f2) ((rd_T28 l1 x14_2).f3.f0) ((rd_T28 l1 x14_2).f3.f1) ((rd_T28 l1 x14_2).f4) ((rd_T28 l1 x14_2).f5) t252 t253 t254 t255 t256 t257 t258 _ A21.out).mono ?_
             rintro e w24 ⟨rfl, hb⟩
             refine ⟨_, rfl, ?_⟩
             have n0_ := Aside0.mk (Kd.R_below HO_251001.out hb)
             have n1_ := Aside0.mk (blk_below BK250.out hb)
             have n2_ := Aside0.mk (below_step (by repeat (first | (with_reducible first | exact HB.out | refine below_set ?_ GE250.out))) hb)
             clear HO_251001
             clear BK250
             clear HB
             have HO_251001 := n0_
             have BK250 := n1_
             have HB := n2_
             clear n0_ n1_ n2_
             (try clear hb)
             (try clear hb2)
             (try clear hk)
             (try clear hi)
             refine hK.out _ _ ⟨(blk_cell BK250.out 0).trans rfl, (blk_cell BK250.out 1).trans rfl, ((HB.out.cell (World.block_lt_of_cell? w _ hw251_0)).trans hw251_0), ((HB.out.cell (World.block_lt_of_cell? w _ hw251_1)).trans hw251_1), ((HB.out.cell (World.block_lt_of_cell? w _ hw251_2)).trans hw251_2), ((HB.out.cell (World.block_lt_of_cell? w _ hw251_3)).trans hw251_3), ((HB.out.cell (World.block_lt_of_cell? w _ hw251_4)).trans hw251_4), ((HB.out.cell (World.block_lt_of_cell? w _ hw251_5)).trans hw251_5), ((HB.out.cell (World.block_lt_of_cell? w _ hw251_6)).trans hw251_6)⟩ (fun hHeld => ?_)
             clear hK K
             refine norm_ (a' := ?_) ?_ ?_
             rotate_left
             · show Act.put _ (some 57) _ = _
               simp only [Act.put, List.setIfInBounds_toArray, List.set_cons_zero, List.set_cons_succ, i64_w, i32_w]
               rfl
             refine one_ (i := 7) (N := some 58) #[true, true, true, true, true, true, true, true, false, false, false] rfl rfl (one_of HT_.out (by kernel_rfl)) (by decide) (fun K hK => ?_)
             refine value_ (w1 := ?_) (v := ?_) (by rfl) rfl ?_ ?_
             rotate_left 2
             · go_simp
               constructor
               · rfl
               · rfl
             refine hK.out _ _ ⟨(blk_cell (blk_alloc BK250.out _) 0).trans rfl, (blk_cell (blk_alloc BK250.out _) 1).trans rfl, (World.cell?_alloc_lt _ _ _ (World.block_lt_of_cell? _ _ (((HB.out.cell (World.block_lt_of_cell? w _ hw251_0)).trans hw251_0)))).trans (((HB.out.cell (World.block_lt_of_cell? w _ hw251_0)).trans hw251_0)), (World.cell?_alloc_lt _ _ _ (World.block_lt_of_cell? _ _ (((HB.out.cell (World.block_lt_of_cell? w _ hw251_1)).trans hw251_1)))).trans (((HB.out.cell (World.block_lt_of_cell? w _ hw251_1)).trans hw251_1)), (World.cell?_alloc_lt _ _ _ (World.block_lt_of_cell? _ _ (((HB.out.cell (World.block_lt_of_cell? w _ hw251_2)).trans hw251_2)))).trans (((HB.out.cell (World.block_lt_of_cell? w _ hw251_2)).trans hw251_2)), (World.cell?_alloc_lt _ _ _ (World.block_lt_of_cell? _ _ (((HB.out.cell (World.block_lt_of_cell? w _ hw251_3)).trans hw251_3)))).trans (((HB.out.cell (World.block_lt_of_cell? w _ hw251_3)).trans hw251_3)), (World.cell?_alloc_lt _ _ _ (World.block_lt_of_cell? _ _ (((HB.out.cell (World.block_lt_of_cell? w _ hw251_4)).trans hw251_4)))).trans (((HB.out.cell (World.block_lt_of_cell? w _ hw251_4)).trans hw251_4)), (World.cell?_alloc_lt _ _ _ (World.block_lt_of_cell? _ _ (((HB.out.cell (World.block_lt_of_cell? w _ hw251_5)).trans hw251_5)))).trans (((HB.out.cell (World.block_lt_of_cell? w _ hw251_5)).trans hw251_5)), (World.cell?_alloc_lt _ _ _ (World.block_lt_of_cell? _ _ (((HB.out.cell (World.block_lt_of_cell? w _ hw251_6)).trans hw251_6)))).trans (((HB.out.cell (World.block_lt_of_cell? w _ hw251_6)).trans hw251_6))⟩ (fun hHeld => ?_)
             clear hK K
             refine norm_ (a' := ?_) ?_ ?_
             rotate_left
             · show Act.put _ (some 58) _ = _
               simp only [Act.put, List.setIfInBounds_toArray, List.set_cons_zero, List.set_cons_succ, i64_w, i32_w]
               rfl
             refine one_ (i := 8) (N := some 59) #[true, true, true, true, true, true, true, true, true, false, false] rfl rfl (one_of HT_.out (by kernel_rfl)) (by decide) (fun K hK => ?_)
             refine Kd.R_append_step k28 (w0 := w) w.heap.size (by rfl) (.tmp 52) (.tmp 58) 32 28 (.agg #[(.int .u8 0), (.int .u64 0), (.int .i64 0), (.int .u32 0), (.int .u8 0), (.int .u16 0), (.int .u16 0)]) 40 rfl Try.underlying32 info28 rfl (by decide) (by omega) u251001 x251001_2 (⟨t252, t253, t254, (⟨t255, t256⟩ : S25), t257, t258⟩ : S28) [.int .u8 t252, .int .u64 t253, .int .i64 t254, .int .u32 t255, .int .u8 t256, .int .u16 t257, .int .u16 t258] (fun _ => True) (fun _ => False) rfl rfl ?aP (fun _ hk => hk.elim) ?aF ?aO ?aB ?aS ?aL ?_
             (case aP => exact k28_mkM _ _ _ (⟨t252, t253, t254, (⟨t255, t256⟩ : S25), t257, t258⟩ : S28))
             (case aB => exact (by repeat (first | (with_reducible first | exact HB.out | refine below_set ?_ GE250.out))))
             (case aF => exact (fun _ _ => trivial))
             (case aO => exact HO_251001.out)
             (case aS => exact (below_size (by repeat (first | (with_reducible first | exact HB.out | refine below_set ?_ GE250.out)))))
             (case aL => have := LMc22.out; omega)
             intro v260 w25 ho hb hg hat
             rw [← Ny259.out] at ho
             have n0_ := Aside0.mk (blk_grown BK250.out hg (Kd.R_ne HO_251001.out BK250.out (by decide)))
             have n1_ := Aside0.mk (hb)
             have n2_ := Aside0.mk (ho)
             clear BK250
             clear HB
             clear HO_251001
             have BK250 := n0_
             have HB := n1_
             have HO261 := n2_
             clear n0_ n1_ n2_
             clear ho hb hg hat
             obtain ⟨Ao26, co26, eo26⟩ := Kd.R_slice HO261.out
             (first | subst eo26)
             refine hK.out _ _ ⟨(blk_cell BK250.out 0).trans rfl, (blk_cell BK250.out 1).trans rfl, ((HB.out.cell (World.block_lt_of_cell? w _ hw251_0)).trans hw251_0), ((HB.out.cell (World.block_lt_of_cell? w _ hw251_1)).trans hw251_1), ((HB.out.cell (World.block_lt_of_cell? w _ hw251_2)).trans hw251_2), ((HB.out.cell (World.block_lt_of_cell? w _ hw251_3)).trans hw251_3), ((HB.out.cell (World.block_lt_of_cell? w _ hw251_4)).trans hw251_4), ((HB.out.cell (World.block_lt_of_cell? w _ hw251_5)).trans hw251_5), ((HB.out.cell (World.block_lt_of_cell? w _ hw251_6)).trans hw251_6)⟩ (fun hHeld => ?_)
             clear hK K
             refine norm_ (a' := ?_) ?_ ?_
             rotate_left
             · show Act.put _ (some 59) _ = _
               simp only [Act.put, List.setIfInBounds_toArray, List.set_cons_zero, List.set_cons_succ, i64_w, i32_w]
               rfl
             refine pure_ (i := 9) (N := some 60) (v := ?_) (a' := ?_) #[true, true, true, true, true, true, true, true, true, true, false] rfl rfl (any_of HT_.out (by kernel_rfl)) (fun _ _ _ h => h) (Or.inl ⟨by rfl, ?_⟩) ?_ ?_
             rotate_left
             · intro w'
               go_simp
               with_reducible rfl
             rotate_left
             · simp only [Act.put, List.setIfInBounds_toArray, List.set_cons_zero, List.set_cons_succ, i64_w, i32_w]
               rfl
             refine last_ (i := 10) (N := none) #[true, true, true, true, true, true, true, true, true, true, true] rfl rfl (one_of HT_.out (by kernel_rfl)) (by decide) (fun K hK => ?_)
             have hs27 : w25.cell? ⟨gb250, 1, none⟩ = some (u251001) := (blk_cell BK250.out 1).trans rfl
             have hfs27 := blk_frozen BK250.out 1
             refine skip_ (w1 := ?_) (by rfl) rfl ?_ ?_
             rotate_left
             · go_simp
               rfl
             refine hK.out _ _ ?_
             clear hK K
             refine done_ (done_of HT_.out (by kernel_rfl)) ?_
             try go_wp2
             go_roundg k2
             case measure => have := HJ6.out; have := HK2.out; omega
             case rel => exact ⟨(wrap64 (x14_2 + 1)), (y259), (.slice Ao26 y259.length co26), (by first | rfl | (refine qa_int ?_; simp <;> omega)), H', ⟨by have := HJ6.out; have := HK2.out; omega⟩, ⟨by exact Kd.R_mono (Kd.R_far (p := ⟨gb250, 1, none⟩) (Kd.R_types HO261.out BK250.out (by decide)) (fun _ hk => hk.2) (.slice Ao26 y259.length co26)) (fun _ hk => trivial)⟩, ⟨by refine blk_put (cs := #[.int .i64 (wrap64 (Int.tmod a0 16)), u251001]) ?_ 1 _ rfl; exact BK250.out⟩, ⟨by repeat (first | (with_reducible first | exact HB.out | refine below_set ?_ GE250.out))⟩⟩
           · rw [if_neg c22] at H
             exact absurd H (by simp)
         · rw [if_neg c20] at H
           exact absurd H (by simp)
       · rw [if_neg c19] at H
         have c19b0 : decide (x14_2 < (l1.length : Int)) = false := decide_eq_false c19
         clear c19
         replace H := Option.bind_eq_some_iff.mp H
         obtain ⟨t262, A280, H⟩ := H
         replace H : (if ([] : List Int).length + t262.length < 140737488355328 then ((some (([] : List Int) ++ t262 : List Int)).bind fun y265 => (if (y265.length : Int) = 0 then (none) else (if 0 ≤ (Int.tmod (wrap64 (a2)) (y265.length : Int)) then (if (Int.tmod (wrap64 (a2)) (y265.length : Int)) < (y265.length : Int) then ((message_Decode.f k2 (y265.set ((Int.tmod (wrap64 (a2)) (y265.length : Int)) : Int).toNat (Go.bits .xor .u8 (rd y265 (Int.tmod (wrap64 (a2)) (y265.length : Int))) a3))).bind fun bt270 => (if (t262.length : Int) = 0 then (none) else (if 0 ≤ (Int.tmod (wrap64 (a4)) (t262.length : Int)) then (if (Int.tmod (wrap64 (a4)) (t262.length : Int)) ≤ (t262.length : Int) then ((message_Decode.f k2 (t262.take ((Int.tmod (wrap64 (a4)) (t262.length : Int)) : Int).toNat)).bind fun bt281 => ((message_Decode.f k2 l5).bind fun bt288 => (if (wrap64 ((l5.length : Int) - 4)) ≥ 2 then (if 0 ≤ (wrap64 ((l5.length : Int) - 4)) then (if (wrap64 ((l5.length : Int) - 4)) ≤ (l5.length : Int) then ((milestoneref01_Tail.f k2 (l5.take ((wrap64 ((l5.length : Int) - 4)) : Int).toNat)).bind fun t296 => (if ((bt270.2.2.2 == 0) == (a3 == 0)) = true then (if bt281.2.2.2 = 0 then ((milestonelaw13_sums.f k2 (t262.take ((Int.tmod (wrap64 (a4)) (t262.length : Int)) : Int).toNat)).bind fun t304 => (if t304 = true then (if bt288.2.2.2 = 0 then (some ((strOfNums t296).toList == (strOfNums (l5.drop ((wrap64 ((l5.length : Int) - 4)) : Int).toNat)).toList)) else (some true)) else (some false))) else (if bt288.2.2.2 = 0 then (some ((strOfNums t296).toList == (strOfNums (l5.drop ((wrap64 ((l5.length : Int) - 4)) : Int).toNat)).toList)) else (some true))) else (some false))) else (none)) else (none)) else (if ((bt270.2.2.2 == 0) == (a3 == 0)) = true then (if bt281.2.2.2 = 0 then ((milestonelaw13_sums.f k2 (t262.take ((Int.tmod (wrap64 (a4)) (t262.length : Int)) : Int).toNat)).bind fun t309 => (if t309 = true then (if bt288.2.2.2 = 0 then (some false) else (some true)) else (some false))) else (if bt288.2.2.2 = 0 then (some false) else (some true))) else (some false))))) else (none)) else (none)))) else (none)) else (none)))) else (none)) = some r := H
         have A28 := Aside0.mk A280
         clear A280
         by_cases c29 : ([] : List Int).length + t262.length < 140737488355328
         · rw [if_pos c29] at H
           have LMc29 := Aside0.mk c29
           clear c29
           obtain ⟨y265, hy265⟩ : ∃ y_ : List Int, y_ = (([] : List Int) ++ t262) := ⟨_, rfl⟩
           replace H : (if (y265.length : Int) = 0 then (none) else (if 0 ≤ (Int.tmod (wrap64 (a2)) (y265.length : Int)) then (if (Int.tmod (wrap64 (a2)) (y265.length : Int)) < (y265.length : Int) then ((message_Decode.f k2 (y265.set ((Int.tmod (wrap64 (a2)) (y265.length : Int)) : Int).toNat (Go.bits .xor .u8 (rd y265 (Int.tmod (wrap64 (a2)) (y265.length : Int))) a3))).bind fun bt270 => (if (t262.length : Int) = 0 then (none) else (if 0 ≤ (Int.tmod (wrap64 (a4)) (t262.length : Int)) then (if (Int.tmod (wrap64 (a4)) (t262.length : Int)) ≤ (t262.length : Int) then ((message_Decode.f k2 (t262.take ((Int.tmod (wrap64 (a4)) (t262.length : Int)) : Int).toNat)).bind fun bt281 => ((message_Decode.f k2 l5).bind fun bt288 => (if (wrap64 ((l5.length : Int) - 4)) ≥ 2 then (if 0 ≤ (wrap64 ((l5.length : Int) - 4)) then (if (wrap64 ((l5.length : Int) - 4)) ≤ (l5.length : Int) then ((milestoneref01_Tail.f k2 (l5.take ((wrap64 ((l5.length : Int) - 4)) : Int).toNat)).bind fun t296 => (if ((bt270.2.2.2 == 0) == (a3 == 0)) = true then (if bt281.2.2.2 = 0 then ((milestonelaw13_sums.f k2 (t262.take ((Int.tmod (wrap64 (a4)) (t262.length : Int)) : Int).toNat)).bind fun t304 => (if t304 = true then (if bt288.2.2.2 = 0 then (some ((strOfNums t296).toList == (strOfNums (l5.drop ((wrap64 ((l5.length : Int) - 4)) : Int).toNat)).toList)) else (some true)) else (some false))) else (if bt288.2.2.2 = 0 then (some ((strOfNums t296).toList == (strOfNums (l5.drop ((wrap64 ((l5.length : Int) - 4)) : Int).toNat)).toList)) else (some true))) else (some false))) else (none)) else (none)) else (if ((bt270.2.2.2 == 0) == (a3 == 0)) = true then (if bt281.2.2.2 = 0 then ((milestonelaw13_sums.f k2 (t262.take ((Int.tmod (wrap64 (a4)) (t262.length : Int)) : Int).toNat)).bind fun t309 => (if t309 = true then (if bt288.2.2.2 = 0 then (some false) else (some true)) else (some false))) else (if bt288.2.2.2 = 0 then (some false) else (some true))) else (some false))))) else (none)) else (none)))) else (none)) else (none))) = some r := by first | (have H2_ := (Option.bind_some _ _).symm.trans H; rw [hy265]; with_reducible exact H2_) | exact H
           have Ny265 := Aside0.mk hy265
           clear hy265
           by_cases c30 : (y265.length : Int) = 0
           · rw [if_pos c30] at H
             exact absurd H (by simp)
           · rw [if_neg c30] at H
             have c30b0 : ((y265.length : Int) == 0) = false := beq_eq_false_iff_ne.mpr c30
             have c30b1 : ((y265.length : Int) != 0) = true := bne_iff_ne.mpr c30
             have c30b2 : ¬ (y265 = []) := fun h_ => c30 (by rw [h_]; rfl)
             obtain ⟨ji31, hji31⟩ : ∃ j_ : Int, (Int.tmod (wrap64 (a2)) (y265.length : Int)) = j_ := ⟨_, rfl⟩
             replace H : (if 0 ≤ (ji31) then (if (ji31) < (y265.length : Int) then ((message_Decode.f k2 (y265.set ((ji31) : Int).toNat (Go.bits .xor .u8 (rd y265 (ji31)) a3))).bind fun bt270 => (if (t262.length : Int) = 0 then (none) else (if 0 ≤ (Int.tmod (wrap64 (a4)) (t262.length : Int)) then (if (Int.tmod (wrap64 (a4)) (t262.length : Int)) ≤ (t262.length : Int) then ((message_Decode.f k2 (t262.take ((Int.tmod (wrap64 (a4)) (t262.length : Int)) : Int).toNat)).bind fun bt281 => ((message_Decode.f k2 l5).bind fun bt288 => (if (wrap64 ((l5.length : Int) - 4)) ≥ 2 then (if 0 ≤ (wrap64 ((l5.length : Int) - 4)) then (if (wrap64 ((l5.length : Int) - 4)) ≤ (l5.length : Int) then ((milestoneref01_Tail.f k2 (l5.take ((wrap64 ((l5.length : Int) - 4)) : Int).toNat)).bind fun t296 => (if ((bt270.2.2.2 == 0) == (a3 == 0)) = true then (if bt281.2.2.2 = 0 then ((milestonelaw13_sums.f k2 (t262.take ((Int.tmod (wrap64 (a4)) (t262.length : Int)) : Int).toNat)).bind fun t304 => (if t304 = true then (if bt288.2.2.2 = 0 then (some ((strOfNums t296).toList == (strOfNums (l5.drop ((wrap64 ((l5.length : Int) - 4)) : Int).toNat)).toList)) else (some true)) else (some false))) else (if bt288.2.2.2 = 0 then (some ((strOfNums t296).toList == (strOfNums (l5.drop ((wrap64 ((l5.length : Int) - 4)) : Int).toNat)).toList)) else (some true))) else (some false))) else (none)) else (none)) else (if ((bt270.2.2.2 == 0) == (a3 == 0)) = true then (if bt281.2.2.2 = 0 then ((milestonelaw13_sums.f k2 (t262.take ((Int.tmod (wrap64 (a4)) (t262.length : Int)) : Int).toNat)).bind fun t309 => (if t309 = true then (if bt288.2.2.2 = 0 then (some false) else (some true)) else (some false))) else (if bt288.2.2.2 = 0 then (some false) else (some true))) else (some false))))) else (none)) else (none)))) else (none)) else (none)) = some r := by first | (rw [hji31] at H; exact H)
             (try rw [hji31] at A28)
             by_cases c32 : 0 ≤ (ji31)
             · rw [if_pos c32] at H
               have c32b0 : decide (0 ≤ (ji31)) = true := decide_eq_true c32
               clear c32
               by_cases c33 : (ji31) < (y265.length : Int)
               · rw [if_pos c33] at H
                 have c33b0 : decide ((ji31) < (y265.length : Int)) = true := decide_eq_true c33
                 clear c33
                 obtain ⟨y269, hy269⟩ : ∃ y_ : List Int, y_ = (y265.set ((ji31) : Int).toNat (Go.bits .xor .u8 (rd y265 (ji31)) a3)) := ⟨_, rfl⟩
                 replace H : ((message_Decode.f k2 y269).bind fun bt270 => (if (t262.length : Int) = 0 then (none) else (if 0 ≤ (Int.tmod (wrap64 (a4)) (t262.length : Int)) then (if (Int.tmod (wrap64 (a4)) (t262.length : Int)) ≤ (t262.length : Int) then ((message_Decode.f k2 (t262.take ((Int.tmod (wrap64 (a4)) (t262.length : Int)) : Int).toNat)).bind fun bt281 => ((message_Decode.f k2 l5).bind fun bt288 => (if (wrap64 ((l5.length : Int) - 4)) ≥ 2 then (if 0 ≤ (wrap64 ((l5.length : Int) - 4)) then (if (wrap64 ((l5.length : Int) - 4)) ≤ (l5.length : Int) then ((milestoneref01_Tail.f k2 (l5.take ((wrap64 ((l5.length : Int) - 4)) : Int).toNat)).bind fun t296 => (if ((bt270.2.2.2 == 0) == (a3 == 0)) = true then (if bt281.2.2.2 = 0 then ((milestonelaw13_sums.f k2 (t262.take ((Int.tmod (wrap64 (a4)) (t262.length : Int)) : Int).toNat)).bind fun t304 => (if t304 = true then (if bt288.2.2.2 = 0 then (some ((strOfNums t296).toList == (strOfNums (l5.drop ((wrap64 ((l5.length : Int) - 4)) : Int).toNat)).toList)) else (some true)) else (some false))) else (if bt288.2.2.2 = 0 then (some ((strOfNums t296).toList == (strOfNums (l5.drop ((wrap64 ((l5.length : Int) - 4)) : Int).toNat)).toList)) else (some true))) else (some false))) else (none)) else (none)) else (if ((bt270.2.2.2 == 0) == (a3 == 0)) = true then (if bt281.2.2.2 = 0 then ((milestonelaw13_sums.f k2 (t262.take ((Int.tmod (wrap64 (a4)) (t262.length : Int)) : Int).toNat)).bind fun t309 => (if t309 = true then (if bt288.2.2.2 = 0 then (some false) else (some true)) else (some false))) else (if bt288.2.2.2 = 0 then (some false) else (some true))) else (some false))))) else (none)) else (none)))) = some r := by first | (rw [hy269]; with_reducible exact H) | exact H
                 have Ny269 := Aside0.mk hy269
                 clear hy269
                 replace H := Option.bind_eq_some_iff.mp H
                 obtain ⟨⟨t270, t271, t274, t275⟩, A350, H⟩ := H
                 replace H : (if (t262.length : Int) = 0 then (none) else (if 0 ≤ (Int.tmod (wrap64 (a4)) (t262.length : Int)) then (if (Int.tmod (wrap64 (a4)) (t262.length : Int)) ≤ (t262.length : Int) then ((message_Decode.f k2 (t262.take ((Int.tmod (wrap64 (a4)) (t262.length : Int)) : Int).toNat)).bind fun bt281 => ((message_Decode.f k2 l5).bind fun bt288 => (if (wrap64 ((l5.length : Int) - 4)) ≥ 2 then (if 0 ≤ (wrap64 ((l5.length : Int) - 4)) then (if (wrap64 ((l5.length : Int) - 4)) ≤ (l5.length : Int) then ((milestoneref01_Tail.f k2 (l5.take ((wrap64 ((l5.length : Int) - 4)) : Int).toNat)).bind fun t296 => (if ((t275 == 0) == (a3 == 0)) = true then (if bt281.2.2.2 = 0 then ((milestonelaw13_sums.f k2 (t262.take ((Int.tmod (wrap64 (a4)) (t262.length : Int)) : Int).toNat)).bind fun t304 => (if t304 = true then (if bt288.2.2.2 = 0 then (some ((strOfNums t296).toList == (strOfNums (l5.drop ((wrap64 ((l5.length : Int) - 4)) : Int).toNat)).toList)) else (some true)) else (some false))) else (if bt288.2.2.2 = 0 then (some ((strOfNums t296).toList == (strOfNums (l5.drop ((wrap64 ((l5.length : Int) - 4)) : Int).toNat)).toList)) else (some true))) else (some false))) else (none)) else (none)) else (if ((t275 == 0) == (a3 == 0)) = true then (if bt281.2.2.2 = 0 then ((milestonelaw13_sums.f k2 (t262.take ((Int.tmod (wrap64 (a4)) (t262.length : Int)) : Int).toNat)).bind fun t309 => (if t309 = true then (if bt288.2.2.2 = 0 then (some false) else (some true)) else (some false))) else (if bt288.2.2.2 = 0 then (some false) else (some true))) else (some false))))) else (none)) else (none))) = some r := H
                 have A35 := Aside0.mk A350
                 clear A350
                 by_cases c36 : (t262.length : Int) = 0
                 · rw [if_pos c36] at H
                   exact absurd H (by simp)
                 · rw [if_neg c36] at H
                   have c36b0 : ((t262.length : Int) == 0) = false := beq_eq_false_iff_ne.mpr c36
                   have c36b1 : ((t262.length : Int) != 0) = true := bne_iff_ne.mpr c36
                   have c36b2 : ¬ (t262 = []) := fun h_ => c36 (by rw [h_]; rfl)
                   obtain ⟨ji37, hji37⟩ : ∃ j_ : Int, (Int.tmod (wrap64 (a4)) (t262.length : Int)) = j_ := ⟨_, rfl⟩
                   replace H : (if 0 ≤ (ji37) then (if (ji37) ≤ (t262.length : Int) then ((message_Decode.f k2 (t262.take ((ji37) : Int).toNat)).bind fun bt281 => ((message_Decode.f k2 l5).bind fun bt288 => (if (wrap64 ((l5.length : Int) - 4)) ≥ 2 then (if 0 ≤ (wrap64 ((l5.length : Int) - 4)) then (if (wrap64 ((l5.length : Int) - 4)) ≤ (l5.length : Int) then ((milestoneref01_Tail.f k2 (l5.take ((wrap64 ((l5.length : Int) - 4)) : Int).toNat)).bind fun t296 => (if ((t275 == 0) == (a3 == 0)) = true then (if bt281.2.2.2 = 0 then ((milestonelaw13_sums.f k2 (t262.take ((ji37) : Int).toNat)).bind fun t304 => (if t304 = true then (if bt288.2.2.2 = 0 then (some ((strOfNums t296).toList == (strOfNums (l5.drop ((wrap64 ((l5.length : Int) - 4)) : Int).toNat)).toList)) else (some true)) else (some false))) else (if bt288.2.2.2 = 0 then (some ((strOfNums t296).toList == (strOfNums (l5.drop ((wrap64 ((l5.length : Int) - 4)) : Int).toNat)).toList)) else (some true))) else (some false))) else (none)) else (none)) else (if ((t275 == 0) == (a3 == 0)) = true then (if bt281.2.2.2 = 0 then ((milestonelaw13_sums.f k2 (t262.take ((ji37) : Int).toNat)).bind fun t309 => (if t309 = true then (if bt288.2.2.2 = 0 then (some false) else (some true)) else (some false))) else (if bt288.2.2.2 = 0 then (some false) else (some true))) else (some false))))) else (none)) else (none)) = some r := by first | (rw [hji37] at H; exact H)
                   (try rw [hji37] at A28)
                   (try rw [hji37] at A35)
                   by_cases c38 : 0 ≤ (ji37)
                   · rw [if_pos c38] at H
                     have c38b0 := eq_true c38
                     have c38b1 : decide (0 ≤ (ji37)) = true := decide_eq_true c38
                     clear c38
                     by_cases c39 : (ji37) ≤ (t262.length : Int)
                     · rw [if_pos c39] at H
                       have c39b0 := eq_true c39
                       have c39b1 : decide ((ji37) ≤ (t262.length : Int)) = true := decide_eq_true c39
                       clear c39
                       obtain ⟨y277, hy277⟩ : ∃ y_ : List Int, y_ = (t262.take ((ji37) : Int).toNat) := ⟨_, rfl⟩
                       replace H : ((message_Decode.f k2 y277).bind fun bt281 => ((message_Decode.f k2 l5).bind fun bt288 => (if (wrap64 ((l5.length : Int) - 4)) ≥ 2 then (if 0 ≤ (wrap64 ((l5.length : Int) - 4)) then (if (wrap64 ((l5.length : Int) - 4)) ≤ (l5.length : Int) then ((milestoneref01_Tail.f k2 (l5.take ((wrap64 ((l5.length : Int) - 4)) : Int).toNat)).bind fun t296 => (if ((t275 == 0) == (a3 == 0)) = true then (if bt281.2.2.2 = 0 then ((milestonelaw13_sums.f k2 (t262.take ((ji37) : Int).toNat)).bind fun t304 => (if t304 = true then (if bt288.2.2.2 = 0 then (some ((strOfNums t296).toList == (strOfNums (l5.drop ((wrap64 ((l5.length : Int) - 4)) : Int).toNat)).toList)) else (some true)) else (some false))) else (if bt288.2.2.2 = 0 then (some ((strOfNums t296).toList == (strOfNums (l5.drop ((wrap64 ((l5.length : Int) - 4)) : Int).toNat)).toList)) else (some true))) else (some false))) else (none)) else (none)) else (if ((t275 == 0) == (a3 == 0)) = true then (if bt281.2.2.2 = 0 then ((milestonelaw13_sums.f k2 (t262.take ((ji37) : Int).toNat)).bind fun t309 => (if t309 = true then (if bt288.2.2.2 = 0 then (some false) else (some true)) else (some false))) else (if bt288.2.2.2 = 0 then (some false) else (some true))) else (some false))))) = some r := by first | (rw [hy277]; with_reducible exact H) | exact H
                       have Ny277 := Aside0.mk hy277
                       clear hy277
                       replace H := Option.bind_eq_some_iff.mp H
                       obtain ⟨⟨t281, t282, t285, t286⟩, A400, H⟩ := H
                       replace H : ((message_Decode.f k2 l5).bind fun bt288 => (if (wrap64 ((l5.length : Int) - 4)) ≥ 2 then (if 0 ≤ (wrap64 ((l5.length : Int) - 4)) then (if (wrap64 ((l5.length : Int) - 4)) ≤ (l5.length : Int) then ((milestoneref01_Tail.f k2 (l5.take ((wrap64 ((l5.length : Int) - 4)) : Int).toNat)).bind fun t296 => (if ((t275 == 0) == (a3 == 0)) = true then (if t286 = 0 then ((milestonelaw13_sums.f k2 (t262.take ((ji37) : Int).toNat)).bind fun t304 => (if t304 = true then (if bt288.2.2.2 = 0 then (some ((strOfNums t296).toList == (strOfNums (l5.drop ((wrap64 ((l5.length : Int) - 4)) : Int).toNat)).toList)) else (some true)) else (some false))) else (if bt288.2.2.2 = 0 then (some ((strOfNums t296).toList == (strOfNums (l5.drop ((wrap64 ((l5.length : Int) - 4)) : Int).toNat)).toList)) else (some true))) else (some false))) else (none)) else (none)) else (if ((t275 == 0) == (a3 == 0)) = true then (if t286 = 0 then ((milestonelaw13_sums.f k2 (t262.take ((ji37) : Int).toNat)).bind fun t309 => (if t309 = true then (if bt288.2.2.2 = 0 then (some false) else (some true)) else (some false))) else (if bt288.2.2.2 = 0 then (some false) else (some true))) else (some false)))) = some r := H
                       have A40 := Aside0.mk A400
                       clear A400
                       replace H := Option.bind_eq_some_iff.mp H
                       obtain ⟨⟨t288, t289, t292, t293⟩, A410, H⟩ := H
                       replace H : (if (wrap64 ((l5.length : Int) - 4)) ≥ 2 then (if 0 ≤ (wrap64 ((l5.length : Int) - 4)) then (if (wrap64 ((l5.length : Int) - 4)) ≤ (l5.length : Int) then ((milestoneref01_Tail.f k2 (l5.take ((wrap64 ((l5.length : Int) - 4)) : Int).toNat)).bind fun t296 => (if ((t275 == 0) == (a3 == 0)) = true then (if t286 = 0 then ((milestonelaw13_sums.f k2 (t262.take ((ji37) : Int).toNat)).bind fun t304 => (if t304 = true then (if t293 = 0 then (some ((strOfNums t296).toList == (strOfNums (l5.drop ((wrap64 ((l5.length : Int) - 4)) : Int).toNat)).toList)) else (some true)) else (some false))) else (if t293 = 0 then (some ((strOfNums t296).toList == (strOfNums (l5.drop ((wrap64 ((l5.length : Int) - 4)) : Int).toNat)).toList)) else (some true))) else (some false))) else (none)) else (none)) else (if ((t275 == 0) == (a3 == 0)) = true then (if t286 = 0 then ((milestonelaw13_sums.f k2 (t262.take ((ji37) : Int).toNat)).bind fun t309 => (if t309 = true then (if t293 = 0 then (some false) else (some true)) else (some false))) else (if t293 = 0 then (some false) else (some true))) else (some false))) = some r := H
                       have A41 := Aside0.mk A410
                       clear A410
                       have hcz56_0 : wr.cell? ⟨gb250, 0, none⟩ = some (.int .i64 (wrap64 (Int.tmod a0 16))) := (blk_cell BK250.out 0).trans rfl
                       have hcz56_1 : wr.cell? ⟨gb250, 1, none⟩ = some (u251001) := (blk_cell BK250.out 1).trans rfl
                       have hfz56_0 := blk_frozen BK250.out 0
                       have hfz56_1 := blk_frozen BK250.out 1
                       obtain ⟨Ao57, co57, eo57⟩ := Kd.R_slice HO_251001.out
                       subst eo57
                       try go_wp2_with (first | ((with_reducible refine gate_callee (f := 9) rfl ?_); refine goesL_ (some 62) rfl rfl Try.func9 (by kernel_rfl) rfl #[.agg #[.int .i64 (wrap64 (Int.tmod a0 16)), .slice Ao57 x251001_2.length co57]] rfl (by (try simp only [List.map_toArray, List.map_cons, List.map_nil]); first | rfl | (refine qa_arr ?_; (repeat' (first | rfl | refine qa_cons ?_ ?_ | refine qa_int ?_ | refine qa_agg ?_ | refine qa_arr ?_ | omega)); done)) ?_; (with_reducible refine (message_Encode.calls k2 (wrap64 (Int.tmod a0 16)) _ _ x251001_2 t262 _ ?side1 ?side2 A28.out).mono ?_); (case side1 => repeat (first | exact (Kd.R_reads' HO_251001.out).2.2 | (with_reducible refine Kd.C_drew ?_))); (case side2 => exact (Kd.R_reads' HO_251001.out).2.1); rintro e w58 ⟨v263, rfl, ho0, hb⟩; refine ⟨_, rfl, ?_⟩; have n0_ := Aside0.mk (Kd.R_below HO_251001.out hb); have n1_ := Aside0.mk (Kd.R_lower ho0 (below_size (by repeat (first | (with_reducible first | exact HB.out | refine below_set ?_ GE250.out))))); have n2_ := Aside0.mk (blk_below BK250.out hb); have n3_ := Aside0.mk (below_step (by repeat (first | (with_reducible first | exact HB.out | refine below_set ?_ GE250.out))) hb); clear HO_251001; clear BK250; clear HB; have HO_251001 := n0_; have HO264 := n1_; have BK250 := n2_; have HB := n3_; clear n0_ n1_ n2_ n3_; (try clear hb); (try clear hb2); (try clear hk); (try clear hi); (try clear ho0); obtain ⟨Ao60, co60, eo60⟩ := Kd.R_slice HO264.out; subst eo60) | ((with_reducible refine gate_builtin (b := .append) (xs := #[.const (.slice none 0 0), .tmp 63]) rfl ?_); (try (refine gate_guard (by rfl) ?_; dsimp only)); at_builtin; refine Kd.R_append_rows (Kd.int .u8) (w0 := w) w.heap.size rfl (.const (.slice none 0 0)) (.tmp 63) 30 5 (.int .u8 0) 1 rfl Try.underlying30 info5 rfl (by decide) (by omega) (.slice none 0 0) ([] : List Int) t262 _ _ _ (fun k_ => some k_ ≠ (.slice Ao60 t262.length co60 : Value).ownBlock) (fun _ => False) rfl rfl ?aO ?aR (fun _ _ h => h) (fun _ h => h.elim) ?aF ?aB ?aS ?aL ?_; (case aR => repeat (first | exact (Kd.R_reads' HO264.out).2.2 | (with_reducible refine Kd.C_drew ?_))); (case aB => exact (by repeat (first | (with_reducible first | exact HB.out | refine below_set ?_ GE250.out)))); (case aF => exact (fun k_ hk => Kd.fresh' (Kd.R_lt HO264.out) k_ hk)); (case aO => exact ((Kd.R_nil _ _ _ _ (fun k_ => some k_ ≠ (.slice Ao60 t262.length co60 : Value).ownBlock)))); (case aS => exact (below_size (by repeat (first | (with_reducible first | exact HB.out | refine below_set ?_ GE250.out))))); (case aL => have := LMc29.out; omega); intro v266 w59 ho hb hg hat; rw [← Ny265.out] at ho; have n0_ := Aside0.mk (Kd.R_grown HO_251001.out hg (fun _ _ => by simp [Value.ownBlock])); have n1_ := Aside0.mk (blk_grown BK250.out hg (by simp [Value.ownBlock])); have n2_ := Aside0.mk (Kd.R_after (Kd.R_apart_nil HO264.out) hg hat); have n3_ := Aside0.mk (hb); have n4_ := Aside0.mk (ho); clear HO_251001; clear BK250; clear HO264; clear HB; have HO_251001 := n0_; have BK250 := n1_; have HO264 := n2_; have HB := n3_; have HO267 := n4_; clear n0_ n1_ n2_ n3_ n4_; clear ho hb hg hat; obtain ⟨Ao61, co61, eo61⟩ := Kd.R_slice HO267.out; subst eo61; have p268 : 0 ≤ ((ji31) : Int) := of_decide_eq_true (by with_reducible assumption); have q268 : (ji31) < (y265.length : Int) := of_decide_eq_true (by with_reducible assumption); obtain ⟨ad268, e268, hx268_0⟩ := Kd.at_int (Kd.R_reads' HO267.out).2.2 (ji31) p268 q268; cases e268; replace p268 := eq_true p268; replace q268 := eq_true q268; have p34 : 0 ≤ ((ji31) : Int) := of_decide_eq_true (by with_reducible assumption); have q34 : ((ji31) : Int) < ((y265.length : Int) : Int) := of_decide_eq_true (by with_reducible assumption); obtain ⟨go34, co34, eo34, gb34, gl34, cl34, HG34⟩ := Kd.R_form HO267.out (by omega); (first | cases eo34); have GB34 := Aside0.mk gb34; have GG34 := Aside0.mk HG34; clear gb34 gl34 HG34; (first | simp only [add_plain] at hx268_0); obtain ⟨hx34_0, hf34_0⟩ := Kd.R_celln 0 HO267.out ((ji31) : Int) p34 q34; replace p34 := eq_true p34; replace q34 := eq_true q34; obtain ⟨hy62_, hz62_⟩ := Kd.R_celln 0 HO267.out ((ji31) : Int) (of_decide_eq_true (by with_reducible assumption)) (of_decide_eq_true (by with_reducible assumption)); have HP62 := Kd.R_putg HO267.out ((ji31) : Int) (Go.bits .xor .u8 (rd y265 (ji31)) a3)) | ((with_reducible refine gate_store (t := 5) (p := 75) rfl ?_); refine store_event (t := 5) (p := 75) (v := ?vo_w63) (w1 := (w59.setCell ⟨go34, ((ji31) : Int).toNat, none⟩ (.int .u8 (Go.bits .xor .u8 (rd y265 (ji31)) a3)))) ?hg ?ho ?hn ?hr ?_; (case ho => rfl); (case hg => rfl); (case hn => rfl); (case hr => first | (go_simp; done)); intro w63 hw; have hg : w59.grownBy w63 (some go34) := (by rw [hw]; exact HP62.2); have hp_ : Kd.R (Kd.int .u8) 5 w63 w.heap.size (fun k_ => some k_ ≠ (.slice Ao60 t262.length co60 : Value).ownBlock) (.slice (some ⟨go34, 0, none⟩) y265.length co61) y269 := (by rw [hw, Ny269.out]; exact HP62.1); clear HP62; have n0_ := Aside0.mk (Kd.R_over' (v := (.slice (some ⟨go34, 0, none⟩) y265.length co61)) HO_251001.out (Kd.R_typed HO267.out) (by decide) hg); have n1_ := Aside0.mk (blk_grown BK250.out hg (Kd.R_ne HO267.out BK250.out (by decide))); have n2_ := Aside0.mk (Kd.R_after (v := (.slice (some ⟨go34, 0, none⟩) y265.length co61)) (v1 := (.slice (some ⟨go34, 0, none⟩) y265.length co61)) (ok := (fun _ => True)) HO264.out hg (.inl rfl)); have n3_ := Aside0.mk (hp_); have n4_ := Aside0.mk ((by rw [hw]; exact below_set (HB.out) GB34.out : Below w.heap.size w w63)); clear HO_251001; clear BK250; clear HO264; clear HO267; clear HB; have HO_251001 := n0_; have BK250 := n1_; have HO264 := n2_; have HO267 := n3_; have HB := n4_; clear n0_ n1_ n2_ n3_ n4_; clear hg hw hp_) | ((with_reducible refine gate_callee (f := 16) rfl ?_); refine goesL_ (some 78) rfl rfl Try.func16 (by kernel_rfl) rfl #[.slice (some ⟨go34, 0, none⟩) y269.length co61] rfl (by (try simp only [List.map_toArray, List.map_cons, List.map_nil]); first | (rw [show y269.length = y265.length from (Kd.R_reads' HO267.out).1.symm] <;> rfl) | (refine qa_arr ?_; (repeat' (first | rfl | refine qa_cons ?_ ?_ | omega)); done)) ?_; (with_reducible refine (message_Decode.calls k2 _ _ y269 t270 t271 t274 t275 _ ?side1 ?side2 A35.out).mono ?_); (case side1 => repeat (first | exact (Kd.R_reads' HO267.out).2.2 | (with_reducible refine Kd.C_drew ?_))); (case side2 => rw [show y269.length = y265.length from (Kd.R_reads' HO267.out).1.symm]; exact (Kd.R_reads' HO267.out).2.1); rintro e w64 ⟨v272, rfl, ho0, hb⟩; refine ⟨_, rfl, ?_⟩; have n0_ := Aside0.mk (Kd.R_elder' HO_251001.out (Kd.R_base ho0) hb); have n1_ := Aside0.mk (Kd.R_below HO264.out hb); have n2_ := Aside0.mk (Kd.R_below HO267.out hb); have n3_ := Aside0.mk (Kd.R_lower (Kd.R_new' ho0 (Kd.R_lt HO_251001.out)) (below_size (by repeat (first | (with_reducible first | exact HB.out | refine below_set ?_ GE250.out))))); have n4_ := Aside0.mk (blk_below BK250.out hb); have n5_ := Aside0.mk (below_step (by repeat (first | (with_reducible first | exact HB.out | refine below_set ?_ GE250.out))) hb); clear HO_251001; clear HO264; clear HO267; clear BK250; clear HB; have HO_251001 := n0_; have HO264 := n1_; have HO267 := n2_; have HO273 := n3_; have BK250 := n4_; have HB := n5_; clear n0_ n1_ n2_ n3_ n4_ n5_; (try clear hb); (try clear hb2); (try clear hk); (try clear hi); (try clear ho0)) | ((with_reducible refine gate_dst (N := 17) rfl ?_); (try (refine gate_guard (by rfl) ?_; dsimp only)); refine box_event ?hg (N := 17) ?hd (cs := #[.int .i64 0, .slice none 0 0]) (t := 34) ?hr ?_; (case hd => rfl); (case hg => rfl); (case hr => first | (go_simp; done)); intro gb276 hg w65 hbox hb; have n0_ := Aside0.mk (Kd.R_below HO_251001.out hb); have n1_ := Aside0.mk (Kd.R_below HO264.out hb); have n2_ := Aside0.mk (Kd.R_below HO267.out hb); have n3_ := Aside0.mk (Kd.R_below HO273.out hb); have n4_ := Aside0.mk (blk_below BK250.out hb); have n5_ := Aside0.mk (below_step (by repeat (first | (with_reducible first | exact HB.out | refine below_set ?_ GE250.out))) hb); have n6_ := Aside0.mk (hbox); have n7_ := Aside0.mk ((by rw [hg]; exact (below_size (by repeat (first | (with_reducible first | exact HB.out | refine below_set ?_ GE250.out)))) : w.heap.size ≤ gb276)); have n8_ := Aside0.mk ((by rw [hg]; exact (below_size (by repeat (first | (with_reducible first | exact HB.out | refine below_set ?_ GE250.out)))) : w.heap.size ≤ gb276)); have n9_ := Aside0.mk ((by rw [hg]; exact Nat.ne_of_lt (blk_lt (g := gb250) (o := .cells #[.int .i64 (wrap64 (Int.tmod a0 16)), .slice Ao57 x251001_2.length co57] 34 (0, 0)) BK250.out) : gb250 ≠ gb276)); have n10_ := Aside0.mk ((by rw [hg]; exact Nat.ne_of_gt (blk_lt (g := gb250) (o := .cells #[.int .i64 (wrap64 (Int.tmod a0 16)), .slice Ao57 x251001_2.length co57] 34 (0, 0)) BK250.out) : gb276 ≠ gb250)); clear HO_251001; clear HO264; clear HO267; clear HO273; clear BK250; clear HB; have HO_251001 := n0_; have HO264 := n1_; have HO267 := n2_; have HO273 := n3_; have BK250 := n4_; have HB := n5_; have BK276 := n6_; have GW276 := n7_; have GE276 := n8_; have NB250_276 := n9_; have NB276_250 := n10_; clear n0_ n1_ n2_ n3_ n4_ n5_ n6_ n7_ n8_ n9_ n10_; clear hb hbox hg; have hnb66 := NB276_250.out; have hnc66 := NB250_276.out; have hcz67_0 : w65.cell? ⟨gb276, 0, none⟩ = some (.int .i64 0) := (blk_cell BK276.out 0).trans rfl; have hcz67_1 : w65.cell? ⟨gb276, 1, none⟩ = some (.slice none 0 0) := (blk_cell BK276.out 1).trans rfl; have hfz67_0 := blk_frozen BK276.out 0; have hfz67_1 := blk_frozen BK276.out 1; obtain ⟨Ao68, co68, eo68⟩ := Kd.R_slice HO273.out; subst eo68) | ((with_reducible refine gate_store (t := 34) (p := 17) rfl ?_); refine store_event (t := 34) (p := 17) (v := ?vo_w69) (w1 := ((w65.setCell ⟨gb276, 0, none⟩ (.int .i64 t270)).setCell ⟨gb276, 1, none⟩ (.slice Ao68 t271.length co68))) ?hg ?ho ?hn ?hr ?_; (case ho => rfl); (case hg => rfl); (case hn => rfl); (case hr => first | (go_simp; done)); intro w69 hw; have n0_ : Aside0 (Kd.R k28 28 w69 w.heap.size (fun k_ => some k_ ≠ (.slice Ao68 t271.length co68 : Value).ownBlock) (.slice Ao57 x251001_2.length co57) x251001_2) := ⟨(by rw [hw]; exact (by exact Kd.R_mono (Kd.R_far (p := ⟨gb276, 1, none⟩) (Kd.R_far (p := ⟨gb276, 0, none⟩) (Kd.R_types HO_251001.out BK276.out (by decide)) (fun _ hk => hk.2) (.int .i64 t270)) (fun _ hk => hk.2) (.slice Ao68 t271.length co68)) (fun _ hk => hk.1.2)))⟩; have n1_ : Aside0 (Kd.R (Kd.int .u8) 5 w69 w.heap.size (fun k_ => some k_ ≠ (.slice (some ⟨go34, 0, none⟩) y265.length co61 : Value).ownBlock) (.slice Ao60 t262.length co60) t262) := ⟨(by rw [hw]; exact (by exact Kd.R_mono (Kd.R_far (p := ⟨gb276, 1, none⟩) (Kd.R_far (p := ⟨gb276, 0, none⟩) (Kd.R_types HO264.out BK276.out (by decide)) (fun _ hk => hk.2) (.int .i64 t270)) (fun _ hk => hk.2) (.slice Ao68 t271.length co68)) (fun _ hk => hk.1.2)))⟩; have n2_ : Aside0 (Kd.R (Kd.int .u8) 5 w69 w.heap.size (fun k_ => some k_ ≠ (.slice Ao60 t262.length co60 : Value).ownBlock) (.slice (some ⟨go34, 0, none⟩) y265.length co61) y269) := ⟨(by rw [hw]; exact (by exact Kd.R_mono (Kd.R_far (p := ⟨gb276, 1, none⟩) (Kd.R_far (p := ⟨gb276, 0, none⟩) (Kd.R_types HO267.out BK276.out (by decide)) (fun _ hk => hk.2) (.int .i64 t270)) (fun _ hk => hk.2) (.slice Ao68 t271.length co68)) (fun _ hk => hk.1)))⟩; have n3_ : Aside0 (Kd.R k28 28 w69 w.heap.size (fun k_ => some k_ ≠ (.slice Ao57 x251001_2.length co57 : Value).ownBlock) (.slice Ao68 t271.length co68) t271) := ⟨(by rw [hw]; exact (by exact Kd.R_mono (Kd.R_far (p := ⟨gb276, 1, none⟩) (Kd.R_far (p := ⟨gb276, 0, none⟩) (Kd.R_types HO273.out BK276.out (by decide)) (fun _ hk => hk.2) (.int .i64 t270)) (fun _ hk => hk.2) (.slice Ao68 t271.length co68)) (fun _ hk => hk.1.2)))⟩; have n4_ : Aside0 (w69.heap[gb250]? = some (.cells #[.int .i64 (wrap64 (Int.tmod a0 16)), .slice Ao57 x251001_2.length co57] 34 (0, 0))) := ⟨(by rw [hw]; exact (by refine blk_far ?_ NB250_276.out _; refine blk_far ?_ NB250_276.out _; exact BK250.out))⟩; have n5_ : Aside0 (w69.heap[gb276]? = some (.cells #[.int .i64 t270, .slice Ao68 t271.length co68] 34 (0, 0))) := ⟨(by rw [hw]; exact (by refine blk_put (cs := #[.int .i64 t270, .slice none 0 0]) ?_ 1 _ rfl; refine blk_put (cs := #[.int .i64 0, .slice none 0 0]) ?_ 0 _ rfl; exact BK276.out))⟩; have n6_ : Aside0 (Below w.heap.size w w69) := ⟨(by rw [hw]; exact (by repeat (first | (with_reducible first | exact HB.out | refine below_set ?_ GE276.out))))⟩; clear hw; clear HO_251001; clear HO264; clear HO267; clear HO273; clear BK250; clear BK276; clear HB; have HO_251001 := n0_; have HO264 := n1_; have HO267 := n2_; have HO273 := n3_; have BK250 := n4_; have BK276 := n5_; have HB := n6_; clear n0_ n1_ n2_ n3_ n4_ n5_ n6_; have q70 : ((ji37) : Int) ≤ ((t262.length : Int) : Int) := of_decide_eq_true (by with_reducible assumption); obtain ⟨i070, hi070, _, hsz70, _⟩ := info_parts info5; have hroom70 : t262.length ≤ co60 := (Kd.R_reads' HO264.out).2.1; have hC70 : Kd.C (Kd.int .u8) _ Ao60 t262.length t262 := (Kd.R_reads' HO264.out).2.2; have hcut70 := cut_to (P := Try.prog) 30 5 .i64 Try.underlying30 hi070 Ao60 t262.length co60 (ji37) (of_decide_eq_true (by with_reducible assumption)) q70 hroom70; have hr70 := Kd.C_take (m := ((ji37) : Int).toNat) hC70 (by omega); have hy70 : y277.length = ((ji37) : Int).toNat := (by rw [Ny277.out, List.length_take]; omega); rw [← Ny277.out] at hr70; rw [← hy70] at hcut70; have HR280 := Aside0.mk hr70; have HC280 := Aside0.mk (show y277.length ≤ co60 from by omega); clear hr70 hC70 hroom70 hi070 hsz70; have KY70 := Aside0.mk hy70; clear hy70; have KL70 := Aside0.mk (show ((ji37) : Int).toNat ≤ t262.length from by omega); replace q70 := eq_true q70) | ((with_reducible refine gate_callee (f := 16) rfl ?_); refine goesL_ (some 90) rfl rfl Try.func16 (by kernel_rfl) rfl #[.slice Ao60 y277.length co60] rfl (by (try simp only [List.map_toArray, List.map_cons, List.map_nil]); first | rfl | (refine qa_arr ?_; (repeat' (first | rfl | refine qa_cons ?_ ?_ | omega)); done)) ?_; (with_reducible refine (message_Decode.calls k2 _ _ y277 t281 t282 t285 t286 _ ?side1 ?side2 A40.out).mono ?_); (case side1 => repeat (first | exact (by repeat (first | (with_reducible exact HR280.out) | exact HR280.out)) | (with_reducible refine Kd.C_drew ?_))); (case side2 => exact HC280.out); rintro e w71 ⟨v283, rfl, ho0, hb⟩; refine ⟨_, rfl, ?_⟩; have n0_ := Aside0.mk (Kd.R_elder' HO_251001.out (Kd.R_base ho0) hb); have n1_ := Aside0.mk (Kd.R_below HO264.out hb); have n2_ := Aside0.mk (Kd.R_below HO267.out hb); have n3_ := Aside0.mk (Kd.R_elder' HO273.out (Kd.R_base ho0) hb); have n4_ := Aside0.mk (Kd.R_lower (Kd.R_new' (Kd.R_new' ho0 (Kd.R_lt HO_251001.out)) (Kd.R_lt HO273.out)) (below_size (by repeat (first | (with_reducible first | exact HB.out | refine below_set ?_ GE276.out))))); have n5_ := Aside0.mk (blk_below BK250.out hb); have n6_ := Aside0.mk (blk_below BK276.out hb); have n7_ := Aside0.mk (Kd.C_below (by repeat (first | (with_reducible exact HR280.out) | exact HR280.out)) hb); have n8_ := Aside0.mk (below_step (by repeat (first | (with_reducible first | exact HB.out | refine below_set ?_ GE276.out))) hb); clear HO_251001; clear HO264; clear HO267; clear HO273; clear BK250; clear BK276; clear HR280; clear HB; have HO_251001 := n0_; have HO264 := n1_; have HO267 := n2_; have HO273 := n3_; have HO284 := n4_; have BK250 := n5_; have BK276 := n6_; have HR280 := n7_; have HB := n8_; clear n0_ n1_ n2_ n3_ n4_ n5_ n6_ n7_ n8_; (try clear hb); (try clear hb2); (try clear hk); (try clear hi); (try clear ho0)) | ((with_reducible refine gate_dst (N := 20) rfl ?_); (try (refine gate_guard (by rfl) ?_; dsimp only)); refine box_event ?hg (N := 20) ?hd (cs := #[.int .i64 0, .slice none 0 0]) (t := 34) ?hr ?_; (case hd => rfl); (case hg => rfl); (case hr => first | (go_simp; done)); intro gb287 hg w72 hbox hb; have n0_ := Aside0.mk (Kd.R_below HO_251001.out hb); have n1_ := Aside0.mk (Kd.R_below HO264.out hb); have n2_ := Aside0.mk (Kd.R_below HO267.out hb); have n3_ := Aside0.mk (Kd.R_below HO273.out hb); have n4_ := Aside0.mk (Kd.R_below HO284.out hb); have n5_ := Aside0.mk (blk_below BK250.out hb); have n6_ := Aside0.mk (blk_below BK276.out hb); have n7_ := Aside0.mk (Kd.C_below (by repeat (first | (with_reducible exact HR280.out) | exact HR280.out)) hb); have n8_ := Aside0.mk (below_step (by repeat (first | (with_reducible first | exact HB.out | refine below_set ?_ GE276.out))) hb); have n9_ := Aside0.mk (hbox); have n10_ := Aside0.mk ((by rw [hg]; exact (below_size (by repeat (first | (with_reducible first | exact HB.out | refine below_set ?_ GE276.out)))) : w.heap.size ≤ gb287)); have n11_ := Aside0.mk ((by rw [hg]; exact (below_size (by repeat (first | (with_reducible first | exact HB.out | refine below_set ?_ GE276.out)))) : w.heap.size ≤ gb287)); have n12_ := Aside0.mk ((by rw [hg]; exact Nat.ne_of_lt (blk_lt (g := gb250) (o := .cells #[.int .i64 (wrap64 (Int.tmod a0 16)), .slice Ao57 x251001_2.length co57] 34 (0, 0)) BK250.out) : gb250 ≠ gb287)); have n13_ := Aside0.mk ((by rw [hg]; exact Nat.ne_of_gt (blk_lt (g := gb250) (o := .cells #[.int .i64 (wrap64 (Int.tmod a0 16)), .slice Ao57 x251001_2.length co57] 34 (0, 0)) BK250.out) : gb287 ≠ gb250)); have n14_ := Aside0.mk ((by rw [hg]; exact Nat.ne_of_lt (blk_lt (g := gb276) (o := .cells #[.int .i64 t270, .slice Ao68 t271.length co68] 34 (0, 0)) BK276.out) : gb276 ≠ gb287)); have n15_ := Aside0.mk ((by rw [hg]; exact Nat.ne_of_gt (blk_lt (g := gb276) (o := .cells #[.int .i64 t270, .slice Ao68 t271.length co68] 34 (0, 0)) BK276.out) : gb287 ≠ gb276)); clear HO_251001; clear HO264; clear HO267; clear HO273; clear HO284; clear BK250; clear BK276; clear HR280; clear HB; have HO_251001 := n0_; have HO264 := n1_; have HO267 := n2_; have HO273 := n3_; have HO284 := n4_; have BK250 := n5_; have BK276 := n6_; have HR280 := n7_; have HB := n8_; have BK287 := n9_; have GW287 := n10_; have GE287 := n11_; have NB250_287 := n12_; have NB287_250 := n13_; have NB276_287 := n14_; have NB287_276 := n15_; clear n0_ n1_ n2_ n3_ n4_ n5_ n6_ n7_ n8_ n9_ n10_ n11_ n12_ n13_ n14_ n15_; clear hb hbox hg; have hnb73 := NB287_250.out; have hnc73 := NB250_287.out; have hnb74 := NB287_276.out; have hnc74 := NB276_287.out; have hcz75_0 : w72.cell? ⟨gb287, 0, none⟩ = some (.int .i64 0) := (blk_cell BK287.out 0).trans rfl; have hcz75_1 : w72.cell? ⟨gb287, 1, none⟩ = some (.slice none 0 0) := (blk_cell BK287.out 1).trans rfl; have hfz75_0 := blk_frozen BK287.out 0; have hfz75_1 := blk_frozen BK287.out 1; obtain ⟨Ao76, co76, eo76⟩ := Kd.R_slice HO284.out; subst eo76) | ((with_reducible refine gate_callee (f := 16) rfl ?_); refine goesL_ (some 96) rfl rfl Try.func16 (by kernel_rfl) rfl #[.slice A5 l5.length c5] rfl (by (try simp only [List.map_toArray, List.map_cons, List.map_nil]); first | rfl | (refine qa_arr ?_; (repeat' (first | rfl | refine qa_cons ?_ ?_ | refine qa_int ?_ | refine qa_agg ?_ | refine qa_arr ?_ | omega)); done)) ?_; (with_reducible refine (message_Decode.calls k2 _ _ l5 t288 t289 t292 t293 _ ?side1 ?side2 A41.out).mono ?_); (case side1 => exact Kd.C_below HR5.out (by repeat (first | (with_reducible first | exact HB.out | refine below_set ?_ GE287.out)))); (case side2 => exact HC5.out); rintro e w77 ⟨v290, rfl, ho0, hb⟩; refine ⟨_, rfl, ?_⟩; have n0_ := Aside0.mk (Kd.R_elder' (by exact (Kd.R_mono (Kd.R_far (p := ⟨gb287, 1, none⟩) (Kd.R_far (p := ⟨gb287, 0, none⟩) (Kd.R_types HO_251001.out BK287.out (by decide)) (fun _ hk => hk.2) (.int .i64 t281)) (fun _ hk => hk.2) (.slice Ao76 t282.length co76)) (fun _ h_ => h_.1))) (Kd.R_base ho0) hb); have n1_ := Aside0.mk (Kd.R_below (by exact (Kd.R_mono (Kd.R_far (p := ⟨gb287, 1, none⟩) (Kd.R_far (p := ⟨gb287, 0, none⟩) (Kd.R_types HO264.out BK287.out (by decide)) (fun _ hk => hk.2) (.int .i64 t281)) (fun _ hk => hk.2) (.slice Ao76 t282.length co76)) (fun _ h_ => h_.1))) hb); have n2_ := Aside0.mk (Kd.R_below (by exact (Kd.R_mono (Kd.R_far (p := ⟨gb287, 1, none⟩) (Kd.R_far (p := ⟨gb287, 0, none⟩) (Kd.R_types HO267.out BK287.out (by decide)) (fun _ hk => hk.2) (.int .i64 t281)) (fun _ hk => hk.2) (.slice Ao76 t282.length co76)) (fun _ h_ => h_.1))) hb); have n3_ := Aside0.mk (Kd.R_elder' (by exact (Kd.R_mono (Kd.R_far (p := ⟨gb287, 1, none⟩) (Kd.R_far (p := ⟨gb287, 0, none⟩) (Kd.R_types HO273.out BK287.out (by decide)) (fun _ hk => hk.2) (.int .i64 t281)) (fun _ hk => hk.2) (.slice Ao76 t282.length co76)) (fun _ h_ => h_.1))) (Kd.R_base ho0) hb); have n4_ := Aside0.mk (Kd.R_elder' (by exact (Kd.R_mono (Kd.R_far (p := ⟨gb287, 1, none⟩) (Kd.R_far (p := ⟨gb287, 0, none⟩) (Kd.R_types HO284.out BK287.out (by decide)) (fun _ hk => hk.2) (.int .i64 t281)) (fun _ hk => hk.2) (.slice Ao76 t282.length co76)) (fun _ h_ => h_.1))) (Kd.R_base ho0) hb); have n5_ := Aside0.mk (Kd.R_lower (Kd.R_new' (Kd.R_new' (Kd.R_new' ho0 (Kd.R_lt (by exact (Kd.R_mono (Kd.R_far (p := ⟨gb287, 1, none⟩) (Kd.R_far (p := ⟨gb287, 0, none⟩) (Kd.R_types HO_251001.out BK287.out (by decide)) (fun _ hk => hk.2) (.int .i64 t281)) (fun _ hk => hk.2) (.slice Ao76 t282.length co76)) (fun _ h_ => h_.1))))) (Kd.R_lt (by exact (Kd.R_mono (Kd.R_far (p := ⟨gb287, 1, none⟩) (Kd.R_far (p := ⟨gb287, 0, none⟩) (Kd.R_types HO273.out BK287.out (by decide)) (fun _ hk => hk.2) (.int .i64 t281)) (fun _ hk => hk.2) (.slice Ao76 t282.length co76)) (fun _ h_ => h_.1))))) (Kd.R_lt (by exact (Kd.R_mono (Kd.R_far (p := ⟨gb287, 1, none⟩) (Kd.R_far (p := ⟨gb287, 0, none⟩) (Kd.R_types HO284.out BK287.out (by decide)) (fun _ hk => hk.2) (.int .i64 t281)) (fun _ hk => hk.2) (.slice Ao76 t282.length co76)) (fun _ h_ => h_.1))))) (below_size (by repeat (first | (with_reducible first | exact HB.out | refine below_set ?_ GE287.out))))); have n6_ := Aside0.mk (blk_below (g := gb250) (o := .cells #[.int .i64 (wrap64 (Int.tmod a0 16)), .slice Ao57 x251001_2.length co57] 34 (0, 0)) (by refine blk_far ?_ NB250_287.out _; refine blk_far ?_ NB250_287.out _; exact BK250.out) hb); have n7_ := Aside0.mk (blk_below (g := gb276) (o := .cells #[.int .i64 t270, .slice Ao68 t271.length co68] 34 (0, 0)) (by refine blk_far ?_ NB276_287.out _; refine blk_far ?_ NB276_287.out _; exact BK276.out) hb); have n8_ := Aside0.mk (Kd.C_below ((show Kd.C (Kd.int .u8) _ _ y277.length y277 from by rw [Ny277.out]; exact Kd.C_take (m := ((ji37) : Int).toNat) ((Kd.R_reads' (by exact (Kd.R_mono (Kd.R_far (p := ⟨gb287, 1, none⟩) (Kd.R_far (p := ⟨gb287, 0, none⟩) (Kd.R_types HO264.out BK287.out (by decide)) (fun _ hk => hk.2) (.int .i64 t281)) (fun _ hk => hk.2) (.slice Ao76 t282.length co76)) (fun _ h_ => h_.1)))).2.2) KL70.out)) hb); have n9_ := Aside0.mk (blk_below (g := gb287) (o := .cells #[.int .i64 t281, .slice Ao76 t282.length co76] 34 (0, 0)) (by refine blk_put (cs := #[.int .i64 t281, .slice none 0 0]) ?_ 1 _ rfl; refine blk_put (cs := #[.int .i64 0, .slice none 0 0]) ?_ 0 _ rfl; exact BK287.out) hb); have n10_ := Aside0.mk (below_step (by repeat (first | (with_reducible first | exact HB.out | refine below_set ?_ GE287.out))) hb); clear HO_251001; clear HO264; clear HO267; clear HO273; clear HO284; clear BK250; clear BK276; clear HR280; clear BK287; clear HB; have HO_251001 := n0_; have HO264 := n1_; have HO267 := n2_; have HO273 := n3_; have HO284 := n4_; have HO291 := n5_; have BK250 := n6_; have BK276 := n7_; have HR280 := n8_; have BK287 := n9_; have HB := n10_; clear n0_ n1_ n2_ n3_ n4_ n5_ n6_ n7_ n8_ n9_ n10_; (try clear hb); (try clear hb2); (try clear hk); (try clear hi); (try clear ho0)) | ((with_reducible refine gate_dst (N := 23) rfl ?_); (try (refine gate_guard (by rfl) ?_; dsimp only)); refine box_event ?hg (N := 23) ?hd (cs := #[.int .i64 0, .slice none 0 0]) (t := 34) ?hr ?_; (case hd => rfl); (case hg => rfl); (case hr => first | (go_simp; done)); intro gb294 hg w78 hbox hb; have n0_ := Aside0.mk (Kd.R_below HO_251001.out hb); have n1_ := Aside0.mk (Kd.R_below HO264.out hb); have n2_ := Aside0.mk (Kd.R_below HO267.out hb); have n3_ := Aside0.mk (Kd.R_below HO273.out hb); have n4_ := Aside0.mk (Kd.R_below HO284.out hb); have n5_ := Aside0.mk (Kd.R_below HO291.out hb); have n6_ := Aside0.mk (blk_below BK250.out hb); have n7_ := Aside0.mk (blk_below BK276.out hb); have n8_ := Aside0.mk (Kd.C_below (by repeat (first | (with_reducible exact HR280.out) | exact HR280.out)) hb); have n9_ := Aside0.mk (blk_below BK287.out hb); have n10_ := Aside0.mk (below_step (by repeat (first | (with_reducible first | exact HB.out | refine below_set ?_ GE287.out))) hb); have n11_ := Aside0.mk (hbox); have n12_ := Aside0.mk ((by rw [hg]; exact (below_size (by repeat (first | (with_reducible first | exact HB.out | refine below_set ?_ GE287.out)))) : w.heap.size ≤ gb294)); have n13_ := Aside0.mk ((by rw [hg]; exact (below_size (by repeat (first | (with_reducible first | exact HB.out | refine below_set ?_ GE287.out)))) : w.heap.size ≤ gb294)); have n14_ := Aside0.mk ((by rw [hg]; exact Nat.ne_of_lt (blk_lt (g := gb250) (o := .cells #[.int .i64 (wrap64 (Int.tmod a0 16)), .slice Ao57 x251001_2.length co57] 34 (0, 0)) BK250.out) : gb250 ≠ gb294)); have n15_ := Aside0.mk ((by rw [hg]; exact Nat.ne_of_gt (blk_lt (g := gb250) (o := .cells #[.int .i64 (wrap64 (Int.tmod a0 16)), .slice Ao57 x251001_2.length co57] 34 (0, 0)) BK250.out) : gb294 ≠ gb250)); have n16_ := Aside0.mk ((by rw [hg]; exact Nat.ne_of_lt (blk_lt (g := gb276) (o := .cells #[.int .i64 t270, .slice Ao68 t271.length co68] 34 (0, 0)) BK276.out) : gb276 ≠ gb294)); have n17_ := Aside0.mk ((by rw [hg]; exact Nat.ne_of_gt (blk_lt (g := gb276) (o := .cells #[.int .i64 t270, .slice Ao68 t271.length co68] 34 (0, 0)) BK276.out) : gb294 ≠ gb276)); have n18_ := Aside0.mk ((by rw [hg]; exact Nat.ne_of_lt (blk_lt (g := gb287) (o := .cells #[.int .i64 t281, .slice Ao76 t282.length co76] 34 (0, 0)) BK287.out) : gb287 ≠ gb294)); have n19_ := Aside0.mk ((by rw [hg]; exact Nat.ne_of_gt (blk_lt (g := gb287) (o := .cells #[.int .i64 t281, .slice Ao76 t282.length co76] 34 (0, 0)) BK287.out) : gb294 ≠ gb287)); clear HO_251001; clear HO264; clear HO267; clear HO273; clear HO284; clear HO291; clear BK250; clear BK276; clear HR280; clear BK287; clear HB; have HO_251001 := n0_; have HO264 := n1_; have HO267 := n2_; have HO273 := n3_; have HO284 := n4_; have HO291 := n5_; have BK250 := n6_; have BK276 := n7_; have HR280 := n8_; have BK287 := n9_; have HB := n10_; have BK294 := n11_; have GW294 := n12_; have GE294 := n13_; have NB250_294 := n14_; have NB294_250 := n15_; have NB276_294 := n16_; have NB294_276 := n17_; have NB287_294 := n18_; have NB294_287 := n19_; clear n0_ n1_ n2_ n3_ n4_ n5_ n6_ n7_ n8_ n9_ n10_ n11_ n12_ n13_ n14_ n15_ n16_ n17_ n18_ n19_; clear hb hbox hg; have hnb79 := NB294_250.out; have hnc79 := NB250_294.out; have hnb80 := NB294_276.out; have hnc80 := NB276_294.out; have hnb81 := NB294_287.out; have hnc81 := NB287_294.out; have hcz82_0 : w78.cell? ⟨gb294, 0, none⟩ = some (.int .i64 0) := (blk_cell BK294.out 0).trans rfl; have hcz82_1 : w78.cell? ⟨gb294, 1, none⟩ = some (.slice none 0 0) := (blk_cell BK294.out 1).trans rfl; have hfz82_0 := blk_frozen BK294.out 0; have hfz82_1 := blk_frozen BK294.out 1; obtain ⟨Ao83, co83, eo83⟩ := Kd.R_slice HO291.out; subst eo83))
                       by_cases c42 : (wrap64 ((l5.length : Int) - 4)) ≥ 2
                       · rw [if_pos c42] at H
                         have c42b0 : decide (2 ≤ (wrap64 ((l5.length : Int) - 4))) = true := decide_eq_true c42
                         clear c42
                         obtain ⟨ji43, hji43⟩ : ∃ j_ : Int, (wrap64 ((l5.length : Int) - 4)) = j_ := ⟨_, rfl⟩
                         replace H : (if 0 ≤ (ji43) then (if (ji43) ≤ (l5.length : Int) then ((milestoneref01_Tail.f k2 (l5.take ((ji43) : Int).toNat)).bind fun t296 => (if ((t275 == 0) == (a3 == 0)) = true then (if t286 = 0 then ((milestonelaw13_sums.f k2 (t262.take ((ji37) : Int).toNat)).bind fun t304 => (if t304 = true then (if t293 = 0 then (some ((strOfNums t296).toList == (strOfNums (l5.drop ((ji43) : Int).toNat)).toList)) else (some true)) else (some false))) else (if t293 = 0 then (some ((strOfNums t296).toList == (strOfNums (l5.drop ((ji43) : Int).toNat)).toList)) else (some true))) else (some false))) else (none)) else (none)) = some r := by first | (rw [hji43] at H; exact H)
                         (try rw [hji43] at c42b0)
                         (try rw [hji43] at A28)
                         (try rw [hji43] at A35)
                         (try rw [hji43] at A40)
                         (try rw [hji43] at A41)
                         have hji43w : (IntKind.i64.wrap ((l5.length : Int) - 4)) = ji43 := (i64_w _).trans hji43
                         by_cases c44 : 0 ≤ (ji43)
                         · rw [if_pos c44] at H
                           have c44b0 := eq_true c44
                           have c44b1 : decide (0 ≤ (ji43)) = true := decide_eq_true c44
                           clear c44
                           by_cases c45 : (ji43) ≤ (l5.length : Int)
                           · rw [if_pos c45] at H
                             have c45b0 := eq_true c45
                             have c45b1 : decide ((ji43) ≤ (l5.length : Int)) = true := decide_eq_true c45
                             clear c45
                             replace H := Option.bind_eq_some_iff.mp H
                             obtain ⟨t296, A460, H⟩ := H
                             replace H : (if ((t275 == 0) == (a3 == 0)) = true then (if t286 = 0 then ((milestonelaw13_sums.f k2 (t262.take ((ji37) : Int).toNat)).bind fun t304 => (if t304 = true then (if t293 = 0 then (some ((strOfNums t296).toList == (strOfNums (l5.drop ((ji43) : Int).toNat)).toList)) else (some true)) else (some false))) else (if t293 = 0 then (some ((strOfNums t296).toList == (strOfNums (l5.drop ((ji43) : Int).toNat)).toList)) else (some true))) else (some false)) = some r := H
                             have A46 := Aside0.mk A460
                             clear A460
                             have c47b0 := eq_true (of_decide_eq_true (by with_reducible assumption) : 0 ≤ (ji43))
                             have c48b0 := eq_true (of_decide_eq_true (by with_reducible assumption) : (ji43) ≤ (l5.length : Int))
                             by_cases c49 : ((t275 == 0) == (a3 == 0)) = true
                             · rw [if_pos c49] at H
                               have c49b0 : ((t275 == 0) == (a3 == 0)) = true := c49
                               (try (have c49b1 : decide ((t275 == 0) = (a3 == 0)) = true := by simpa using c49))
                               (try (have c49b2 : ((t275 == 0) == (a3 == 0)) = true := by simpa using c49))
                               clear c49
                               by_cases c50 : t286 = 0
                               · rw [if_pos c50] at H
                                 have c50b0 : (t286 == 0) = true := beq_iff_eq.mpr c50
                                 have c50b1 : (t286 != 0) = false := bne_eq_false_iff_eq.mpr c50
                                 clear c50
                                 have c51b0 := eq_true (of_decide_eq_true (by with_reducible assumption) : 0 ≤ (ji37))
                                 have c52b0 := eq_true (of_decide_eq_true (by with_reducible assumption) : (ji37) ≤ (t262.length : Int))
                                 obtain ⟨y300, hy300⟩ : ∃ y_ : List Int, y_ = (t262.take ((ji37) : Int).toNat) := ⟨_, rfl⟩
                                 replace H : ((milestonelaw13_sums.f k2 y300).bind fun t304 => (if t304 = true then (if t293 = 0 then (some ((strOfNums t296).toList == (strOfNums (l5.drop ((ji43) : Int).toNat)).toList)) else (some true)) else (some false))) = some r := by first | (rw [hy300]; with_reducible exact H) | exact H
                                 have Ny300 := Aside0.mk hy300
                                 clear hy300
                                 replace H := Option.bind_eq_some_iff.mp H
                                 obtain ⟨t304, A530, H⟩ := H
                                 replace H : (if t304 = true then (if t293 = 0 then (some ((strOfNums t296).toList == (strOfNums (l5.drop ((ji43) : Int).toNat)).toList)) else (some true)) else (some false)) = some r := H
                                 have A53 := Aside0.mk A530
                                 clear A530
                                 by_cases c54 : t304 = true
                                 · subst c54
                                   have H1 : (if t293 = 0 then (some ((strOfNums t296).toList == (strOfNums (l5.drop ((ji43) : Int).toNat)).toList)) else (some true)) = some r := by rw [if_pos rfl] at H; exact H
                                   clear H
                                   have H := H1
                                   clear H1
                                   by_cases c55 : t293 = 0
                                   · rw [if_pos c55] at H
                                     have c55b0 : (t293 == 0) = true := beq_iff_eq.mpr c55
                                     have c55b1 : (t293 != 0) = false := bne_eq_false_iff_eq.mpr c55
                                     clear c55
                                     obtain rfl := Option.some.inj H
                                     simp only [Option.some.injEq, Prod.mk.injEq] at H
                                     obtain ⟨rfl⟩ := H
                                     try go_wp2
                                     have n0_ : Aside0 (Kd.R k28 28 ((w78.setCell ⟨gb294, 0, none⟩ (.int .i64 t288)).setCell ⟨gb294, 1, none⟩ (.slice Ao83 t289.length co83)) w.heap.size (fun k_ => some k_ ≠ (.slice Ao68 t271.length co68 : Value).ownBlock ∧ some k_ ≠ (.slice Ao76 t282.length co76 : Value).ownBlock ∧ some k_ ≠ (.slice Ao83 t289.length co83 : Value).ownBlock) (.slice Ao57 x251001_2.length co57) x251001_2) := ⟨by exact Kd.R_mono (Kd.R_far (p := ⟨gb294, 1, none⟩) (Kd.R_far (p := ⟨gb294, 0, none⟩) (Kd.R_types HO_251001.out BK294.out (by decide)) (fun _ hk => hk.2) (.int .i64 t288)) (fun _ hk => hk.2) (.slice Ao83 t289.length co83)) (fun _ hk => ⟨hk.1.1.1, ⟨hk.1.1.2, hk.1.2⟩⟩)⟩
                                     have n1_ : Aside0 (Kd.R (Kd.int .u8) 5 ((w78.setCell ⟨gb294, 0, none⟩ (.int .i64 t288)).setCell ⟨gb294, 1, none⟩ (.slice Ao83 t289.length co83)) w.heap.size (fun k_ => some k_ ≠ (.slice (some ⟨go34, 0, none⟩) y265.length co61 : Value).ownBlock) (.slice Ao60 t262.length co60) t262) := ⟨by exact Kd.R_mono (Kd.R_far (p := ⟨gb294, 1, none⟩) (Kd.R_far (p := ⟨gb294, 0, none⟩) (Kd.R_types HO264.out BK294.out (by decide)) (fun _ hk => hk.2) (.int .i64 t288)) (fun _ hk => hk.2) (.slice Ao83 t289.length co83)) (fun _ hk => hk.1)⟩
                                     have n2_ : Aside0 (Kd.R (Kd.int .u8) 5 ((w78.setCell ⟨gb294, 0, none⟩ (.int .i64 t288)).setCell ⟨gb294, 1, none⟩ (.slice Ao83 t289.length co83)) w.heap.size (fun k_ => some k_ ≠ (.slice Ao60 t262.length co60 : Value).ownBlock) (.slice (some ⟨go34, 0, none⟩) y265.length co61) y269) := ⟨by exact Kd.R_mono (Kd.R_far (p := ⟨gb294, 1, none⟩) (Kd.R_far (p := ⟨gb294, 0, none⟩) (Kd.R_types HO267.out BK294.out (by decide)) (fun _ hk => hk.2) (.int .i64 t288)) (fun _ hk => hk.2) (.slice Ao83 t289.length co83)) (fun _ hk => hk.1)⟩
                                     have n3_ : Aside0 (Kd.R k28 28 ((w78.setCell ⟨gb294, 0, none⟩ (.int .i64 t288)).setCell ⟨gb294, 1, none⟩ (.slice Ao83 t289.length co83)) w.heap.size (fun k_ => some k_ ≠ (.slice Ao57 x251001_2.length co57 : Value).ownBlock ∧ some k_ ≠ (.slice Ao76 t282.length co76 : Value).ownBlock ∧ some k_ ≠ (.slice Ao83 t289.length co83 : Value).ownBlock) (.slice Ao68 t271.length co68) t271) := ⟨by exact Kd.R_mono (Kd.R_far (p := ⟨gb294, 1, none⟩) (Kd.R_far (p := ⟨gb294, 0, none⟩) (Kd.R_types HO273.out BK294.out (by decide)) (fun _ hk => hk.2) (.int .i64 t288)) (fun _ hk => hk.2) (.slice Ao83 t289.length co83)) (fun _ hk => ⟨hk.1.1.1, ⟨hk.1.1.2, hk.1.2⟩⟩)⟩
                                     have n4_ : Aside0 (Kd.R k28 28 ((w78.setCell ⟨gb294, 0, none⟩ (.int .i64 t288)).setCell ⟨gb294, 1, none⟩ (.slice Ao83 t289.length co83)) w.heap.size (fun k_ => some k_ ≠ (.slice Ao57 x251001_2.length co57 : Value).ownBlock ∧ some k_ ≠ (.slice Ao68 t271.length co68 : Value).ownBlock ∧ some k_ ≠ (.slice Ao83 t289.length co83 : Value).ownBlock) (.slice Ao76 t282.length co76) t282) := ⟨by exact Kd.R_mono (Kd.R_far (p := ⟨gb294, 1, none⟩) (Kd.R_far (p := ⟨gb294, 0, none⟩) (Kd.R_types HO284.out BK294.out (by decide)) (fun _ hk => hk.2) (.int .i64 t288)) (fun _ hk => hk.2) (.slice Ao83 t289.length co83)) (fun _ hk => ⟨hk.1.1.1.2, ⟨hk.1.1.2, hk.1.2⟩⟩)⟩
                                     have n5_ : Aside0 (Kd.R k28 28 ((w78.setCell ⟨gb294, 0, none⟩ (.int .i64 t288)).setCell ⟨gb294, 1, none⟩ (.slice Ao83 t289.length co83)) w.heap.size (fun k_ => some k_ ≠ (.slice Ao57 x251001_2.length co57 : Value).ownBlock ∧ some k_ ≠ (.slice Ao68 t271.length co68 : Value).ownBlock ∧ some k_ ≠ (.slice Ao76 t282.length co76 : Value).ownBlock) (.slice Ao83 t289.length co83) t289) := ⟨by exact Kd.R_mono (Kd.R_far (p := ⟨gb294, 1, none⟩) (Kd.R_far (p := ⟨gb294, 0, none⟩) (Kd.R_types HO291.out BK294.out (by decide)) (fun _ hk => hk.2) (.int .i64 t288)) (fun _ hk => hk.2) (.slice Ao83 t289.length co83)) (fun _ hk => ⟨hk.1.1.1.2, ⟨hk.1.1.2, hk.1.2⟩⟩)⟩
                                     have n6_ : Aside0 (((w78.setCell ⟨gb294, 0, none⟩ (.int .i64 t288)).setCell ⟨gb294, 1, none⟩ (.slice Ao83 t289.length co83)).heap[gb250]? = some (.cells #[.int .i64 (wrap64 (Int.tmod a0 16)), .slice Ao57 x251001_2.length co57] 34 (0, 0))) := ⟨by refine blk_far ?_ NB250_294.out _; refine blk_far ?_ NB250_294.out _; exact BK250.out⟩
                                     have n7_ : Aside0 (((w78.setCell ⟨gb294, 0, none⟩ (.int .i64 t288)).setCell ⟨gb294, 1, none⟩ (.slice Ao83 t289.length co83)).heap[gb276]? = some (.cells #[.int .i64 t270, .slice Ao68 t271.length co68] 34 (0, 0))) := ⟨by refine blk_far ?_ NB276_294.out _; refine blk_far ?_ NB276_294.out _; exact BK276.out⟩
                                     have n8_ : Aside0 (((w78.setCell ⟨gb294, 0, none⟩ (.int .i64 t288)).setCell ⟨gb294, 1, none⟩ (.slice Ao83 t289.length co83)).heap[gb287]? = some (.cells #[.int .i64 t281, .slice Ao76 t282.length co76] 34 (0, 0))) := ⟨by refine blk_far ?_ NB287_294.out _; refine blk_far ?_ NB287_294.out _; exact BK287.out⟩
                                     have n9_ : Aside0 (((w78.setCell ⟨gb294, 0, none⟩ (.int .i64 t288)).setCell ⟨gb294, 1, none⟩ (.slice Ao83 t289.length co83)).heap[gb294]? = some (.cells #[.int .i64 t288, .slice Ao83 t289.length co83] 34 (0, 0))) := ⟨by refine blk_put (cs := #[.int .i64 t288, .slice none 0 0]) ?_ 1 _ rfl; refine blk_put (cs := #[.int .i64 0, .slice none 0 0]) ?_ 0 _ rfl; exact BK294.out⟩
                                     have n10_ : Aside0 (Below w.heap.size w ((w78.setCell ⟨gb294, 0, none⟩ (.int .i64 t288)).setCell ⟨gb294, 1, none⟩ (.slice Ao83 t289.length co83))) := ⟨by repeat (first | (with_reducible first | exact HB.out | refine below_set ?_ GE294.out))⟩
                                     (try clear HO_251001)
                                     (try clear HO264)
                                     (try clear HO267)
                                     (try clear HO273)
                                     (try clear HO284)
                                     (try clear HO291)
                                     (try clear BK250)
                                     (try clear BK276)
                                     (try clear BK287)
                                     (try clear BK294)
                                     (try clear HB)
                                     generalize ((w78.setCell ⟨gb294, 0, none⟩ (.int .i64 t288)).setCell ⟨gb294, 1, none⟩ (.slice Ao83 t289.length co83)) = w84 at n0_ n1_ n2_ n3_ n4_ n5_ n6_ n7_ n8_ n9_ n10_ ⊢
                                     have HO_251001 := n0_
                                     have HO264 := n1_
                                     have HO267 := n2_
                                     have HO273 := n3_
                                     have HO284 := n4_
                                     have HO291 := n5_
                                     have BK250 := n6_
                                     have BK276 := n7_
                                     have BK287 := n8_
                                     have BK294 := n9_
                                     have HB := n10_
                                     clear n0_ n1_ n2_ n3_ n4_ n5_ n6_ n7_ n8_ n9_ n10_
                                     have n0_ := Aside0.mk (Kd.R_drew HO_251001.out)
                                     have n1_ := Aside0.mk (Kd.R_drew HO264.out)
                                     have n2_ := Aside0.mk (Kd.R_drew HO267.out)
                                     have n3_ := Aside0.mk (Kd.R_drew HO273.out)
                                     have n4_ := Aside0.mk (Kd.R_drew HO284.out)
                                     have n5_ := Aside0.mk (Kd.R_drew HO291.out)
                                     have n6_ := Aside0.mk (blk_drew BK250.out)
                                     have n7_ := Aside0.mk (blk_drew BK276.out)
                                     have n8_ := Aside0.mk (blk_drew BK287.out)
                                     have n9_ := Aside0.mk (blk_drew BK294.out)
                                     have n10_ := Aside0.mk (below_drew1 HB.out)
                                     clear HO_251001
                                     clear HO264
                                     clear HO267
                                     clear HO273
                                     clear HO284
                                     clear HO291
                                     clear BK250
                                     clear BK276
                                     clear BK287
                                     clear BK294
                                     clear HB
                                     have HO_251001 := n0_
                                     have HO264 := n1_
                                     have HO267 := n2_
                                     have HO273 := n3_
                                     have HO284 := n4_
                                     have HO291 := n5_
                                     have BK250 := n6_
                                     have BK276 := n7_
                                     have BK287 := n8_
                                     have BK294 := n9_
                                     have HB := n10_
                                     clear n0_ n1_ n2_ n3_ n4_ n5_ n6_ n7_ n8_ n9_ n10_
                                     obtain ⟨i086, hi086, _, hsz86, _⟩ := info_parts info5
                                     obtain ⟨hcut86, hA86, hC86⟩ := print_take_of (P := Try.prog) (Value.int .u8) 0 30 5 .i64 Try.underlying30 hi086 hsz86 A5 c5 l5 (ji43) (of_decide_eq_true (by with_reducible assumption)) (of_decide_eq_true (by with_reducible assumption)) HC5.out
                                     have HR295 := Aside0.mk (Kd.C_of_reads (h1 := fun _ => rfl) (hA86 _ (Kd.reads_of_C HR5.out)))
                                     have HC295 := Aside0.mk hC86
                                     clear hA86 hC86 hi086 hsz86
                                     have hSL86 := Aside0.mk (show (l5.take ((ji43) : Int).toNat).length = (ji43).toNat from (by rw [List.length_take]; have h_ : ((ji43) : Int) ≤ (l5.length : Int) := of_decide_eq_true (by with_reducible assumption); omega))
                                     obtain ⟨i087, hi087, _, hsz87, _⟩ := info_parts info5
                                     obtain ⟨A87, hcut87, hA87, hC87⟩ := print_drop_of (P := Try.prog) (Value.int .u8) 0 30 5 .i64 Try.underlying30 hi087 hsz87 A5 c5 l5 (ji43) (of_decide_eq_true (by with_reducible assumption)) (of_decide_eq_true (by with_reducible assumption)) HC5.out
                                     have HR299 := Aside0.mk (Kd.C_of_reads (h1 := fun _ => rfl) (hA87 _ (Kd.reads_of_C HR5.out)))
                                     have HC299 := Aside0.mk hC87
                                     clear hA87 hC87 hi087 hsz87
                                     refine start_ (n := 15) (S := fun w' => (convert 30 9 (.slice A87 (l5.length - (ji43).toNat) (c5 - (ji43).toNat))).run Try.prog w' = .ok (.string (strOfNums (l5.drop ((ji43) : Int).toNat))) w') (ds := []) #[false, false, false, false, false, false, false, false, false, false, false, false, false, false, false] (by kernel_rfl) rfl rfl ((by have h_ := Kd.C_string (P := Try.prog) (A := A87) (c := (c5 - (ji43).toNat)) Try.underlying30 Try.underlying5 Try.underlying9 (Kd.C_below HR299.out HB.out); rw [show (l5.drop ((ji43) : Int).toNat).length = (l5.length - (ji43).toNat) from List.length_drop] at h_; exact h_)) (fun hHeld => ?_); refine with_tabW milestonelaw13_MessageTurns.tab15 milestonelaw13_MessageTurns.bits15 (fun HT_ HW_ => ?_)
                                     generalize w84.drew = w85 at HO_251001 HO264 HO267 HO273 HO284 HO291 BK250 BK276 BK287 BK294 HB HR295 HR299 hHeld ⊢
                                     refine pure_ (i := 0) (N := some 103) (v := ?_) (a' := ?_) #[true, false, false, false, false, false, false, false, false, false, false, false, false, false, false] rfl rfl (any_of HT_.out (by kernel_rfl)) (fun _ _ _ h => h) (Or.inl ⟨by rfl, ?_⟩) ?_ ?_
                                     rotate_left
                                     · intro w'
                                       go_simp
                                       with_reducible rfl
                                     rotate_left
                                     · simp only [Act.put, List.setIfInBounds_toArray, List.set_cons_zero, List.set_cons_succ, i64_w, i32_w]
                                       rfl
                                     refine pure_ (i := 1) (N := some 104) (v := ?_) (a' := ?_) #[true, true, false, false, false, false, false, false, false, false, false, false, false, false, false] rfl rfl (any_of HT_.out (by kernel_rfl)) (fun _ _ _ h => h) (Or.inl ⟨by rfl, ?_⟩) ?_ ?_
                                     rotate_left
                                     · intro w'
                                       go_simp
                                       with_reducible rfl
                                     rotate_left
                                     · simp only [Act.put, List.setIfInBounds_toArray, List.set_cons_zero, List.set_cons_succ, i64_w, i32_w]
                                       rfl
                                     refine pure_ (i := 2) (N := some 105) (v := ?_) (a' := ?_) #[true, true, true, false, false, false, false, false, false, false, false, false, false, false, false] rfl rfl (any_of HT_.out (by kernel_rfl)) (fun _ _ _ h => h) (Or.inl ⟨by rfl, ?_⟩) ?_ ?_
                                     rotate_left
                                     · intro w'
                                       go_simp
                                       with_reducible rfl
                                     rotate_left
                                     · simp only [Act.put, List.setIfInBounds_toArray, List.set_cons_zero, List.set_cons_succ, i64_w, i32_w]
                                       rfl
                                     refine pure_ (i := 3) (N := some 106) (v := ?_) (a' := ?_) #[true, true, true, true, false, false, false, false, false, false, false, false, false, false, false] rfl rfl (any_of HT_.out (by kernel_rfl)) (fun _ _ _ h => h) (Or.inl ⟨by rfl, ?_⟩) ?_ ?_
                                     rotate_left
                                     · intro w'
                                       go_simp
                                       with_reducible rfl
                                     rotate_left
                                     · simp only [Act.put, List.setIfInBounds_toArray, List.set_cons_zero, List.set_cons_succ, i64_w, i32_w]
                                       rfl
                                     refine pure_ (i := 4) (N := some 107) (v := ?_) (a' := ?_) #[true, true, true, true, true, false, false, false, false, false, false, false, false, false, false] rfl rfl (any_of HT_.out (by kernel_rfl)) (fun _ _ _ h => h) (Or.inl ⟨by rfl, ?_⟩) ?_ ?_
                                     rotate_left
                                     · intro w'
                                       go_simp
                                       with_reducible rfl
                                     rotate_left
                                     · simp only [Act.put, List.setIfInBounds_toArray, List.set_cons_zero, List.set_cons_succ, i64_w, i32_w]
                                       rfl
                                     refine pure_ (i := 5) (N := some 108) (v := ?_) (a' := ?_) #[true, true, true, true, true, true, false, false, false, false, false, false, false, false, false] rfl rfl (any_of HT_.out (by kernel_rfl)) (fun _ _ _ h => h) (Or.inl ⟨by rfl, ?_⟩) ?_ ?_
                                     rotate_left
                                     · intro w'
                                       go_simp
                                       with_reducible rfl
                                     rotate_left
                                     · simp only [Act.put, List.setIfInBounds_toArray, List.set_cons_zero, List.set_cons_succ, i64_w, i32_w]
                                       rfl
                                     refine pure_ (i := 8) (N := some 111) (v := ?_) (a' := ?_) #[true, true, true, true, true, true, false, false, true, false, false, false, false, false, false] rfl rfl (any_of HT_.out (by kernel_rfl)) (fun _ _ _ h => h) (Or.inl ⟨by rfl, ?_⟩) ?_ ?_
                                     rotate_left
                                     · intro w'
                                       go_simp
                                       with_reducible rfl
                                     rotate_left
                                     · simp only [Act.put, List.setIfInBounds_toArray, List.set_cons_zero, List.set_cons_succ, i64_w, i32_w]
                                       rfl
                                     refine pure_ (i := 9) (N := some 112) (v := ?_) (a' := ?_) #[true, true, true, true, true, true, false, false, true, true, false, false, false, false, false] rfl rfl (any_of HT_.out (by kernel_rfl)) (fun _ _ _ h => h) (Or.inl ⟨by rfl, ?_⟩) ?_ ?_
                                     rotate_left
                                     · intro w'
                                       go_simp
                                       with_reducible rfl
                                     rotate_left
                                     · simp only [Act.put, List.setIfInBounds_toArray, List.set_cons_zero, List.set_cons_succ, i64_w, i32_w]
                                       rfl
                                     refine pure_ (i := 10) (N := some 113) (v := ?_) (a' := ?_) #[true, true, true, true, true, true, false, false, true, true, true, false, false, false, false] rfl rfl (any_of HT_.out (by kernel_rfl)) (fun _ _ _ h => h) (Or.inl ⟨by rfl, ?_⟩) ?_ ?_
                                     rotate_left
                                     · intro w'
                                       go_simp
                                       with_reducible rfl
                                     rotate_left
                                     · simp only [Act.put, List.setIfInBounds_toArray, List.set_cons_zero, List.set_cons_succ, i64_w, i32_w]
                                       rfl
                                     refine take_ (i := 11) (N := some 114) (v := ?_) (a' := ?_) #[true, true, true, true, true, true, false, false, true, true, true, true, false, false, false] rfl rfl (take_ofW HT_.out HW_.out (by kernel_rfl)) (fun _ _ _ h => h) (Or.inl ⟨by rfl, ?_⟩) hHeld ?_ ?_
                                     rotate_left
                                     · intro w' s0
                                       go_simp
                                       with_reducible rfl
                                     rotate_left
                                     · simp only [Act.put, List.setIfInBounds_toArray, List.set_cons_zero, List.set_cons_succ, i64_w, i32_w]
                                       rfl
                                     refine one_ (i := 6) (N := some 109) #[true, true, true, true, true, true, true, false, true, true, true, true, false, false, false] rfl rfl (one_of HT_.out (by kernel_rfl)) (by decide) (fun K hK => ?_)
                                     refine goes_ Try.func17 (by kernel_rfl) rfl #[.slice A5 (l5.take ((ji43) : Int).toNat).length c5] (by rfl) rfl rfl (by (try simp only [List.map_toArray, List.map_cons, List.map_nil]); first | (rw [show (l5.take ((ji43) : Int).toNat).length = (ji43).toNat from hSL86.out] <;> rfl) | (simp only [List.length_drop, List.length_take]; rfl)) ?_
                                     with_reducible refine (milestoneref01_Tail.calls k2 _ _ (l5.take ((ji43) : Int).toNat) t296 _ ?side1 ?side2 A46.out).mono ?_
                                     (case side1 => repeat (first | exact (Kd.C_below HR295.out HB.out) | (with_reducible refine Kd.C_drew ?_)))
                                     (case side2 => exact HC295.out)
                                     rintro e w88 ⟨v297, rfl, ho0, hb⟩
                                     refine ⟨_, rfl, ?_⟩
                                     have n0_ := Aside0.mk (Kd.R_below HO_251001.out hb)
                                     have n1_ := Aside0.mk (Kd.R_elder' HO264.out (Kd.R_base ho0) hb)
                                     have n2_ := Aside0.mk (Kd.R_elder' HO267.out (Kd.R_base ho0) hb)
                                     have n3_ := Aside0.mk (Kd.R_below HO273.out hb)
                                     have n4_ := Aside0.mk (Kd.R_below HO284.out hb)
                                     have n5_ := Aside0.mk (Kd.R_below HO291.out hb)
                                     have n6_ := Aside0.mk (Kd.R_lower (Kd.R_new' (Kd.R_new' ho0 (Kd.R_lt HO264.out)) (Kd.R_lt HO267.out)) (below_size (by repeat (first | (with_reducible first | exact HB.out | refine below_set ?_ GE294.out)))))
                                     have n7_ := Aside0.mk (blk_below BK250.out hb)
                                     have n8_ := Aside0.mk (blk_below BK276.out hb)
                                     have n9_ := Aside0.mk (blk_below BK287.out hb)
                                     have n10_ := Aside0.mk (blk_below BK294.out hb)
                                     have n11_ := Aside0.mk (below_step (by repeat (first | (with_reducible first | exact HB.out | refine below_set ?_ GE294.out))) hb)
                                     clear HO_251001
                                     clear HO264
                                     clear HO267
                                     clear HO273
                                     clear HO284
                                     clear HO291
                                     clear BK250
                                     clear BK276
                                     clear BK287
                                     clear BK294
                                     clear HB
                                     have HO_251001 := n0_
                                     have HO264 := n1_
                                     have HO267 := n2_
                                     have HO273 := n3_
                                     have HO284 := n4_
                                     have HO291 := n5_
                                     have HO298 := n6_
                                     have BK250 := n7_
                                     have BK276 := n8_
                                     have BK287 := n9_
                                     have BK294 := n10_
                                     have HB := n11_
                                     clear n0_ n1_ n2_ n3_ n4_ n5_ n6_ n7_ n8_ n9_ n10_ n11_
                                     (try clear hb)
                                     (try clear hb2)
                                     (try clear hk)
                                     (try clear hi)
                                     (try clear ho0)
                                     refine hK.out _ _ ((by have h_ := Kd.C_string (P := Try.prog) (A := A87) (c := (c5 - (ji43).toNat)) Try.underlying30 Try.underlying5 Try.underlying9 (Kd.C_below HR299.out HB.out); rw [show (l5.drop ((ji43) : Int).toNat).length = (l5.length - (ji43).toNat) from List.length_drop] at h_; exact h_)) (fun hHeld => ?_)
                                     clear hK K
                                     refine norm_ (a' := ?_) ?_ ?_
                                     rotate_left
                                     · show Act.put _ (some 109) _ = _
                                       simp only [Act.put, List.setIfInBounds_toArray, List.set_cons_zero, List.set_cons_succ, i64_w, i32_w]
                                       rfl
                                     refine one_ (i := 7) (N := some 110) #[true, true, true, true, true, true, true, true, true, true, true, true, false, false, false] rfl rfl (one_of HT_.out (by kernel_rfl)) (by decide) (fun K hK => ?_)
                                     have hcv89 := own_string (P := Try.prog) Try.underlying30 Try.underlying5 Try.underlying9 (Kd.own_of_R HO298.out)
                                     refine value_ (w1 := ?_) (v := ?_) (by rfl) rfl ?_ ?_
                                     rotate_left 2
                                     · go_simp
                                       constructor
                                       · rfl
                                       · rfl
                                     clear hcv89
                                     refine hK.out _ _ ((by have h_ := Kd.C_string (P := Try.prog) (A := A87) (c := (c5 - (ji43).toNat)) Try.underlying30 Try.underlying5 Try.underlying9 (Kd.C_below HR299.out HB.out); rw [show (l5.drop ((ji43) : Int).toNat).length = (l5.length - (ji43).toNat) from List.length_drop] at h_; exact h_)) (fun hHeld => ?_)
                                     clear hK K
                                     refine norm_ (a' := ?_) ?_ ?_
                                     rotate_left
                                     · show Act.put _ (some 110) _ = _
                                       simp only [Act.put, List.setIfInBounds_toArray, List.set_cons_zero, List.set_cons_succ, i64_w, i32_w]
                                       rfl
                                     refine pure_ (i := 12) (N := some 115) (v := ?_) (a' := ?_) #[true, true, true, true, true, true, true, true, true, true, true, true, true, false, false] rfl rfl (any_of HT_.out (by kernel_rfl)) (fun _ _ _ h => h) (Or.inl ⟨by rfl, ?_⟩) ?_ ?_
                                     rotate_left
                                     · intro w'
                                       go_simp
                                       with_reducible rfl
                                     rotate_left
                                     · simp only [Act.put, List.setIfInBounds_toArray, List.set_cons_zero, List.set_cons_succ, i64_w, i32_w]
                                       rfl
                                     refine pure_ (i := 13) (N := some 116) (v := ?_) (a' := ?_) #[true, true, true, true, true, true, true, true, true, true, true, true, true, true, false] rfl rfl (any_of HT_.out (by kernel_rfl)) (fun _ _ _ h => h) (Or.inl ⟨by rfl, ?_⟩) ?_ ?_
                                     rotate_left
                                     · intro w'
                                       go_simp
                                       with_reducible rfl
                                     rotate_left
                                     · simp only [Act.put, List.setIfInBounds_toArray, List.set_cons_zero, List.set_cons_succ, i64_w, i32_w]
                                       rfl
                                     refine pure_ (i := 14) (N := some 27) (v := ?_) (a' := ?_) #[true, true, true, true, true, true, true, true, true, true, true, true, true, true, true] rfl rfl (any_of HT_.out (by kernel_rfl)) (fun _ _ _ h => h) (Or.inl ⟨by rfl, ?_⟩) ?_ ?_
                                     rotate_left
                                     · intro w'
                                       go_simp
                                       with_reducible rfl
                                     rotate_left
                                     · simp only [Act.put, List.setIfInBounds_toArray, List.set_cons_zero, List.set_cons_succ, i64_w, i32_w]
                                       rfl
                                     refine done_ (done_of HT_.out (by kernel_rfl)) ?_
                                     have q90 : ((ji37) : Int) ≤ ((t262.length : Int) : Int) := of_decide_eq_true (by with_reducible assumption)
                                     obtain ⟨i090, hi090, _, hsz90, _⟩ := info_parts info5
                                     have hroom90 : t262.length ≤ co60 := (Kd.R_reads' HO264.out).2.1
                                     have hC90 : Kd.C (Kd.int .u8) _ Ao60 t262.length t262 := (Kd.R_reads' HO264.out).2.2
                                     have hcut90 := cut_to (P := Try.prog) 30 5 .i64 Try.underlying30 hi090 Ao60 t262.length co60 (ji37) (of_decide_eq_true (by with_reducible assumption)) q90 hroom90
                                     have hr90 := Kd.C_take (m := ((ji37) : Int).toNat) hC90 (by omega)
                                     have hy90 : y300.length = ((ji37) : Int).toNat := (by rw [Ny300.out, List.length_take]; omega)
                                     rw [← Ny300.out] at hr90
                                     rw [← hy90] at hcut90
                                     have HR303 := Aside0.mk hr90
                                     have HC303 := Aside0.mk (show y300.length ≤ co60 from by omega)
                                     clear hr90 hC90 hroom90 hi090 hsz90
                                     have KY90 := Aside0.mk hy90
                                     clear hy90
                                     have KL90 := Aside0.mk (show ((ji37) : Int).toNat ≤ t262.length from by omega)
                                     replace q90 := eq_true q90
                                     try go_wp2_with (first | (go_at_call 18; rw [show y277.length = y300.length from by rw [Ny277.out, Ny300.out]]; (with_reducible refine (milestonelaw13_sums.calls k2 _ _ y300 true _ ?side1 ?side2 A53.out).mono ?_); (case side1 => repeat (first | exact (by repeat (first | (with_reducible exact HR303.out) | exact HR303.out)) | (with_reducible refine Kd.C_drew ?_))); (case side2 => exact HC303.out); rintro e w91 ⟨rfl, hb⟩; have n0_ := Aside0.mk (Kd.R_below HO_251001.out hb); have n1_ := Aside0.mk (Kd.R_below HO264.out hb); have n2_ := Aside0.mk (Kd.R_below HO267.out hb); have n3_ := Aside0.mk (Kd.R_below HO273.out hb); have n4_ := Aside0.mk (Kd.R_below HO284.out hb); have n5_ := Aside0.mk (Kd.R_below HO291.out hb); have n6_ := Aside0.mk (Kd.R_below HO298.out hb); have n7_ := Aside0.mk (blk_below BK250.out hb); have n8_ := Aside0.mk (blk_below BK276.out hb); have n9_ := Aside0.mk (blk_below BK287.out hb); have n10_ := Aside0.mk (blk_below BK294.out hb); have n11_ := Aside0.mk (Kd.C_below (by repeat (first | (with_reducible exact HR303.out) | exact HR303.out)) hb); have n12_ := Aside0.mk (below_step (by repeat (first | (with_reducible first | exact HB.out | refine below_set ?_ GE294.out))) hb); clear HO_251001; clear HO264; clear HO267; clear HO273; clear HO284; clear HO291; clear HO298; clear BK250; clear BK276; clear BK287; clear BK294; clear HR303; clear HB; have HO_251001 := n0_; have HO264 := n1_; have HO267 := n2_; have HO273 := n3_; have HO284 := n4_; have HO291 := n5_; have HO298 := n6_; have BK250 := n7_; have BK276 := n8_; have BK287 := n9_; have BK294 := n10_; have HR303 := n11_; have HB := n12_; clear n0_ n1_ n2_ n3_ n4_ n5_ n6_ n7_ n8_ n9_ n10_ n11_ n12_; (try clear hb); (try clear hb2); (try clear hk); (try clear hi)) | (go_at_call 18; (refine calls_of_args (args' := #[.slice Ao60 y300.length co60]) ?_ ?_; focus (first | rfl | (simp; done) | (refine qa_arr ?_; (repeat' (first | rfl | refine qa_cons ?_ ?_ | refine qa_int ?_ | refine qa_agg ?_ | refine qa_arr ?_ | omega)); done)); (with_reducible refine (milestonelaw13_sums.calls k2 _ _ y300 true _ ?side1 ?side2 A53.out).mono ?_)); (case side1 => repeat (first | exact (by repeat (first | (with_reducible exact HR303.out) | (with_reducible refine Kd.C_alloc ?_ _) | (with_reducible refine Kd.C_drewN ?_ _) | (with_reducible refine Kd.C_drew ?_) | exact HR303.out)) | (with_reducible refine Kd.C_alloc ?_ _) | (with_reducible refine Kd.C_drewN ?_ _) | (with_reducible refine Kd.C_drew ?_))); (case side2 => exact HC303.out); rintro e w91 ⟨rfl, hb⟩; have n0_ := Aside0.mk (Kd.R_below HO_251001.out hb); have n1_ := Aside0.mk (Kd.R_below HO264.out hb); have n2_ := Aside0.mk (Kd.R_below HO267.out hb); have n3_ := Aside0.mk (Kd.R_below HO273.out hb); have n4_ := Aside0.mk (Kd.R_below HO284.out hb); have n5_ := Aside0.mk (Kd.R_below HO291.out hb); have n6_ := Aside0.mk (Kd.R_below HO298.out hb); have n7_ := Aside0.mk (blk_below BK250.out hb); have n8_ := Aside0.mk (blk_below BK276.out hb); have n9_ := Aside0.mk (blk_below BK287.out hb); have n10_ := Aside0.mk (blk_below BK294.out hb); have n11_ := Aside0.mk (Kd.C_below (by repeat (first | (with_reducible exact HR303.out) | (with_reducible refine Kd.C_alloc ?_ _) | (with_reducible refine Kd.C_drewN ?_ _) | (with_reducible refine Kd.C_drew ?_) | exact HR303.out)) hb); have n12_ := Aside0.mk (below_step (by repeat (first | (with_reducible first | exact HB.out | apply below_alloc | apply pw_below_drewN | apply below_drew1 | refine below_set ?_ GE250.out | refine below_set ?_ GE276.out | refine below_set ?_ GE287.out | refine below_set ?_ GE294.out) | exact HB.out)) hb); clear HO_251001; clear HO264; clear HO267; clear HO273; clear HO284; clear HO291; clear HO298; clear BK250; clear BK276; clear BK287; clear BK294; clear HR303; clear HB; have HO_251001 := n0_; have HO264 := n1_; have HO267 := n2_; have HO273 := n3_; have HO284 := n4_; have HO291 := n5_; have HO298 := n6_; have BK250 := n7_; have BK276 := n8_; have BK287 := n9_; have BK294 := n10_; have HR303 := n11_; have HB := n12_; clear n0_ n1_ n2_ n3_ n4_ n5_ n6_ n7_ n8_ n9_ n10_ n11_ n12_; (try clear hb); (try clear hb2); (try clear hk); (try clear hi)))
                                     go_ret
                                     exact ⟨by first | rfl | (simp [*, errW_none, errW_some] <;> rfl), by repeat (first | (with_reducible first | exact HB.out | refine below_set ?_ GE294.out))⟩
                                   · rw [if_neg c55] at H
                                     have c55b0 : (t293 == 0) = false := beq_eq_false_iff_ne.mpr c55
                                     have c55b1 : (t293 != 0) = true := bne_iff_ne.mpr c55
                                     obtain rfl := Option.some.inj H
                                     simp only [Option.some.injEq, Prod.mk.injEq] at H
                                     obtain ⟨rfl⟩ := H
                                     try go_wp2
                                     have n0_ : Aside0 (Kd.R k28 28 ((w78.setCell ⟨gb294, 0, none⟩ (.int .i64 t288)).setCell ⟨gb294, 1, none⟩ (.slice Ao83 t289.length co83)) w.heap.size (fun k_ => some k_ ≠ (.slice Ao68 t271.length co68 : Value).ownBlock ∧ some k_ ≠ (.slice Ao76 t282.length co76 : Value).ownBlock ∧ some k_ ≠ (.slice Ao83 t289.length co83 : Value).ownBlock) (.slice Ao57 x251001_2.length co57) x251001_2) := ⟨by exact Kd.R_mono (Kd.R_far (p := ⟨gb294, 1, none⟩) (Kd.R_far (p := ⟨gb294, 0, none⟩) (Kd.R_types HO_251001.out BK294.out (by decide)) (fun _ hk => hk.2) (.int .i64 t288)) (fun _ hk => hk.2) (.slice Ao83 t289.length co83)) (fun _ hk => ⟨hk.1.1.1, ⟨hk.1.1.2, hk.1.2⟩⟩)⟩
                                     have n1_ : Aside0 (Kd.R (Kd.int .u8) 5 ((w78.setCell ⟨gb294, 0, none⟩ (.int .i64 t288)).setCell ⟨gb294, 1, none⟩ (.slice Ao83 t289.length co83)) w.heap.size (fun k_ => some k_ ≠ (.slice (some ⟨go34, 0, none⟩) y265.length co61 : Value).ownBlock) (.slice Ao60 t262.length co60) t262) := ⟨by exact Kd.R_mono (Kd.R_far (p := ⟨gb294, 1, none⟩) (Kd.R_far (p := ⟨gb294, 0, none⟩) (Kd.R_types HO264.out BK294.out (by decide)) (fun _ hk => hk.2) (.int .i64 t288)) (fun _ hk => hk.2) (.slice Ao83 t289.length co83)) (fun _ hk => hk.1)⟩
                                     have n2_ : Aside0 (Kd.R (Kd.int .u8) 5 ((w78.setCell ⟨gb294, 0, none⟩ (.int .i64 t288)).setCell ⟨gb294, 1, none⟩ (.slice Ao83 t289.length co83)) w.heap.size (fun k_ => some k_ ≠ (.slice Ao60 t262.length co60 : Value).ownBlock) (.slice (some ⟨go34, 0, none⟩) y265.length co61) y269) := ⟨by exact Kd.R_mono (Kd.R_far (p := ⟨gb294, 1, none⟩) (Kd.R_far (p := ⟨gb294, 0, none⟩) (Kd.R_types HO267.out BK294.out (by decide)) (fun _ hk => hk.2) (.int .i64 t288)) (fun _ hk => hk.2) (.slice Ao83 t289.length co83)) (fun _ hk => hk.1)⟩
                                     have n3_ : Aside0 (Kd.R k28 28 ((w78.setCell ⟨gb294, 0, none⟩ (.int .i64 t288)).setCell ⟨gb294, 1, none⟩ (.slice Ao83 t289.length co83)) w.heap.size (fun k_ => some k_ ≠ (.slice Ao57 x251001_2.length co57 : Value).ownBlock ∧ some k_ ≠ (.slice Ao76 t282.length co76 : Value).ownBlock ∧ some k_ ≠ (.slice Ao83 t289.length co83 : Value).ownBlock) (.slice Ao68 t271.length co68) t271) := ⟨by exact Kd.R_mono (Kd.R_far (p := ⟨gb294, 1, none⟩) (Kd.R_far (p := ⟨gb294, 0, none⟩) (Kd.R_types HO273.out BK294.out (by decide)) (fun _ hk => hk.2) (.int .i64 t288)) (fun _ hk => hk.2) (.slice Ao83 t289.length co83)) (fun _ hk => ⟨hk.1.1.1, ⟨hk.1.1.2, hk.1.2⟩⟩)⟩
                                     have n4_ : Aside0 (Kd.R k28 28 ((w78.setCell ⟨gb294, 0, none⟩ (.int .i64 t288)).setCell ⟨gb294, 1, none⟩ (.slice Ao83 t289.length co83)) w.heap.size (fun k_ => some k_ ≠ (.slice Ao57 x251001_2.length co57 : Value).ownBlock ∧ some k_ ≠ (.slice Ao68 t271.length co68 : Value).ownBlock ∧ some k_ ≠ (.slice Ao83 t289.length co83 : Value).ownBlock) (.slice Ao76 t282.length co76) t282) := ⟨by exact Kd.R_mono (Kd.R_far (p := ⟨gb294, 1, none⟩) (Kd.R_far (p := ⟨gb294, 0, none⟩) (Kd.R_types HO284.out BK294.out (by decide)) (fun _ hk => hk.2) (.int .i64 t288)) (fun _ hk => hk.2) (.slice Ao83 t289.length co83)) (fun _ hk => ⟨hk.1.1.1.2, ⟨hk.1.1.2, hk.1.2⟩⟩)⟩
                                     have n5_ : Aside0 (Kd.R k28 28 ((w78.setCell ⟨gb294, 0, none⟩ (.int .i64 t288)).setCell ⟨gb294, 1, none⟩ (.slice Ao83 t289.length co83)) w.heap.size (fun k_ => some k_ ≠ (.slice Ao57 x251001_2.length co57 : Value).ownBlock ∧ some k_ ≠ (.slice Ao68 t271.length co68 : Value).ownBlock ∧ some k_ ≠ (.slice Ao76 t282.length co76 : Value).ownBlock) (.slice Ao83 t289.length co83) t289) := ⟨by exact Kd.R_mono (Kd.R_far (p := ⟨gb294, 1, none⟩) (Kd.R_far (p := ⟨gb294, 0, none⟩) (Kd.R_types HO291.out BK294.out (by decide)) (fun _ hk => hk.2) (.int .i64 t288)) (fun _ hk => hk.2) (.slice Ao83 t289.length co83)) (fun _ hk => ⟨hk.1.1.1.2, ⟨hk.1.1.2, hk.1.2⟩⟩)⟩
                                     have n6_ : Aside0 (((w78.setCell ⟨gb294, 0, none⟩ (.int .i64 t288)).setCell ⟨gb294, 1, none⟩ (.slice Ao83 t289.length co83)).heap[gb250]? = some (.cells #[.int .i64 (wrap64 (Int.tmod a0 16)), .slice Ao57 x251001_2.length co57] 34 (0, 0))) := ⟨by refine blk_far ?_ NB250_294.out _; refine blk_far ?_ NB250_294.out _; exact BK250.out⟩
                                     have n7_ : Aside0 (((w78.setCell ⟨gb294, 0, none⟩ (.int .i64 t288)).setCell ⟨gb294, 1, none⟩ (.slice Ao83 t289.length co83)).heap[gb276]? = some (.cells #[.int .i64 t270, .slice Ao68 t271.length co68] 34 (0, 0))) := ⟨by refine blk_far ?_ NB276_294.out _; refine blk_far ?_ NB276_294.out _; exact BK276.out⟩
                                     have n8_ : Aside0 (((w78.setCell ⟨gb294, 0, none⟩ (.int .i64 t288)).setCell ⟨gb294, 1, none⟩ (.slice Ao83 t289.length co83)).heap[gb287]? = some (.cells #[.int .i64 t281, .slice Ao76 t282.length co76] 34 (0, 0))) := ⟨by refine blk_far ?_ NB287_294.out _; refine blk_far ?_ NB287_294.out _; exact BK287.out⟩
                                     have n9_ : Aside0 (((w78.setCell ⟨gb294, 0, none⟩ (.int .i64 t288)).setCell ⟨gb294, 1, none⟩ (.slice Ao83 t289.length co83)).heap[gb294]? = some (.cells #[.int .i64 t288, .slice Ao83 t289.length co83] 34 (0, 0))) := ⟨by refine blk_put (cs := #[.int .i64 t288, .slice none 0 0]) ?_ 1 _ rfl; refine blk_put (cs := #[.int .i64 0, .slice none 0 0]) ?_ 0 _ rfl; exact BK294.out⟩
                                     have n10_ : Aside0 (Below w.heap.size w ((w78.setCell ⟨gb294, 0, none⟩ (.int .i64 t288)).setCell ⟨gb294, 1, none⟩ (.slice Ao83 t289.length co83))) := ⟨by repeat (first | (with_reducible first | exact HB.out | refine below_set ?_ GE294.out))⟩
                                     (try clear HO_251001)
                                     (try clear HO264)
                                     (try clear HO267)
                                     (try clear HO273)
                                     (try clear HO284)
                                     (try clear HO291)
                                     (try clear BK250)
                                     (try clear BK276)
                                     (try clear BK287)
                                     (try clear BK294)
                                     (try clear HB)
                                     generalize ((w78.setCell ⟨gb294, 0, none⟩ (.int .i64 t288)).setCell ⟨gb294, 1, none⟩ (.slice Ao83 t289.length co83)) = w120 at n0_ n1_ n2_ n3_ n4_ n5_ n6_ n7_ n8_ n9_ n10_ ⊢
                                     have HO_251001 := n0_
                                     have HO264 := n1_
                                     have HO267 := n2_
                                     have HO273 := n3_
                                     have HO284 := n4_
                                     have HO291 := n5_
                                     have BK250 := n6_
                                     have BK276 := n7_
                                     have BK287 := n8_
                                     have BK294 := n9_
                                     have HB := n10_
                                     clear n0_ n1_ n2_ n3_ n4_ n5_ n6_ n7_ n8_ n9_ n10_
                                     have n0_ := Aside0.mk (Kd.R_drew HO_251001.out)
                                     have n1_ := Aside0.mk (Kd.R_drew HO264.out)
                                     have n2_ := Aside0.mk (Kd.R_drew HO267.out)
                                     have n3_ := Aside0.mk (Kd.R_drew HO273.out)
                                     have n4_ := Aside0.mk (Kd.R_drew HO284.out)
                                     have n5_ := Aside0.mk (Kd.R_drew HO291.out)
                                     have n6_ := Aside0.mk (blk_drew BK250.out)
                                     have n7_ := Aside0.mk (blk_drew BK276.out)
                                     have n8_ := Aside0.mk (blk_drew BK287.out)
                                     have n9_ := Aside0.mk (blk_drew BK294.out)
                                     have n10_ := Aside0.mk (below_drew1 HB.out)
                                     clear HO_251001
                                     clear HO264
                                     clear HO267
                                     clear HO273
                                     clear HO284
                                     clear HO291
                                     clear BK250
                                     clear BK276
                                     clear BK287
                                     clear BK294
                                     clear HB
                                     have HO_251001 := n0_
                                     have HO264 := n1_
                                     have HO267 := n2_
                                     have HO273 := n3_
                                     have HO284 := n4_
                                     have HO291 := n5_
                                     have BK250 := n6_
                                     have BK276 := n7_
                                     have BK287 := n8_
                                     have BK294 := n9_
                                     have HB := n10_
                                     clear n0_ n1_ n2_ n3_ n4_ n5_ n6_ n7_ n8_ n9_ n10_
                                     obtain ⟨i0122, hi0122, _, hsz122, _⟩ := info_parts info5
                                     obtain ⟨hcut122, hA122, hC122⟩ := print_take_of (P := Try.prog) (Value.int .u8) 0 30 5 .i64 Try.underlying30 hi0122 hsz122 A5 c5 l5 (ji43) (of_decide_eq_true (by with_reducible assumption)) (of_decide_eq_true (by with_reducible assumption)) HC5.out
                                     have HR295 := Aside0.mk (Kd.C_of_reads (h1 := fun _ => rfl) (hA122 _ (Kd.reads_of_C HR5.out)))
                                     have HC295 := Aside0.mk hC122
                                     clear hA122 hC122 hi0122 hsz122
                                     have hSL122 := Aside0.mk (show (l5.take ((ji43) : Int).toNat).length = (ji43).toNat from (by rw [List.length_take]; have h_ : ((ji43) : Int) ≤ (l5.length : Int) := of_decide_eq_true (by with_reducible assumption); omega))
                                     obtain ⟨i0123, hi0123, _, hsz123, _⟩ := info_parts info5
                                     obtain ⟨A123, hcut123, hA123, hC123⟩ := print_drop_of (P := Try.prog) (Value.int .u8) 0 30 5 .i64 Try.underlying30 hi0123 hsz123 A5 c5 l5 (ji43) (of_decide_eq_true (by with_reducible assumption)) (of_decide_eq_true (by with_reducible assumption)) HC5.out
                                     have HR299 := Aside0.mk (Kd.C_of_reads (h1 := fun _ => rfl) (hA123 _ (Kd.reads_of_C HR5.out)))
                                     have HC299 := Aside0.mk hC123
                                     clear hA123 hC123 hi0123 hsz123
                                     refine start_ (n := 15) (S := fun w' => (convert 30 9 (.slice A123 (l5.length - (ji43).toNat) (c5 - (ji43).toNat))).run Try.prog w' = .ok (.string (strOfNums (l5.drop ((ji43) : Int).toNat))) w') (ds := []) #[false, false, false, false, false, false, false, false, false, false, false, false, false, false, false] (by kernel_rfl) rfl rfl ((by have h_ := Kd.C_string (P := Try.prog) (A := A123) (c := (c5 - (ji43).toNat)) Try.underlying30 Try.underlying5 Try.underlying9 (Kd.C_below HR299.out HB.out); rw [show (l5.drop ((ji43) : Int).toNat).length = (l5.length - (ji43).toNat) from List.length_drop] at h_; exact h_)) (fun hHeld => ?_); refine with_tabW milestonelaw13_MessageTurns.tab15 milestonelaw13_MessageTurns.bits15 (fun HT_ HW_ => ?_)
                                     generalize w120.drew = w121 at HO_251001 HO264 HO267 HO273 HO284 HO291 BK250 BK276 BK287 BK294 HB HR295 HR299 hHeld ⊢
                                     refine pure_ (i := 0) (N := some 103) (v := ?_) (a' := ?_) #[true, false, false, false, false, false, false, false, false, false, false, false, false, false, false] rfl rfl (any_of HT_.out (by kernel_rfl)) (fun _ _ _ h => h) (Or.inl ⟨by rfl, ?_⟩) ?_ ?_
                                     rotate_left
                                     · intro w'
                                       go_simp
                                       with_reducible rfl
                                     rotate_left
                                     · simp only [Act.put, List.setIfInBounds_toArray, List.set_cons_zero, List.set_cons_succ, i64_w, i32_w]
                                       rfl
                                     refine pure_ (i := 1) (N := some 104) (v := ?_) (a' := ?_) #[true, true, false, false, false, false, false, false, false, false, false, false, false, false, false] rfl rfl (any_of HT_.out (by kernel_rfl)) (fun _ _ _ h => h) (Or.inl ⟨by rfl, ?_⟩) ?_ ?_
                                     rotate_left
                                     · intro w'
                                       go_simp
                                       with_reducible rfl
                                     rotate_left
                                     · simp only [Act.put, List.setIfInBounds_toArray, List.set_cons_zero, List.set_cons_succ, i64_w, i32_w]
                                       rfl
                                     refine pure_ (i := 2) (N := some 105) (v := ?_) (a' := ?_) #[true, true, true, false, false, false, false, false, false, false, false, false, false, false, false] rfl rfl (any_of HT_.out (by kernel_rfl)) (fun _ _ _ h => h) (Or.inl ⟨by rfl, ?_⟩) ?_ ?_
                                     rotate_left
                                     · intro w'
                                       go_simp
                                       with_reducible rfl
                                     rotate_left
                                     · simp only [Act.put, List.setIfInBounds_toArray, List.set_cons_zero, List.set_cons_succ, i64_w, i32_w]
                                       rfl
                                     refine pure_ (i := 3) (N := some 106) (v := ?_) (a' := ?_) #[true, true, true, true, false, false, false, false, false, false, false, false, false, false, false] rfl rfl (any_of HT_.out (by kernel_rfl)) (fun _ _ _ h => h) (Or.inl ⟨by rfl, ?_⟩) ?_ ?_
                                     rotate_left
                                     · intro w'
                                       go_simp
                                       with_reducible rfl
                                     rotate_left
                                     · simp only [Act.put, List.setIfInBounds_toArray, List.set_cons_zero, List.set_cons_succ, i64_w, i32_w]
                                       rfl
                                     refine pure_ (i := 4) (N := some 107) (v := ?_) (a' := ?_) #[true, true, true, true, true, false, false, false, false, false, false, false, false, false, false] rfl rfl (any_of HT_.out (by kernel_rfl)) (fun _ _ _ h => h) (Or.inl ⟨by rfl, ?_⟩) ?_ ?_
                                     rotate_left
                                     · intro w'
                                       go_simp
                                       with_reducible rfl
                                     rotate_left
                                     · simp only [Act.put, List.setIfInBounds_toArray, List.set_cons_zero, List.set_cons_succ, i64_w, i32_w]
                                       rfl
                                     refine pure_ (i := 5) (N := some 108) (v := ?_) (a' := ?_) #[true, true, true, true, true, true, false, false, false, false, false, false, false, false, false] rfl rfl (any_of HT_.out (by kernel_rfl)) (fun _ _ _ h => h) (Or.inl ⟨by rfl, ?_⟩) ?_ ?_
                                     rotate_left
                                     · intro w'
                                       go_simp
                                       with_reducible rfl
                                     rotate_left
                                     · simp only [Act.put, List.setIfInBounds_toArray, List.set_cons_zero, List.set_cons_succ, i64_w, i32_w]
                                       rfl
                                     refine pure_ (i := 8) (N := some 111) (v := ?_) (a' := ?_) #[true, true, true, true, true, true, false, false, true, false, false, false, false, false, false] rfl rfl (any_of HT_.out (by kernel_rfl)) (fun _ _ _ h => h) (Or.inl ⟨by rfl, ?_⟩) ?_ ?_
                                     rotate_left
                                     · intro w'
                                       go_simp
                                       with_reducible rfl
                                     rotate_left
                                     · simp only [Act.put, List.setIfInBounds_toArray, List.set_cons_zero, List.set_cons_succ, i64_w, i32_w]
                                       rfl
                                     refine pure_ (i := 9) (N := some 112) (v := ?_) (a' := ?_) #[true, true, true, true, true, true, false, false, true, true, false, false, false, false, false] rfl rfl (any_of HT_.out (by kernel_rfl)) (fun _ _ _ h => h) (Or.inl ⟨by rfl, ?_⟩) ?_ ?_
                                     rotate_left
                                     · intro w'
                                       go_simp
                                       with_reducible rfl
                                     rotate_left
                                     · simp only [Act.put, List.setIfInBounds_toArray, List.set_cons_zero, List.set_cons_succ, i64_w, i32_w]
                                       rfl
                                     refine pure_ (i := 10) (N := some 113) (v := ?_) (a' := ?_) #[true, true, true, true, true, true, false, false, true, true, true, false, false, false, false] rfl rfl (any_of HT_.out (by kernel_rfl)) (fun _ _ _ h => h) (Or.inl ⟨by rfl, ?_⟩) ?_ ?_
                                     rotate_left
                                     · intro w'
                                       go_simp
                                       with_reducible rfl
                                     rotate_left
                                     · simp only [Act.put, List.setIfInBounds_toArray, List.set_cons_zero, List.set_cons_succ, i64_w, i32_w]
                                       rfl
                                     refine take_ (i := 11) (N := some 114) (v := ?_) (a' := ?_) #[true, true, true, true, true, true, false, false, true, true, true, true, false, false, false] rfl rfl (take_ofW HT_.out HW_.out (by kernel_rfl)) (fun _ _ _ h => h) (Or.inl ⟨by rfl, ?_⟩) hHeld ?_ ?_
                                     rotate_left
                                     · intro w' s0
                                       go_simp
                                       with_reducible rfl
                                     rotate_left
                                     · simp only [Act.put, List.setIfInBounds_toArray, List.set_cons_zero, List.set_cons_succ, i64_w, i32_w]
                                       rfl
                                     refine one_ (i := 6) (N := some 109) #[true, true, true, true, true, true, true, false, true, true, true, true, false, false, false] rfl rfl (one_of HT_.out (by kernel_rfl)) (by decide) (fun K hK => ?_)
                                     refine goes_ Try.func17 (by kernel_rfl) rfl #[.slice A5 (l5.take ((ji43) : Int).toNat).length c5] (by rfl) rfl rfl (by (try simp only [List.map_toArray, List.map_cons, List.map_nil]); first | (rw [show (l5.take ((ji43) : Int).toNat).length = (ji43).toNat from hSL122.out] <;> rfl) | (simp only [List.length_drop, List.length_take]; rfl)) ?_
                                     with_reducible refine (milestoneref01_Tail.calls k2 _ _ (l5.take ((ji43) : Int).toNat) t296 _ ?side1 ?side2 A46.out).mono ?_
                                     (case side1 => repeat (first | exact (Kd.C_below HR295.out HB.out) | (with_reducible refine Kd.C_drew ?_)))
                                     (case side2 => exact HC295.out)
                                     rintro e w124 ⟨v297, rfl, ho0, hb⟩
                                     refine ⟨_, rfl, ?_⟩
                                     have n0_ := Aside0.mk (Kd.R_below HO_251001.out hb)
                                     have n1_ := Aside0.mk (Kd.R_elder' HO264.out (Kd.R_base ho0) hb)
                                     have n2_ := Aside0.mk (Kd.R_elder' HO267.out (Kd.R_base ho0) hb)
                                     have n3_ := Aside0.mk (Kd.R_below HO273.out hb)
                                     have n4_ := Aside0.mk (Kd.R_below HO284.out hb)
                                     have n5_ := Aside0.mk (Kd.R_below HO291.out hb)
                                     have n6_ := Aside0.mk (Kd.R_lower (Kd.R_new' (Kd.R_new' ho0 (Kd.R_lt HO264.out)) (Kd.R_lt HO267.out)) (below_size (by repeat (first | (with_reducible first | exact HB.out | refine below_set ?_ GE294.out)))))
                                     have n7_ := Aside0.mk (blk_below BK250.out hb)
                                     have n8_ := Aside0.mk (blk_below BK276.out hb)
                                     have n9_ := Aside0.mk (blk_below BK287.out hb)
                                     have n10_ := Aside0.mk (blk_below BK294.out hb)
                                     have n11_ := Aside0.mk (below_step (by repeat (first | (with_reducible first | exact HB.out | refine below_set ?_ GE294.out))) hb)
                                     clear HO_251001
                                     clear HO264
                                     clear HO267
                                     clear HO273
                                     clear HO284
                                     clear HO291
                                     clear BK250
                                     clear BK276
                                     clear BK287
                                     clear BK294
                                     clear HB
                                     have HO_251001 := n0_
                                     have HO264 := n1_
                                     have HO267 := n2_
                                     have HO273 := n3_
                                     have HO284 := n4_
                                     have HO291 := n5_
                                     have HO298 := n6_
                                     have BK250 := n7_
                                     have BK276 := n8_
                                     have BK287 := n9_
                                     have BK294 := n10_
                                     have HB := n11_
                                     clear n0_ n1_ n2_ n3_ n4_ n5_ n6_ n7_ n8_ n9_ n10_ n11_
                                     (try clear hb)
                                     (try clear hb2)
                                     (try clear hk)
                                     (try clear hi)
                                     (try clear ho0)
                                     refine hK.out _ _ ((by have h_ := Kd.C_string (P := Try.prog) (A := A123) (c := (c5 - (ji43).toNat)) Try.underlying30 Try.underlying5 Try.underlying9 (Kd.C_below HR299.out HB.out); rw [show (l5.drop ((ji43) : Int).toNat).length = (l5.length - (ji43).toNat) from List.length_drop] at h_; exact h_)) (fun hHeld => ?_)
                                     clear hK K
                                     refine norm_ (a' := ?_) ?_ ?_
                                     rotate_left
                                     · show Act.put _ (some 109) _ = _
                                       simp only [Act.put, List.setIfInBounds_toArray, List.set_cons_zero, List.set_cons_succ, i64_w, i32_w]
                                       rfl
                                     refine one_ (i := 7) (N := some 110) #[true, true, true, true, true, true, true, true, true, true, true, true, false, false, false] rfl rfl (one_of HT_.out (by kernel_rfl)) (by decide) (fun K hK => ?_)
                                     have hcv125 := own_string (P := Try.prog) Try.underlying30 Try.underlying5 Try.underlying9 (Kd.own_of_R HO298.out)
                                     refine value_ (w1 := ?_) (v := ?_) (by rfl) rfl ?_ ?_
                                     rotate_left 2
                                     · go_simp
                                       constructor
                                       · rfl
                                       · rfl
                                     clear hcv125
                                     refine hK.out _ _ ((by have h_ := Kd.C_string (P := Try.prog) (A := A123) (c := (c5 - (ji43).toNat)) Try.underlying30 Try.underlying5 Try.underlying9 (Kd.C_below HR299.out HB.out); rw [show (l5.drop ((ji43) : Int).toNat).length = (l5.length - (ji43).toNat) from List.length_drop] at h_; exact h_)) (fun hHeld => ?_)
                                     clear hK K
                                     refine norm_ (a' := ?_) ?_ ?_
                                     rotate_left
                                     · show Act.put _ (some 110) _ = _
                                       simp only [Act.put, List.setIfInBounds_toArray, List.set_cons_zero, List.set_cons_succ, i64_w, i32_w]
                                       rfl
                                     refine pure_ (i := 12) (N := some 115) (v := ?_) (a' := ?_) #[true, true, true, true, true, true, true, true, true, true, true, true, true, false, false] rfl rfl (any_of HT_.out (by kernel_rfl)) (fun _ _ _ h => h) (Or.inl ⟨by rfl, ?_⟩) ?_ ?_
                                     rotate_left
                                     · intro w'
                                       go_simp
                                       with_reducible rfl
                                     rotate_left
                                     · simp only [Act.put, List.setIfInBounds_toArray, List.set_cons_zero, List.set_cons_succ, i64_w, i32_w]
                                       rfl
                                     refine pure_ (i := 13) (N := some 116) (v := ?_) (a' := ?_) #[true, true, true, true, true, true, true, true, true, true, true, true, true, true, false] rfl rfl (any_of HT_.out (by kernel_rfl)) (fun _ _ _ h => h) (Or.inl ⟨by rfl, ?_⟩) ?_ ?_
                                     rotate_left
                                     · intro w'
                                       go_simp
                                       with_reducible rfl
                                     rotate_left
                                     · simp only [Act.put, List.setIfInBounds_toArray, List.set_cons_zero, List.set_cons_succ, i64_w, i32_w]
                                       rfl
                                     refine pure_ (i := 14) (N := some 27) (v := ?_) (a' := ?_) #[true, true, true, true, true, true, true, true, true, true, true, true, true, true, true] rfl rfl (any_of HT_.out (by kernel_rfl)) (fun _ _ _ h => h) (Or.inl ⟨by rfl, ?_⟩) ?_ ?_
                                     rotate_left
                                     · intro w'
                                       go_simp
                                       with_reducible rfl
                                     rotate_left
                                     · simp only [Act.put, List.setIfInBounds_toArray, List.set_cons_zero, List.set_cons_succ, i64_w, i32_w]
                                       rfl
                                     refine done_ (done_of HT_.out (by kernel_rfl)) ?_
                                     have q126 : ((ji37) : Int) ≤ ((t262.length : Int) : Int) := of_decide_eq_true (by with_reducible assumption)
                                     obtain ⟨i0126, hi0126, _, hsz126, _⟩ := info_parts info5
                                     have hroom126 : t262.length ≤ co60 := (Kd.R_reads' HO264.out).2.1
                                     have hC126 : Kd.C (Kd.int .u8) _ Ao60 t262.length t262 := (Kd.R_reads' HO264.out).2.2
                                     have hcut126 := cut_to (P := Try.prog) 30 5 .i64 Try.underlying30 hi0126 Ao60 t262.length co60 (ji37) (of_decide_eq_true (by with_reducible assumption)) q126 hroom126
                                     have hr126 := Kd.C_take (m := ((ji37) : Int).toNat) hC126 (by omega)
                                     have hy126 : y300.length = ((ji37) : Int).toNat := (by rw [Ny300.out, List.length_take]; omega)
                                     rw [← Ny300.out] at hr126
                                     rw [← hy126] at hcut126
                                     have HR303 := Aside0.mk hr126
                                     have HC303 := Aside0.mk (show y300.length ≤ co60 from by omega)
                                     clear hr126 hC126 hroom126 hi0126 hsz126
                                     have KY126 := Aside0.mk hy126
                                     clear hy126
                                     have KL126 := Aside0.mk (show ((ji37) : Int).toNat ≤ t262.length from by omega)
                                     replace q126 := eq_true q126
                                     try go_wp2_with (first | (go_at_call 18; rw [show y277.length = y300.length from by rw [Ny277.out, Ny300.out]]; (with_reducible refine (milestonelaw13_sums.calls k2 _ _ y300 true _ ?side1 ?side2 A53.out).mono ?_); (case side1 => repeat (first | exact (by repeat (first | (with_reducible exact HR303.out) | exact HR303.out)) | (with_reducible refine Kd.C_drew ?_))); (case side2 => exact HC303.out); rintro e w127 ⟨rfl, hb⟩; have n0_ := Aside0.mk (Kd.R_below HO_251001.out hb); have n1_ := Aside0.mk (Kd.R_below HO264.out hb); have n2_ := Aside0.mk (Kd.R_below HO267.out hb); have n3_ := Aside0.mk (Kd.R_below HO273.out hb); have n4_ := Aside0.mk (Kd.R_below HO284.out hb); have n5_ := Aside0.mk (Kd.R_below HO291.out hb); have n6_ := Aside0.mk (Kd.R_below HO298.out hb); have n7_ := Aside0.mk (blk_below BK250.out hb); have n8_ := Aside0.mk (blk_below BK276.out hb); have n9_ := Aside0.mk (blk_below BK287.out hb); have n10_ := Aside0.mk (blk_below BK294.out hb); have n11_ := Aside0.mk (Kd.C_below (by repeat (first | (with_reducible exact HR303.out) | exact HR303.out)) hb); have n12_ := Aside0.mk (below_step (by repeat (first | (with_reducible first | exact HB.out | refine below_set ?_ GE294.out))) hb); clear HO_251001; clear HO264; clear HO267; clear HO273; clear HO284; clear HO291; clear HO298; clear BK250; clear BK276; clear BK287; clear BK294; clear HR303; clear HB; have HO_251001 := n0_; have HO264 := n1_; have HO267 := n2_; have HO273 := n3_; have HO284 := n4_; have HO291 := n5_; have HO298 := n6_; have BK250 := n7_; have BK276 := n8_; have BK287 := n9_; have BK294 := n10_; have HR303 := n11_; have HB := n12_; clear n0_ n1_ n2_ n3_ n4_ n5_ n6_ n7_ n8_ n9_ n10_ n11_ n12_; (try clear hb); (try clear hb2); (try clear hk); (try clear hi)) | (go_at_call 18; (refine calls_of_args (args' := #[.slice Ao60 y300.length co60]) ?_ ?_; focus (first | rfl | (simp; done) | (refine qa_arr ?_; (repeat' (first | rfl | refine qa_cons ?_ ?_ | refine qa_int ?_ | refine qa_agg ?_ | refine qa_arr ?_ | omega)); done)); (with_reducible refine (milestonelaw13_sums.calls k2 _ _ y300 true _ ?side1 ?side2 A53.out).mono ?_)); (case side1 => repeat (first | exact (by repeat (first | (with_reducible exact HR303.out) | (with_reducible refine Kd.C_alloc ?_ _) | (with_reducible refine Kd.C_drewN ?_ _) | (with_reducible refine Kd.C_drew ?_) | exact HR303.out)) | (with_reducible refine Kd.C_alloc ?_ _) | (with_reducible refine Kd.C_drewN ?_ _) | (with_reducible refine Kd.C_drew ?_))); (case side2 => exact HC303.out); rintro e w127 ⟨rfl, hb⟩; have n0_ := Aside0.mk (Kd.R_below HO_251001.out hb); have n1_ := Aside0.mk (Kd.R_below HO264.out hb); have n2_ := Aside0.mk (Kd.R_below HO267.out hb); have n3_ := Aside0.mk (Kd.R_below HO273.out hb); have n4_ := Aside0.mk (Kd.R_below HO284.out hb); have n5_ := Aside0.mk (Kd.R_below HO291.out hb); have n6_ := Aside0.mk (Kd.R_below HO298.out hb); have n7_ := Aside0.mk (blk_below BK250.out hb); have n8_ := Aside0.mk (blk_below BK276.out hb); have n9_ := Aside0.mk (blk_below BK287.out hb); have n10_ := Aside0.mk (blk_below BK294.out hb); have n11_ := Aside0.mk (Kd.C_below (by repeat (first | (with_reducible exact HR303.out) | (with_reducible refine Kd.C_alloc ?_ _) | (with_reducible refine Kd.C_drewN ?_ _) | (with_reducible refine Kd.C_drew ?_) | exact HR303.out)) hb); have n12_ := Aside0.mk (below_step (by repeat (first | (with_reducible first | exact HB.out | apply below_alloc | apply pw_below_drewN | apply below_drew1 | refine below_set ?_ GE250.out | refine below_set ?_ GE276.out | refine below_set ?_ GE287.out | refine below_set ?_ GE294.out) | exact HB.out)) hb); clear HO_251001; clear HO264; clear HO267; clear HO273; clear HO284; clear HO291; clear HO298; clear BK250; clear BK276; clear BK287; clear BK294; clear HR303; clear HB; have HO_251001 := n0_; have HO264 := n1_; have HO267 := n2_; have HO273 := n3_; have HO284 := n4_; have HO291 := n5_; have HO298 := n6_; have BK250 := n7_; have BK276 := n8_; have BK287 := n9_; have BK294 := n10_; have HR303 := n11_; have HB := n12_; clear n0_ n1_ n2_ n3_ n4_ n5_ n6_ n7_ n8_ n9_ n10_ n11_ n12_; (try clear hb); (try clear hb2); (try clear hk); (try clear hi)))
                                     go_ret
                                     exact ⟨by first | rfl | (simp [*, errW_none, errW_some] <;> rfl), by repeat (first | (with_reducible first | exact HB.out | refine below_set ?_ GE294.out))⟩
                                 · replace c54 := Bool.eq_false_iff.mpr c54
                                   subst c54
                                   have H1 : (some false) = some r := by rw [if_neg (show ¬ (false = true) by decide)] at H; exact H
                                   clear H
                                   have H := H1
                                   clear H1
                                   obtain rfl := Option.some.inj H
                                   exact absurd HT.out (by decide)
                               · rw [if_neg c50] at H
                                 have c50b0 : (t286 == 0) = false := beq_eq_false_iff_ne.mpr c50
                                 have c50b1 : (t286 != 0) = true := bne_iff_ne.mpr c50
                                 by_cases c128 : t293 = 0
                                 · rw [if_pos c128] at H
                                   have c128b0 : (t293 == 0) = true := beq_iff_eq.mpr c128
                                   have c128b1 : (t293 != 0) = false := bne_eq_false_iff_eq.mpr c128
                                   clear c128
                                   obtain rfl := Option.some.inj H
                                   simp only [Option.some.injEq, Prod.mk.injEq] at H
                                   obtain ⟨rfl⟩ := H
                                   try go_wp2
                                   have n0_ : Aside0 (Kd.R k28 28 ((w78.setCell ⟨gb294, 0, none⟩ (.int .i64 t288)).setCell ⟨gb294, 1, none⟩ (.slice Ao83 t289.length co83)) w.heap.size (fun k_ => some k_ ≠ (.slice Ao68 t271.length co68 : Value).ownBlock ∧ some k_ ≠ (.slice Ao76 t282.length co76 : Value).ownBlock ∧ some k_ ≠ (.slice Ao83 t289.length co83 : Value).ownBlock) (.slice Ao57 x251001_2.length co57) x251001_2) := ⟨by exact Kd.R_mono (Kd.R_far (p := ⟨gb294, 1, none⟩) (Kd.R_far (p := ⟨gb294, 0, none⟩) (Kd.R_types HO_251001.out BK294.out (by decide)) (fun _ hk => hk.2) (.int .i64 t288)) (fun _ hk => hk.2) (.slice Ao83 t289.length co83)) (fun _ hk => ⟨hk.1.1.1, ⟨hk.1.1.2, hk.1.2⟩⟩)⟩
                                   have n1_ : Aside0 (Kd.R (Kd.int .u8) 5 ((w78.setCell ⟨gb294, 0, none⟩ (.int .i64 t288)).setCell ⟨gb294, 1, none⟩ (.slice Ao83 t289.length co83)) w.heap.size (fun k_ => some k_ ≠ (.slice (some ⟨go34, 0, none⟩) y265.length co61 : Value).ownBlock) (.slice Ao60 t262.length co60) t262) := ⟨by exact Kd.R_mono (Kd.R_far (p := ⟨gb294, 1, none⟩) (Kd.R_far (p := ⟨gb294, 0, none⟩) (Kd.R_types HO264.out BK294.out (by decide)) (fun _ hk => hk.2) (.int .i64 t288)) (fun _ hk => hk.2) (.slice Ao83 t289.length co83)) (fun _ hk => hk.1)⟩
                                   have n2_ : Aside0 (Kd.R (Kd.int .u8) 5 ((w78.setCell ⟨gb294, 0, none⟩ (.int .i64 t288)).setCell ⟨gb294, 1, none⟩ (.slice Ao83 t289.length co83)) w.heap.size (fun k_ => some k_ ≠ (.slice Ao60 t262.length co60 : Value).ownBlock) (.slice (some ⟨go34, 0, none⟩) y265.length co61) y269) := ⟨by exact Kd.R_mono (Kd.R_far (p := ⟨gb294, 1, none⟩) (Kd.R_far (p := ⟨gb294, 0, none⟩) (Kd.R_types HO267.out BK294.out (by decide)) (fun _ hk => hk.2) (.int .i64 t288)) (fun _ hk => hk.2) (.slice Ao83 t289.length co83)) (fun _ hk => hk.1)⟩
                                   have n3_ : Aside0 (Kd.R k28 28 ((w78.setCell ⟨gb294, 0, none⟩ (.int .i64 t288)).setCell ⟨gb294, 1, none⟩ (.slice Ao83 t289.length co83)) w.heap.size (fun k_ => some k_ ≠ (.slice Ao57 x251001_2.length co57 : Value).ownBlock ∧ some k_ ≠ (.slice Ao76 t282.length co76 : Value).ownBlock ∧ some k_ ≠ (.slice Ao83 t289.length co83 : Value).ownBlock) (.slice Ao68 t271.length co68) t271) := ⟨by exact Kd.R_mono (Kd.R_far (p := ⟨gb294, 1, none⟩) (Kd.R_far (p := ⟨gb294, 0, none⟩) (Kd.R_types HO273.out BK294.out (by decide)) (fun _ hk => hk.2) (.int .i64 t288)) (fun _ hk => hk.2) (.slice Ao83 t289.length co83)) (fun _ hk => ⟨hk.1.1.1, ⟨hk.1.1.2, hk.1.2⟩⟩)⟩
                                   have n4_ : Aside0 (Kd.R k28 28 ((w78.setCell ⟨gb294, 0, none⟩ (.int .i64 t288)).setCell ⟨gb294, 1, none⟩ (.slice Ao83 t289.length co83)) w.heap.size (fun k_ => some k_ ≠ (.slice Ao57 x251001_2.length co57 : Value).ownBlock ∧ some k_ ≠ (.slice Ao68 t271.length co68 : Value).ownBlock ∧ some k_ ≠ (.slice Ao83 t289.length co83 : Value).ownBlock) (.slice Ao76 t282.length co76) t282) := ⟨by exact Kd.R_mono (Kd.R_far (p := ⟨gb294, 1, none⟩) (Kd.R_far (p := ⟨gb294, 0, none⟩) (Kd.R_types HO284.out BK294.out (by decide)) (fun _ hk => hk.2) (.int .i64 t288)) (fun _ hk => hk.2) (.slice Ao83 t289.length co83)) (fun _ hk => ⟨hk.1.1.1.2, ⟨hk.1.1.2, hk.1.2⟩⟩)⟩
                                   have n5_ : Aside0 (Kd.R k28 28 ((w78.setCell ⟨gb294, 0, none⟩ (.int .i64 t288)).setCell ⟨gb294, 1, none⟩ (.slice Ao83 t289.length co83)) w.heap.size (fun k_ => some k_ ≠ (.slice Ao57 x251001_2.length co57 : Value).ownBlock ∧ some k_ ≠ (.slice Ao68 t271.length co68 : Value).ownBlock ∧ some k_ ≠ (.slice Ao76 t282.length co76 : Value).ownBlock) (.slice Ao83 t289.length co83) t289) := ⟨by exact Kd.R_mono (Kd.R_far (p := ⟨gb294, 1, none⟩) (Kd.R_far (p := ⟨gb294, 0, none⟩) (Kd.R_types HO291.out BK294.out (by decide)) (fun _ hk => hk.2) (.int .i64 t288)) (fun _ hk => hk.2) (.slice Ao83 t289.length co83)) (fun _ hk => ⟨hk.1.1.1.2, ⟨hk.1.1.2, hk.1.2⟩⟩)⟩
                                   have n6_ : Aside0 (((w78.setCell ⟨gb294, 0, none⟩ (.int .i64 t288)).setCell ⟨gb294, 1, none⟩ (.slice Ao83 t289.length co83)).heap[gb250]? = some (.cells #[.int .i64 (wrap64 (Int.tmod a0 16)), .slice Ao57 x251001_2.length co57] 34 (0, 0))) := ⟨by refine blk_far ?_ NB250_294.out _; refine blk_far ?_ NB250_294.out _; exact BK250.out⟩
                                   have n7_ : Aside0 (((w78.setCell ⟨gb294, 0, none⟩ (.int .i64 t288)).setCell ⟨gb294, 1, none⟩ (.slice Ao83 t289.length co83)).heap[gb276]? = some (.cells #[.int .i64 t270, .slice Ao68 t271.length co68] 34 (0, 0))) := ⟨by refine blk_far ?_ NB276_294.out _; refine blk_far ?_ NB276_294.out _; exact BK276.out⟩
                                   have n8_ : Aside0 (((w78.setCell ⟨gb294, 0, none⟩ (.int .i64 t288)).setCell ⟨gb294, 1, none⟩ (.slice Ao83 t289.length co83)).heap[gb287]? = some (.cells #[.int .i64 t281, .slice Ao76 t282.length co76] 34 (0, 0))) := ⟨by refine blk_far ?_ NB287_294.out _; refine blk_far ?_ NB287_294.out _; exact BK287.out⟩
                                   have n9_ : Aside0 (((w78.setCell ⟨gb294, 0, none⟩ (.int .i64 t288)).setCell ⟨gb294, 1, none⟩ (.slice Ao83 t289.length co83)).heap[gb294]? = some (.cells #[.int .i64 t288, .slice Ao83 t289.length co83] 34 (0, 0))) := ⟨by refine blk_put (cs := #[.int .i64 t288, .slice none 0 0]) ?_ 1 _ rfl; refine blk_put (cs := #[.int .i64 0, .slice none 0 0]) ?_ 0 _ rfl; exact BK294.out⟩
                                   have n10_ : Aside0 (Below w.heap.size w ((w78.setCell ⟨gb294, 0, none⟩ (.int .i64 t288)).setCell ⟨gb294, 1, none⟩ (.slice Ao83 t289.length co83))) := ⟨by repeat (first | (with_reducible first | exact HB.out | refine below_set ?_ GE294.out))⟩
                                   (try clear HO_251001)
                                   (try clear HO264)
                                   (try clear HO267)
                                   (try clear HO273)
                                   (try clear HO284)
                                   (try clear HO291)
                                   (try clear BK250)
                                   (try clear BK276)
                                   (try clear BK287)
                                   (try clear BK294)
                                   (try clear HB)
                                   generalize ((w78.setCell ⟨gb294, 0, none⟩ (.int .i64 t288)).setCell ⟨gb294, 1, none⟩ (.slice Ao83 t289.length co83)) = w157 at n0_ n1_ n2_ n3_ n4_ n5_ n6_ n7_ n8_ n9_ n10_ ⊢
                                   have HO_251001 := n0_
                                   have HO264 := n1_
                                   have HO267 := n2_
                                   have HO273 := n3_
                                   have HO284 := n4_
                                   have HO291 := n5_
                                   have BK250 := n6_
                                   have BK276 := n7_
                                   have BK287 := n8_
                                   have BK294 := n9_
                                   have HB := n10_
                                   clear n0_ n1_ n2_ n3_ n4_ n5_ n6_ n7_ n8_ n9_ n10_
                                   have n0_ := Aside0.mk (Kd.R_drew HO_251001.out)
                                   have n1_ := Aside0.mk (Kd.R_drew HO264.out)
                                   have n2_ := Aside0.mk (Kd.R_drew HO267.out)
                                   have n3_ := Aside0.mk (Kd.R_drew HO273.out)
                                   have n4_ := Aside0.mk (Kd.R_drew HO284.out)
                                   have n5_ := Aside0.mk (Kd.R_drew HO291.out)
                                   have n6_ := Aside0.mk (blk_drew BK250.out)
                                   have n7_ := Aside0.mk (blk_drew BK276.out)
                                   have n8_ := Aside0.mk (blk_drew BK287.out)
                                   have n9_ := Aside0.mk (blk_drew BK294.out)
                                   have n10_ := Aside0.mk (below_drew1 HB.out)
                                   clear HO_251001
                                   clear HO264
                                   clear HO267
                                   clear HO273
                                   clear HO284
                                   clear HO291
                                   clear BK250
                                   clear BK276
                                   clear BK287
                                   clear BK294
                                   clear HB
                                   have HO_251001 := n0_
                                   have HO264 := n1_
                                   have HO267 := n2_
                                   have HO273 := n3_
                                   have HO284 := n4_
                                   have HO291 := n5_
                                   have BK250 := n6_
                                   have BK276 := n7_
                                   have BK287 := n8_
                                   have BK294 := n9_
                                   have HB := n10_
                                   clear n0_ n1_ n2_ n3_ n4_ n5_ n6_ n7_ n8_ n9_ n10_
                                   obtain ⟨i0159, hi0159, _, hsz159, _⟩ := info_parts info5
                                   obtain ⟨hcut159, hA159, hC159⟩ := print_take_of (P := Try.prog) (Value.int .u8) 0 30 5 .i64 Try.underlying30 hi0159 hsz159 A5 c5 l5 (ji43) (of_decide_eq_true (by with_reducible assumption)) (of_decide_eq_true (by with_reducible assumption)) HC5.out
                                   have HR295 := Aside0.mk (Kd.C_of_reads (h1 := fun _ => rfl) (hA159 _ (Kd.reads_of_C HR5.out)))
                                   have HC295 := Aside0.mk hC159
                                   clear hA159 hC159 hi0159 hsz159
                                   have hSL159 := Aside0.mk (show (l5.take ((ji43) : Int).toNat).length = (ji43).toNat from (by rw [List.length_take]; have h_ : ((ji43) : Int) ≤ (l5.length : Int) := of_decide_eq_true (by with_reducible assumption); omega))
                                   obtain ⟨i0160, hi0160, _, hsz160, _⟩ := info_parts info5
                                   obtain ⟨A160, hcut160, hA160, hC160⟩ := print_drop_of (P := Try.prog) (Value.int .u8) 0 30 5 .i64 Try.underlying30 hi0160 hsz160 A5 c5 l5 (ji43) (of_decide_eq_true (by with_reducible assumption)) (of_decide_eq_true (by with_reducible assumption)) HC5.out
                                   have HR299 := Aside0.mk (Kd.C_of_reads (h1 := fun _ => rfl) (hA160 _ (Kd.reads_of_C HR5.out)))
                                   have HC299 := Aside0.mk hC160
                                   clear hA160 hC160 hi0160 hsz160
                                   refine start_ (n := 15) (S := fun w' => (convert 30 9 (.slice A160 (l5.length - (ji43).toNat) (c5 - (ji43).toNat))).run Try.prog w' = .ok (.string (strOfNums (l5.drop ((ji43) : Int).toNat))) w') (ds := []) #[false, false, false, false, false, false, false, false, false, false, false, false, false, false, false] (by kernel_rfl) rfl rfl ((by have h_ := Kd.C_string (P := Try.prog) (A := A160) (c := (c5 - (ji43).toNat)) Try.underlying30 Try.underlying5 Try.underlying9 (Kd.C_below HR299.out HB.out); rw [show (l5.drop ((ji43) : Int).toNat).length = (l5.length - (ji43).toNat) from List.length_drop] at h_; exact h_)) (fun hHeld => ?_); refine with_tabW milestonelaw13_MessageTurns.tab15 milestonelaw13_MessageTurns.bits15 (fun HT_ HW_ => ?_)
                                   generalize w157.drew = w158 at HO_251001 HO264 HO267 HO273 HO284 HO291 BK250 BK276 BK287 BK294 HB HR295 HR299 hHeld ⊢
                                   refine pure_ (i := 0) (N := some 103) (v := ?_) (a' := ?_) #[true, false, false, false, false, false, false, false, false, false, false, false, false, false, false] rfl rfl (any_of HT_.out (by kernel_rfl)) (fun _ _ _ h => h) (Or.inl ⟨by rfl, ?_⟩) ?_ ?_
                                   rotate_left
                                   · intro w'
                                     go_simp
                                     with_reducible rfl
                                   rotate_left
                                   · simp only [Act.put, List.setIfInBounds_toArray, List.set_cons_zero, List.set_cons_succ, i64_w, i32_w]
                                     rfl
                                   refine pure_ (i := 1) (N := some 104) (v := ?_) (a' := ?_) #[true, true, false, false, false, false, false, false, false, false, false, false, false, false, false] rfl rfl (any_of HT_.out (by kernel_rfl)) (fun _ _ _ h => h) (Or.inl ⟨by rfl, ?_⟩) ?_ ?_
                                   rotate_left
                                   · intro w'
                                     go_simp
                                     with_reducible rfl
                                   rotate_left
                                   · simp only [Act.put, List.setIfInBounds_toArray, List.set_cons_zero, List.set_cons_succ, i64_w, i32_w]
                                     rfl
                                   refine pure_ (i := 2) (N := some 105) (v := ?_) (a' := ?_) #[true, true, true, false, false, false, false, false, false, false, false, false, false, false, false] rfl rfl (any_of HT_.out (by kernel_rfl)) (fun _ _ _ h => h) (Or.inl ⟨by rfl, ?_⟩) ?_ ?_
                                   rotate_left
                                   · intro w'
                                     go_simp
                                     with_reducible rfl
                                   rotate_left
                                   · simp only [Act.put, List.setIfInBounds_toArray, List.set_cons_zero, List.set_cons_succ, i64_w, i32_w]
                                     rfl
                                   refine pure_ (i := 3) (N := some 106) (v := ?_) (a' := ?_) #[true, true, true, true, false, false, false, false, false, false, false, false, false, false, false] rfl rfl (any_of HT_.out (by kernel_rfl)) (fun _ _ _ h => h) (Or.inl ⟨by rfl, ?_⟩) ?_ ?_
                                   rotate_left
                                   · intro w'
                                     go_simp
                                     with_reducible rfl
                                   rotate_left
                                   · simp only [Act.put, List.setIfInBounds_toArray, List.set_cons_zero, List.set_cons_succ, i64_w, i32_w]
                                     rfl
                                   refine pure_ (i := 4) (N := some 107) (v := ?_) (a' := ?_) #[true, true, true, true, true, false, false, false, false, false, false, false, false, false, false] rfl rfl (any_of HT_.out (by kernel_rfl)) (fun _ _ _ h => h) (Or.inl ⟨by rfl, ?_⟩) ?_ ?_
                                   rotate_left
                                   · intro w'
                                     go_simp
                                     with_reducible rfl
                                   rotate_left
                                   · simp only [Act.put, List.setIfInBounds_toArray, List.set_cons_zero, List.set_cons_succ, i64_w, i32_w]
                                     rfl
                                   refine pure_ (i := 5) (N := some 108) (v := ?_) (a' := ?_) #[true, true, true, true, true, true, false, false, false, false, false, false, false, false, false] rfl rfl (any_of HT_.out (by kernel_rfl)) (fun _ _ _ h => h) (Or.inl ⟨by rfl, ?_⟩) ?_ ?_
                                   rotate_left
                                   · intro w'
                                     go_simp
                                     with_reducible rfl
                                   rotate_left
                                   · simp only [Act.put, List.setIfInBounds_toArray, List.set_cons_zero, List.set_cons_succ, i64_w, i32_w]
                                     rfl
                                   refine pure_ (i := 8) (N := some 111) (v := ?_) (a' := ?_) #[true, true, true, true, true, true, false, false, true, false, false, false, false, false, false] rfl rfl (any_of HT_.out (by kernel_rfl)) (fun _ _ _ h => h) (Or.inl ⟨by rfl, ?_⟩) ?_ ?_
                                   rotate_left
                                   · intro w'
                                     go_simp
                                     with_reducible rfl
                                   rotate_left
                                   · simp only [Act.put, List.setIfInBounds_toArray, List.set_cons_zero, List.set_cons_succ, i64_w, i32_w]
                                     rfl
                                   refine pure_ (i := 9) (N := some 112) (v := ?_) (a' := ?_) #[true, true, true, true, true, true, false, false, true, true, false, false, false, false, false] rfl rfl (any_of HT_.out (by kernel_rfl)) (fun _ _ _ h => h) (Or.inl ⟨by rfl, ?_⟩) ?_ ?_
                                   rotate_left
                                   · intro w'
                                     go_simp
                                     with_reducible rfl
                                   rotate_left
                                   · simp only [Act.put, List.setIfInBounds_toArray, List.set_cons_zero, List.set_cons_succ, i64_w, i32_w]
                                     rfl
                                   refine pure_ (i := 10) (N := some 113) (v := ?_) (a' := ?_) #[true, true, true, true, true, true, false, false, true, true, true, false, false, false, false] rfl rfl (any_of HT_.out (by kernel_rfl)) (fun _ _ _ h => h) (Or.inl ⟨by rfl, ?_⟩) ?_ ?_
                                   rotate_left
                                   · intro w'
                                     go_simp
                                     with_reducible rfl
                                   rotate_left
                                   · simp only [Act.put, List.setIfInBounds_toArray, List.set_cons_zero, List.set_cons_succ, i64_w, i32_w]
                                     rfl
                                   refine take_ (i := 11) (N := some 114) (v := ?_) (a' := ?_) #[true, true, true, true, true, true, false, false, true, true, true, true, false, false, false] rfl rfl (take_ofW HT_.out HW_.out (by kernel_rfl)) (fun _ _ _ h => h) (Or.inl ⟨by rfl, ?_⟩) hHeld ?_ ?_
                                   rotate_left
                                   · intro w' s0
                                     go_simp
                                     with_reducible rfl
                                   rotate_left
                                   · simp only [Act.put, List.setIfInBounds_toArray, List.set_cons_zero, List.set_cons_succ, i64_w, i32_w]
                                     rfl
                                   refine one_ (i := 6) (N := some 109) #[true, true, true, true, true, true, true, false, true, true, true, true, false, false, false] rfl rfl (one_of HT_.out (by kernel_rfl)) (by decide) (fun K hK => ?_)
                                   refine goes_ Try.func17 (by kernel_rfl) rfl #[.slice A5 (l5.take ((ji43) : Int).toNat).length c5] (by rfl) rfl rfl (by (try simp only [List.map_toArray, List.map_cons, List.map_nil]); first | (rw [show (l5.take ((ji43) : Int).toNat).length = (ji43).toNat from hSL159.out] <;> rfl) | (simp only [List.length_drop, List.length_take]; rfl)) ?_
                                   with_reducible refine (milestoneref01_Tail.calls k2 _ _ (l5.take ((ji43) : Int).toNat) t296 _ ?side1 ?side2 A46.out).mono ?_
                                   (case side1 => repeat (first | exact (Kd.C_below HR295.out HB.out) | (with_reducible refine Kd.C_drew ?_)))
                                   (case side2 => exact HC295.out)
                                   rintro e w161 ⟨v297, rfl, ho0, hb⟩
                                   refine ⟨_, rfl, ?_⟩
                                   have n0_ := Aside0.mk (Kd.R_below HO_251001.out hb)
                                   have n1_ := Aside0.mk (Kd.R_elder' HO264.out (Kd.R_base ho0) hb)
                                   have n2_ := Aside0.mk (Kd.R_elder' HO267.out (Kd.R_base ho0) hb)
                                   have n3_ := Aside0.mk (Kd.R_below HO273.out hb)
                                   have n4_ := Aside0.mk (Kd.R_below HO284.out hb)
                                   have n5_ := Aside0.mk (Kd.R_below HO291.out hb)
                                   have n6_ := Aside0.mk (Kd.R_lower (Kd.R_new' (Kd.R_new' ho0 (Kd.R_lt HO264.out)) (Kd.R_lt HO267.out)) (below_size (by repeat (first | (with_reducible first | exact HB.out | refine below_set ?_ GE294.out)))))
                                   have n7_ := Aside0.mk (blk_below BK250.out hb)
                                   have n8_ := Aside0.mk (blk_below BK276.out hb)
                                   have n9_ := Aside0.mk (blk_below BK287.out hb)
                                   have n10_ := Aside0.mk (blk_below BK294.out hb)
                                   have n11_ := Aside0.mk (below_step (by repeat (first | (with_reducible first | exact HB.out | refine below_set ?_ GE294.out))) hb)
                                   clear HO_251001
                                   clear HO264
                                   clear HO267
                                   clear HO273
                                   clear HO284
                                   clear HO291
                                   clear BK250
                                   clear BK276
                                   clear BK287
                                   clear BK294
                                   clear HB
                                   have HO_251001 := n0_
                                   have HO264 := n1_
                                   have HO267 := n2_
                                   have HO273 := n3_
                                   have HO284 := n4_
                                   have HO291 := n5_
                                   have HO298 := n6_
                                   have BK250 := n7_
                                   have BK276 := n8_
                                   have BK287 := n9_
                                   have BK294 := n10_
                                   have HB := n11_
                                   clear n0_ n1_ n2_ n3_ n4_ n5_ n6_ n7_ n8_ n9_ n10_ n11_
                                   (try clear hb)
                                   (try clear hb2)
                                   (try clear hk)
                                   (try clear hi)
                                   (try clear ho0)
                                   refine hK.out _ _ ((by have h_ := Kd.C_string (P := Try.prog) (A := A160) (c := (c5 - (ji43).toNat)) Try.underlying30 Try.underlying5 Try.underlying9 (Kd.C_below HR299.out HB.out); rw [show (l5.drop ((ji43) : Int).toNat).length = (l5.length - (ji43).toNat) from List.length_drop] at h_; exact h_)) (fun hHeld => ?_)
                                   clear hK K
                                   refine norm_ (a' := ?_) ?_ ?_
                                   rotate_left
                                   · show Act.put _ (some 109) _ = _
                                     simp only [Act.put, List.setIfInBounds_toArray, List.set_cons_zero, List.set_cons_succ, i64_w, i32_w]
                                     rfl
                                   refine one_ (i := 7) (N := some 110) #[true, true, true, true, true, true, true, true, true, true, true, true, false, false, false] rfl rfl (one_of HT_.out (by kernel_rfl)) (by decide) (fun K hK => ?_)
                                   have hcv162 := own_string (P := Try.prog) Try.underlying30 Try.underlying5 Try.underlying9 (Kd.own_of_R HO298.out)
                                   refine value_ (w1 := ?_) (v := ?_) (by rfl) rfl ?_ ?_
                                   rotate_left 2
                                   · go_simp
                                     constructor
                                     · rfl
                                     · rfl
                                   clear hcv162
                                   refine hK.out _ _ ((by have h_ := Kd.C_string (P := Try.prog) (A := A160) (c := (c5 - (ji43).toNat)) Try.underlying30 Try.underlying5 Try.underlying9 (Kd.C_below HR299.out HB.out); rw [show (l5.drop ((ji43) : Int).toNat).length = (l5.length - (ji43).toNat) from List.length_drop] at h_; exact h_)) (fun hHeld => ?_)
                                   clear hK K
                                   refine norm_ (a' := ?_) ?_ ?_
                                   rotate_left
                                   · show Act.put _ (some 110) _ = _
                                     simp only [Act.put, List.setIfInBounds_toArray, List.set_cons_zero, List.set_cons_succ, i64_w, i32_w]
                                     rfl
                                   refine pure_ (i := 12) (N := some 115) (v := ?_) (a' := ?_) #[true, true, true, true, true, true, true, true, true, true, true, true, true, false, false] rfl rfl (any_of HT_.out (by kernel_rfl)) (fun _ _ _ h => h) (Or.inl ⟨by rfl, ?_⟩) ?_ ?_
                                   rotate_left
                                   · intro w'
                                     go_simp
                                     with_reducible rfl
                                   rotate_left
                                   · simp only [Act.put, List.setIfInBounds_toArray, List.set_cons_zero, List.set_cons_succ, i64_w, i32_w]
                                     rfl
                                   refine pure_ (i := 13) (N := some 116) (v := ?_) (a' := ?_) #[true, true, true, true, true, true, true, true, true, true, true, true, true, true, false] rfl rfl (any_of HT_.out (by kernel_rfl)) (fun _ _ _ h => h) (Or.inl ⟨by rfl, ?_⟩) ?_ ?_
                                   rotate_left
                                   · intro w'
                                     go_simp
                                     with_reducible rfl
                                   rotate_left
                                   · simp only [Act.put, List.setIfInBounds_toArray, List.set_cons_zero, List.set_cons_succ, i64_w, i32_w]
                                     rfl
                                   refine pure_ (i := 14) (N := some 27) (v := ?_) (a' := ?_) #[true, true, true, true, true, true, true, true, true, true, true, true, true, true, true] rfl rfl (any_of HT_.out (by kernel_rfl)) (fun _ _ _ h => h) (Or.inl ⟨by rfl, ?_⟩) ?_ ?_
                                   rotate_left
                                   · intro w'
                                     go_simp
                                     with_reducible rfl
                                   rotate_left
                                   · simp only [Act.put, List.setIfInBounds_toArray, List.set_cons_zero, List.set_cons_succ, i64_w, i32_w]
                                     rfl
                                   refine done_ (done_of HT_.out (by kernel_rfl)) ?_
                                   try go_wp2
                                   go_ret
                                   exact ⟨by first | rfl | (simp [*, errW_none, errW_some] <;> rfl), by repeat (first | (with_reducible first | exact HB.out | refine below_set ?_ GE294.out))⟩
                                 · rw [if_neg c128] at H
                                   have c128b0 : (t293 == 0) = false := beq_eq_false_iff_ne.mpr c128
                                   have c128b1 : (t293 != 0) = true := bne_iff_ne.mpr c128
                                   obtain rfl := Option.some.inj H
                                   simp only [Option.some.injEq, Prod.mk.injEq] at H
                                   obtain ⟨rfl⟩ := H
                                   try go_wp2
                                   have n0_ : Aside0 (Kd.R k28 28 ((w78.setCell ⟨gb294, 0, none⟩ (.int .i64 t288)).setCell ⟨gb294, 1, none⟩ (.slice Ao83 t289.length co83)) w.heap.size (fun k_ => some k_ ≠ (.slice Ao68 t271.length co68 : Value).ownBlock ∧ some k_ ≠ (.slice Ao76 t282.length co76 : Value).ownBlock ∧ some k_ ≠ (.slice Ao83 t289.length co83 : Value).ownBlock) (.slice Ao57 x251001_2.length co57) x251001_2) := ⟨by exact Kd.R_mono (Kd.R_far (p := ⟨gb294, 1, none⟩) (Kd.R_far (p := ⟨gb294, 0, none⟩) (Kd.R_types HO_251001.out BK294.out (by decide)) (fun _ hk => hk.2) (.int .i64 t288)) (fun _ hk => hk.2) (.slice Ao83 t289.length co83)) (fun _ hk => ⟨hk.1.1.1, ⟨hk.1.1.2, hk.1.2⟩⟩)⟩
                                   have n1_ : Aside0 (Kd.R (Kd.int .u8) 5 ((w78.setCell ⟨gb294, 0, none⟩ (.int .i64 t288)).setCell ⟨gb294, 1, none⟩ (.slice Ao83 t289.length co83)) w.heap.size (fun k_ => some k_ ≠ (.slice (some ⟨go34, 0, none⟩) y265.length co61 : Value).ownBlock) (.slice Ao60 t262.length co60) t262) := ⟨by exact Kd.R_mono (Kd.R_far (p := ⟨gb294, 1, none⟩) (Kd.R_far (p := ⟨gb294, 0, none⟩) (Kd.R_types HO264.out BK294.out (by decide)) (fun _ hk => hk.2) (.int .i64 t288)) (fun _ hk => hk.2) (.slice Ao83 t289.length co83)) (fun _ hk => hk.1)⟩
                                   have n2_ : Aside0 (Kd.R (Kd.int .u8) 5 ((w78.setCell ⟨gb294, 0, none⟩ (.int .i64 t288)).setCell ⟨gb294, 1, none⟩ (.slice Ao83 t289.length co83)) w.heap.size (fun k_ => some k_ ≠ (.slice Ao60 t262.length co60 : Value).ownBlock) (.slice (some ⟨go34, 0, none⟩) y265.length co61) y269) := ⟨by exact Kd.R_mono (Kd.R_far (p := ⟨gb294, 1, none⟩) (Kd.R_far (p := ⟨gb294, 0, none⟩) (Kd.R_types HO267.out BK294.out (by decide)) (fun _ hk => hk.2) (.int .i64 t288)) (fun _ hk => hk.2) (.slice Ao83 t289.length co83)) (fun _ hk => hk.1)⟩
                                   have n3_ : Aside0 (Kd.R k28 28 ((w78.setCell ⟨gb294, 0, none⟩ (.int .i64 t288)).setCell ⟨gb294, 1, none⟩ (.slice Ao83 t289.length co83)) w.heap.size (fun k_ => some k_ ≠ (.slice Ao57 x251001_2.length co57 : Value).ownBlock ∧ some k_ ≠ (.slice Ao76 t282.length co76 : Value).ownBlock ∧ some k_ ≠ (.slice Ao83 t289.length co83 : Value).ownBlock) (.slice Ao68 t271.length co68) t271) := ⟨by exact Kd.R_mono (Kd.R_far (p := ⟨gb294, 1, none⟩) (Kd.R_far (p := ⟨gb294, 0, none⟩) (Kd.R_types HO273.out BK294.out (by decide)) (fun _ hk => hk.2) (.int .i64 t288)) (fun _ hk => hk.2) (.slice Ao83 t289.length co83)) (fun _ hk => ⟨hk.1.1.1, ⟨hk.1.1.2, hk.1.2⟩⟩)⟩
                                   have n4_ : Aside0 (Kd.R k28 28 ((w78.setCell ⟨gb294, 0, none⟩ (.int .i64 t288)).setCell ⟨gb294, 1, none⟩ (.slice Ao83 t289.length co83)) w.heap.size (fun k_ => some k_ ≠ (.slice Ao57 x251001_2.length co57 : Value).ownBlock ∧ some k_ ≠ (.slice Ao68 t271.length co68 : Value).ownBlock ∧ some k_ ≠ (.slice Ao83 t289.length co83 : Value).ownBlock) (.slice Ao76 t282.length co76) t282) := ⟨by exact Kd.R_mono (Kd.R_far (p := ⟨gb294, 1, none⟩) (Kd.R_far (p := ⟨gb294, 0, none⟩) (Kd.R_types HO284.out BK294.out (by decide)) (fun _ hk => hk.2) (.int .i64 t288)) (fun _ hk => hk.2) (.slice Ao83 t289.length co83)) (fun _ hk => ⟨hk.1.1.1.2, ⟨hk.1.1.2, hk.1.2⟩⟩)⟩
                                   have n5_ : Aside0 (Kd.R k28 28 ((w78.setCell ⟨gb294, 0, none⟩ (.int .i64 t288)).setCell ⟨gb294, 1, none⟩ (.slice Ao83 t289.length co83)) w.heap.size (fun k_ => some k_ ≠ (.slice Ao57 x251001_2.length co57 : Value).ownBlock ∧ some k_ ≠ (.slice Ao68 t271.length co68 : Value).ownBlock ∧ some k_ ≠ (.slice Ao76 t282.length co76 : Value).ownBlock) (.slice Ao83 t289.length co83) t289) := ⟨by exact Kd.R_mono (Kd.R_far (p := ⟨gb294, 1, none⟩) (Kd.R_far (p := ⟨gb294, 0, none⟩) (Kd.R_types HO291.out BK294.out (by decide)) (fun _ hk => hk.2) (.int .i64 t288)) (fun _ hk => hk.2) (.slice Ao83 t289.length co83)) (fun _ hk => ⟨hk.1.1.1.2, ⟨hk.1.1.2, hk.1.2⟩⟩)⟩
                                   have n6_ : Aside0 (((w78.setCell ⟨gb294, 0, none⟩ (.int .i64 t288)).setCell ⟨gb294, 1, none⟩ (.slice Ao83 t289.length co83)).heap[gb250]? = some (.cells #[.int .i64 (wrap64 (Int.tmod a0 16)), .slice Ao57 x251001_2.length co57] 34 (0, 0))) := ⟨by refine blk_far ?_ NB250_294.out _; refine blk_far ?_ NB250_294.out _; exact BK250.out⟩
                                   have n7_ : Aside0 (((w78.setCell ⟨gb294, 0, none⟩ (.int .i64 t288)).setCell ⟨gb294, 1, none⟩ (.slice Ao83 t289.length co83)).heap[gb276]? = some (.cells #[.int .i64 t270, .slice Ao68 t271.length co68] 34 (0, 0))) := ⟨by refine blk_far ?_ NB276_294.out _; refine blk_far ?_ NB276_294.out _; exact BK276.out⟩
                                   have n8_ : Aside0 (((w78.setCell ⟨gb294, 0, none⟩ (.int .i64 t288)).setCell ⟨gb294, 1, none⟩ (.slice Ao83 t289.length co83)).heap[gb287]? = some (.cells #[.int .i64 t281, .slice Ao76 t282.length co76] 34 (0, 0))) := ⟨by refine blk_far ?_ NB287_294.out _; refine blk_far ?_ NB287_294.out _; exact BK287.out⟩
                                   have n9_ : Aside0 (((w78.setCell ⟨gb294, 0, none⟩ (.int .i64 t288)).setCell ⟨gb294, 1, none⟩ (.slice Ao83 t289.length co83)).heap[gb294]? = some (.cells #[.int .i64 t288, .slice Ao83 t289.length co83] 34 (0, 0))) := ⟨by refine blk_put (cs := #[.int .i64 t288, .slice none 0 0]) ?_ 1 _ rfl; refine blk_put (cs := #[.int .i64 0, .slice none 0 0]) ?_ 0 _ rfl; exact BK294.out⟩
                                   have n10_ : Aside0 (Below w.heap.size w ((w78.setCell ⟨gb294, 0, none⟩ (.int .i64 t288)).setCell ⟨gb294, 1, none⟩ (.slice Ao83 t289.length co83))) := ⟨by repeat (first | (with_reducible first | exact HB.out | refine below_set ?_ GE294.out))⟩
                                   (try clear HO_251001)
                                   (try clear HO264)
                                   (try clear HO267)
                                   (try clear HO273)
                                   (try clear HO284)
                                   (try clear HO291)
                                   (try clear BK250)
                                   (try clear BK276)
                                   (try clear BK287)
                                   (try clear BK294)
                                   (try clear HB)
                                   generalize ((w78.setCell ⟨gb294, 0, none⟩ (.int .i64 t288)).setCell ⟨gb294, 1, none⟩ (.slice Ao83 t289.length co83)) = w191 at n0_ n1_ n2_ n3_ n4_ n5_ n6_ n7_ n8_ n9_ n10_ ⊢
                                   have HO_251001 := n0_
                                   have HO264 := n1_
                                   have HO267 := n2_
                                   have HO273 := n3_
                                   have HO284 := n4_
                                   have HO291 := n5_
                                   have BK250 := n6_
                                   have BK276 := n7_
                                   have BK287 := n8_
                                   have BK294 := n9_
                                   have HB := n10_
                                   clear n0_ n1_ n2_ n3_ n4_ n5_ n6_ n7_ n8_ n9_ n10_
                                   have n0_ := Aside0.mk (Kd.R_drew HO_251001.out)
                                   have n1_ := Aside0.mk (Kd.R_drew HO264.out)
                                   have n2_ := Aside0.mk (Kd.R_drew HO267.out)
                                   have n3_ := Aside0.mk (Kd.R_drew HO273.out)
                                   have n4_ := Aside0.mk (Kd.R_drew HO284.out)
                                   have n5_ := Aside0.mk (Kd.R_drew HO291.out)
                                   have n6_ := Aside0.mk (blk_drew BK250.out)
                                   have n7_ := Aside0.mk (blk_drew BK276.out)
                                   have n8_ := Aside0.mk (blk_drew BK287.out)
                                   have n9_ := Aside0.mk (blk_drew BK294.out)
                                   have n10_ := Aside0.mk (below_drew1 HB.out)
                                   clear HO_251001
                                   clear HO264
                                   clear HO267
                                   clear HO273
                                   clear HO284
                                   clear HO291
                                   clear BK250
                                   clear BK276
                                   clear BK287
                                   clear BK294
                                   clear HB
                                   have HO_251001 := n0_
                                   have HO264 := n1_
                                   have HO267 := n2_
                                   have HO273 := n3_
                                   have HO284 := n4_
                                   have HO291 := n5_
                                   have BK250 := n6_
                                   have BK276 := n7_
                                   have BK287 := n8_
                                   have BK294 := n9_
                                   have HB := n10_
                                   clear n0_ n1_ n2_ n3_ n4_ n5_ n6_ n7_ n8_ n9_ n10_
                                   obtain ⟨i0193, hi0193, _, hsz193, _⟩ := info_parts info5
                                   obtain ⟨hcut193, hA193, hC193⟩ := print_take_of (P := Try.prog) (Value.int .u8) 0 30 5 .i64 Try.underlying30 hi0193 hsz193 A5 c5 l5 (ji43) (of_decide_eq_true (by with_reducible assumption)) (of_decide_eq_true (by with_reducible assumption)) HC5.out
                                   have HR295 := Aside0.mk (Kd.C_of_reads (h1 := fun _ => rfl) (hA193 _ (Kd.reads_of_C HR5.out)))
                                   have HC295 := Aside0.mk hC193
                                   clear hA193 hC193 hi0193 hsz193
                                   have hSL193 := Aside0.mk (show (l5.take ((ji43) : Int).toNat).length = (ji43).toNat from (by rw [List.length_take]; have h_ : ((ji43) : Int) ≤ (l5.length : Int) := of_decide_eq_true (by with_reducible assumption); omega))
                                   obtain ⟨i0194, hi0194, _, hsz194, _⟩ := info_parts info5
                                   obtain ⟨A194, hcut194, hA194, hC194⟩ := print_drop_of (P := Try.prog) (Value.int .u8) 0 30 5 .i64 Try.underlying30 hi0194 hsz194 A5 c5 l5 (ji43) (of_decide_eq_true (by with_reducible assumption)) (of_decide_eq_true (by with_reducible assumption)) HC5.out
                                   have HR299 := Aside0.mk (Kd.C_of_reads (h1 := fun _ => rfl) (hA194 _ (Kd.reads_of_C HR5.out)))
                                   have HC299 := Aside0.mk hC194
                                   clear hA194 hC194 hi0194 hsz194
                                   refine start_ (n := 15) (S := fun w' => (convert 30 9 (.slice A194 (l5.length - (ji43).toNat) (c5 - (ji43).toNat))).run Try.prog w' = .ok (.string (strOfNums (l5.drop ((ji43) : Int).toNat))) w') (ds := []) #[false, false, false, false, false, false, false, false, false, false, false, false, false, false, false] (by kernel_rfl) rfl rfl ((by have h_ := Kd.C_string (P := Try.prog) (A := A194) (c := (c5 - (ji43).toNat)) Try.underlying30 Try.underlying5 Try.underlying9 (Kd.C_below HR299.out HB.out); rw [show (l5.drop ((ji43) : Int).toNat).length = (l5.length - (ji43).toNat) from List.length_drop] at h_; exact h_)) (fun hHeld => ?_); refine with_tabW milestonelaw13_MessageTurns.tab15 milestonelaw13_MessageTurns.bits15 (fun HT_ HW_ => ?_)
                                   generalize w191.drew = w192 at HO_251001 HO264 HO267 HO273 HO284 HO291 BK250 BK276 BK287 BK294 HB HR295 HR299 hHeld ⊢
                                   refine pure_ (i := 0) (N := some 103) (v := ?_) (a' := ?_) #[true, false, false, false, false, false, false, false, false, false, false, false, false, false, false] rfl rfl (any_of HT_.out (by kernel_rfl)) (fun _ _ _ h => h) (Or.inl ⟨by rfl, ?_⟩) ?_ ?_
                                   rotate_left
                                   · intro w'
                                     go_simp
                                     with_reducible rfl
                                   rotate_left
                                   · simp only [Act.put, List.setIfInBounds_toArray, List.set_cons_zero, List.set_cons_succ, i64_w, i32_w]
                                     rfl
                                   refine pure_ (i := 1) (N := some 104) (v := ?_) (a' := ?_) #[true, true, false, false, false, false, false, false, false, false, false, false, false, false, false] rfl rfl (any_of HT_.out (by kernel_rfl)) (fun _ _ _ h => h) (Or.inl ⟨by rfl, ?_⟩) ?_ ?_
                                   rotate_left
                                   · intro w'
                                     go_simp
                                     with_reducible rfl
                                   rotate_left
                                   · simp only [Act.put, List.setIfInBounds_toArray, List.set_cons_zero, List.set_cons_succ, i64_w, i32_w]
                                     rfl
                                   refine pure_ (i := 2) (N := some 105) (v := ?_) (a' := ?_) #[true, true, true, false, false, false, false, false, false, false, false, false, false, false, false] rfl rfl (any_of HT_.out (by kernel_rfl)) (fun _ _ _ h => h) (Or.inl ⟨by rfl, ?_⟩) ?_ ?_
                                   rotate_left
                                   · intro w'
                                     go_simp
                                     with_reducible rfl
                                   rotate_left
                                   · simp only [Act.put, List.setIfInBounds_toArray, List.set_cons_zero, List.set_cons_succ, i64_w, i32_w]
                                     rfl
                                   refine pure_ (i := 3) (N := some 106) (v := ?_) (a' := ?_) #[true, true, true, true, false, false, false, false, false, false, false, false, false, false, false] rfl rfl (any_of HT_.out (by kernel_rfl)) (fun _ _ _ h => h) (Or.inl ⟨by rfl, ?_⟩) ?_ ?_
                                   rotate_left
                                   · intro w'
                                     go_simp
                                     with_reducible rfl
                                   rotate_left
                                   · simp only [Act.put, List.setIfInBounds_toArray, List.set_cons_zero, List.set_cons_succ, i64_w, i32_w]
                                     rfl
                                   refine pure_ (i := 4) (N := some 107) (v := ?_) (a' := ?_) #[true, true, true, true, true, false, false, false, false, false, false, false, false, false, false] rfl rfl (any_of HT_.out (by kernel_rfl)) (fun _ _ _ h => h) (Or.inl ⟨by rfl, ?_⟩) ?_ ?_
                                   rotate_left
                                   · intro w'
                                     go_simp
                                     with_reducible rfl
                                   rotate_left
                                   · simp only [Act.put, List.setIfInBounds_toArray, List.set_cons_zero, List.set_cons_succ, i64_w, i32_w]
                                     rfl
                                   refine pure_ (i := 5) (N := some 108) (v := ?_) (a' := ?_) #[true, true, true, true, true, true, false, false, false, false, false, false, false, false, false] rfl rfl (any_of HT_.out (by kernel_rfl)) (fun _ _ _ h => h) (Or.inl ⟨by rfl, ?_⟩) ?_ ?_
                                   rotate_left
                                   · intro w'
                                     go_simp
                                     with_reducible rfl
                                   rotate_left
                                   · simp only [Act.put, List.setIfInBounds_toArray, List.set_cons_zero, List.set_cons_succ, i64_w, i32_w]
                                     rfl
                                   refine pure_ (i := 8) (N := some 111) (v := ?_) (a' := ?_) #[true, true, true, true, true, true, false, false, true, false, false, false, false, false, false] rfl rfl (any_of HT_.out (by kernel_rfl)) (fun _ _ _ h => h) (Or.inl ⟨by rfl, ?_⟩) ?_ ?_
                                   rotate_left
                                   · intro w'
                                     go_simp
                                     with_reducible rfl
                                   rotate_left
                                   · simp only [Act.put, List.setIfInBounds_toArray, List.set_cons_zero, List.set_cons_succ, i64_w, i32_w]
                                     rfl
                                   refine pure_ (i := 9) (N := some 112) (v := ?_) (a' := ?_) #[true, true, true, true, true, true, false, false, true, true, false, false, false, false, false] rfl rfl (any_of HT_.out (by kernel_rfl)) (fun _ _ _ h => h) (Or.inl ⟨by rfl, ?_⟩) ?_ ?_
                                   rotate_left
                                   · intro w'
                                     go_simp
                                     with_reducible rfl
                                   rotate_left
                                   · simp only [Act.put, List.setIfInBounds_toArray, List.set_cons_zero, List.set_cons_succ, i64_w, i32_w]
                                     rfl
                                   refine pure_ (i := 10) (N := some 113) (v := ?_) (a' := ?_) #[true, true, true, true, true, true, false, false, true, true, true, false, false, false, false] rfl rfl (any_of HT_.out (by kernel_rfl)) (fun _ _ _ h => h) (Or.inl ⟨by rfl, ?_⟩) ?_ ?_
                                   rotate_left
                                   · intro w'
                                     go_simp
                                     with_reducible rfl
                                   rotate_left
                                   · simp only [Act.put, List.setIfInBounds_toArray, List.set_cons_zero, List.set_cons_succ, i64_w, i32_w]
                                     rfl
                                   refine take_ (i := 11) (N := some 114) (v := ?_) (a' := ?_) #[true, true, true, true, true, true, false, false, true, true, true, true, false, false, false] rfl rfl (take_ofW HT_.out HW_.out (by kernel_rfl)) (fun _ _ _ h => h) (Or.inl ⟨by rfl, ?_⟩) hHeld ?_ ?_
                                   rotate_left
                                   · intro w' s0
                                     go_simp
                                     with_reducible rfl
                                   rotate_left
                                   · simp only [Act.put, List.setIfInBounds_toArray, List.set_cons_zero, List.set_cons_succ, i64_w, i32_w]
                                     rfl
                                   refine one_ (i := 6) (N := some 109) #[true, true, true, true, true, true, true, false, true, true, true, true, false, false, false] rfl rfl (one_of HT_.out (by kernel_rfl)) (by decide) (fun K hK => ?_)
                                   refine goes_ Try.func17 (by kernel_rfl) rfl #[.slice A5 (l5.take ((ji43) : Int).toNat).length c5] (by rfl) rfl rfl (by (try simp only [List.map_toArray, List.map_cons, List.map_nil]); first | (rw [show (l5.take ((ji43) : Int).toNat).length = (ji43).toNat from hSL193.out] <;> rfl) | (simp only [List.length_drop, List.length_take]; rfl)) ?_
                                   with_reducible refine (milestoneref01_Tail.calls k2 _ _ (l5.take ((ji43) : Int).toNat) t296 _ ?side1 ?side2 A46.out).mono ?_
                                   (case side1 => repeat (first | exact (Kd.C_below HR295.out HB.out) | (with_reducible refine Kd.C_drew ?_)))
                                   (case side2 => exact HC295.out)
                                   rintro e w195 ⟨v297, rfl, ho0, hb⟩
                                   refine ⟨_, rfl, ?_⟩
                                   have n0_ := Aside0.mk (Kd.R_below HO_251001.out hb)
                                   have n1_ := Aside0.mk (Kd.R_elder' HO264.out (Kd.R_base ho0) hb)
                                   have n2_ := Aside0.mk (Kd.R_elder' HO267.out (Kd.R_base ho0) hb)
                                   have n3_ := Aside0.mk (Kd.R_below HO273.out hb)
                                   have n4_ := Aside0.mk (Kd.R_below HO284.out hb)
                                   have n5_ := Aside0.mk (Kd.R_below HO291.out hb)
                                   have n6_ := Aside0.mk (Kd.R_lower (Kd.R_new' (Kd.R_new' ho0 (Kd.R_lt HO264.out)) (Kd.R_lt HO267.out)) (below_size (by repeat (first | (with_reducible first | exact HB.out | refine below_set ?_ GE294.out)))))
                                   have n7_ := Aside0.mk (blk_below BK250.out hb)
                                   have n8_ := Aside0.mk (blk_below BK276.out hb)
                                   have n9_ := Aside0.mk (blk_below BK287.out hb)
                                   have n10_ := Aside0.mk (blk_below BK294.out hb)
                                   have n11_ := Aside0.mk (below_step (by repeat (first | (with_reducible first | exact HB.out | refine below_set ?_ GE294.out))) hb)
                                   clear HO_251001
                                   clear HO264
                                   clear HO267
                                   clear HO273
                                   clear HO284
                                   clear HO291
                                   clear BK250
                                   clear BK276
                                   clear BK287
                                   clear BK294
                                   clear HB
                                   have HO_251001 := n0_
                                   have HO264 := n1_
                                   have HO267 := n2_
                                   have HO273 := n3_
                                   have HO284 := n4_
                                   have HO291 := n5_
                                   have HO298 := n6_
                                   have BK250 := n7_
                                   have BK276 := n8_
                                   have BK287 := n9_
                                   have BK294 := n10_
                                   have HB := n11_
                                   clear n0_ n1_ n2_ n3_ n4_ n5_ n6_ n7_ n8_ n9_ n10_ n11_
                                   (try clear hb)
                                   (try clear hb2)
                                   (try clear hk)
                                   (try clear hi)
                                   (try clear ho0)
                                   refine hK.out _ _ ((by have h_ := Kd.C_string (P := Try.prog) (A := A194) (c := (c5 - (ji43).toNat)) Try.underlying30 Try.underlying5 Try.underlying9 (Kd.C_below HR299.out HB.out); rw [show (l5.drop ((ji43) : Int).toNat).length = (l5.length - (ji43).toNat) from List.length_drop] at h_; exact h_)) (fun hHeld => ?_)
                                   clear hK K
                                   refine norm_ (a' := ?_) ?_ ?_
                                   rotate_left
                                   · show Act.put _ (some 109) _ = _
                                     simp only [Act.put, List.setIfInBounds_toArray, List.set_cons_zero, List.set_cons_succ, i64_w, i32_w]
                                     rfl
                                   refine one_ (i := 7) (N := some 110) #[true, true, true, true, true, true, true, true, true, true, true, true, false, false, false] rfl rfl (one_of HT_.out (by kernel_rfl)) (by decide) (fun K hK => ?_)
                                   have hcv196 := own_string (P := Try.prog) Try.underlying30 Try.underlying5 Try.underlying9 (Kd.own_of_R HO298.out)
                                   refine value_ (w1 := ?_) (v := ?_) (by rfl) rfl ?_ ?_
                                   rotate_left 2
                                   · go_simp
                                     constructor
                                     · rfl
                                     · rfl
                                   clear hcv196
                                   refine hK.out _ _ ((by have h_ := Kd.C_string (P := Try.prog) (A := A194) (c := (c5 - (ji43).toNat)) Try.underlying30 Try.underlying5 Try.underlying9 (Kd.C_below HR299.out HB.out); rw [show (l5.drop ((ji43) : Int).toNat).length = (l5.length - (ji43).toNat) from List.length_drop] at h_; exact h_)) (fun hHeld => ?_)
                                   clear hK K
                                   refine norm_ (a' := ?_) ?_ ?_
                                   rotate_left
                                   · show Act.put _ (some 110) _ = _
                                     simp only [Act.put, List.setIfInBounds_toArray, List.set_cons_zero, List.set_cons_succ, i64_w, i32_w]
                                     rfl
                                   refine pure_ (i := 12) (N := some 115) (v := ?_) (a' := ?_) #[true, true, true, true, true, true, true, true, true, true, true, true, true, false, false] rfl rfl (any_of HT_.out (by kernel_rfl)) (fun _ _ _ h => h) (Or.inl ⟨by rfl, ?_⟩) ?_ ?_
                                   rotate_left
                                   · intro w'
                                     go_simp
                                     with_reducible rfl
                                   rotate_left
                                   · simp only [Act.put, List.setIfInBounds_toArray, List.set_cons_zero, List.set_cons_succ, i64_w, i32_w]
                                     rfl
                                   refine pure_ (i := 13) (N := some 116) (v := ?_) (a' := ?_) #[true, true, true, true, true, true, true, true, true, true, true, true, true, true, false] rfl rfl (any_of HT_.out (by kernel_rfl)) (fun _ _ _ h => h) (Or.inl ⟨by rfl, ?_⟩) ?_ ?_
                                   rotate_left
                                   · intro w'
                                     go_simp
                                     with_reducible rfl
                                   rotate_left
                                   · simp only [Act.put, List.setIfInBounds_toArray, List.set_cons_zero, List.set_cons_succ, i64_w, i32_w]
                                     rfl
                                   refine pure_ (i := 14) (N := some 27) (v := ?_) (a' := ?_) #[true, true, true, true, true, true, true, true, true, true, true, true, true, true, true] rfl rfl (any_of HT_.out (by kernel_rfl)) (fun _ _ _ h => h) (Or.inl ⟨by rfl, ?_⟩) ?_ ?_
                                   rotate_left
                                   · intro w'
                                     go_simp
                                     with_reducible rfl
                                   rotate_left
                                   · simp only [Act.put, List.setIfInBounds_toArray, List.set_cons_zero, List.set_cons_succ, i64_w, i32_w]
                                     rfl
                                   refine done_ (done_of HT_.out (by kernel_rfl)) ?_
                                   try go_wp2
                                   go_ret
                                   exact ⟨by first | rfl | (simp [*, errW_none, errW_some] <;> rfl), by repeat (first | (with_reducible first | exact HB.out | refine below_set ?_ GE294.out))⟩
                             · rw [if_neg c49] at H
                               have c49b0 : ((t275 == 0) == (a3 == 0)) = false := by simpa using c49
                               (try (have c49b1 : decide ((t275 == 0) = (a3 == 0)) = false := by simpa using c49))
                               (try (have c49b2 : ((t275 == 0) == (a3 == 0)) = false := by simpa using c49))
                               (try (have c49b3 : ¬ ((t275 == 0) = (a3 == 0)) := by simpa using c49))
                               clear c49
                               obtain rfl := Option.some.inj H
                               exact absurd HT.out (by decide)
                           · rw [if_neg c45] at H
                             exact absurd H (by simp)
                         · rw [if_neg c44] at H
                           exact absurd H (by simp)
                       · rw [if_neg c42] at H
                         have c42b0 : decide (2 ≤ (wrap64 ((l5.length : Int) - 4))) = false := decide_eq_false c42
                         clear c42
                         by_cases c197 : ((t275 == 0) == (a3 == 0)) = true
                         · rw [if_pos c197] at H
                           have c197b0 : ((t275 == 0) == (a3 == 0)) = true := c197
                           (try (have c197b1 : decide ((t275 == 0) = (a3 == 0)) = true := by simpa using c197))
                           (try (have c197b2 : ((t275 == 0) == (a3 == 0)) = true := by simpa using c197))
                           clear c197
                           by_cases c198 : t286 = 0
                           · rw [if_pos c198] at H
                             have c198b0 : (t286 == 0) = true := beq_iff_eq.mpr c198
                             have c198b1 : (t286 != 0) = false := bne_eq_false_iff_eq.mpr c198
                             clear c198
                             have c199b0 := eq_true (of_decide_eq_true (by with_reducible assumption) : 0 ≤ (ji37))
                             have c200b0 := eq_true (of_decide_eq_true (by with_reducible assumption) : (ji37) ≤ (t262.length : Int))
                             obtain ⟨y305, hy305⟩ : ∃ y_ : List Int, y_ = (t262.take ((ji37) : Int).toNat) := ⟨_, rfl⟩
                             replace H : ((milestonelaw13_sums.f k2 y305).bind fun t309 => (if t309 = true then (if t293 = 0 then (some false) else (some true)) else (some false))) = some r := by first | (rw [hy305]; with_reducible exact H) | exact H
                             have Ny305 := Aside0.mk hy305
                             clear hy305
                             replace H := Option.bind_eq_some_iff.mp H
                             obtain ⟨t309, A2010, H⟩ := H
                             replace H : (if t309 = true then (if t293 = 0 then (some false) else (some true)) else (some false)) = some r := H
                             have A201 := Aside0.mk A2010
                             clear A2010
                             by_cases c202 : t309 = true
                             · subst c202
                               have H1 : (if t293 = 0 then (some false) else (some true)) = some r := by rw [if_pos rfl] at H; exact H
                               clear H
                               have H := H1
                               clear H1
                               by_cases c203 : t293 = 0
                               · rw [if_pos c203] at H
                                 have c203b0 : (t293 == 0) = true := beq_iff_eq.mpr c203
                                 have c203b1 : (t293 != 0) = false := bne_eq_false_iff_eq.mpr c203
                                 clear c203
                                 obtain rfl := Option.some.inj H
                                 exact absurd HT.out (by decide)
                               · rw [if_neg c203] at H
                                 have c203b0 : (t293 == 0) = false := beq_eq_false_iff_ne.mpr c203
                                 have c203b1 : (t293 != 0) = true := bne_iff_ne.mpr c203
                                 obtain rfl := Option.some.inj H
                                 simp only [Option.some.injEq, Prod.mk.injEq] at H
                                 obtain ⟨rfl⟩ := H
                                 try go_wp2
                                 have n0_ : Aside0 (Kd.R k28 28 ((w78.setCell ⟨gb294, 0, none⟩ (.int .i64 t288)).setCell ⟨gb294, 1, none⟩ (.slice Ao83 t289.length co83)) w.heap.size (fun k_ => some k_ ≠ (.slice Ao68 t271.length co68 : Value).ownBlock ∧ some k_ ≠ (.slice Ao76 t282.length co76 : Value).ownBlock ∧ some k_ ≠ (.slice Ao83 t289.length co83 : Value).ownBlock) (.slice Ao57 x251001_2.length co57) x251001_2) := ⟨by exact Kd.R_mono (Kd.R_far (p := ⟨gb294, 1, none⟩) (Kd.R_far (p := ⟨gb294, 0, none⟩) (Kd.R_types HO_251001.out BK294.out (by decide)) (fun _ hk => hk.2) (.int .i64 t288)) (fun _ hk => hk.2) (.slice Ao83 t289.length co83)) (fun _ hk => ⟨hk.1.1.1, ⟨hk.1.1.2, hk.1.2⟩⟩)⟩
                                 have n1_ : Aside0 (Kd.R (Kd.int .u8) 5 ((w78.setCell ⟨gb294, 0, none⟩ (.int .i64 t288)).setCell ⟨gb294, 1, none⟩ (.slice Ao83 t289.length co83)) w.heap.size (fun k_ => some k_ ≠ (.slice (some ⟨go34, 0, none⟩) y265.length co61 : Value).ownBlock) (.slice Ao60 t262.length co60) t262) := ⟨by exact Kd.R_mono (Kd.R_far (p := ⟨gb294, 1, none⟩) (Kd.R_far (p := ⟨gb294, 0, none⟩) (Kd.R_types HO264.out BK294.out (by decide)) (fun _ hk => hk.2) (.int .i64 t288)) (fun _ hk => hk.2) (.slice Ao83 t289.length co83)) (fun _ hk => hk.1)⟩
                                 have n2_ : Aside0 (Kd.R (Kd.int .u8) 5 ((w78.setCell ⟨gb294, 0, none⟩ (.int .i64 t288)).setCell ⟨gb294, 1, none⟩ (.slice Ao83 t289.length co83)) w.heap.size (fun k_ => some k_ ≠ (.slice Ao60 t262.length co60 : Value).ownBlock) (.slice (some ⟨go34, 0, none⟩) y265.length co61) y269) := ⟨by exact Kd.R_mono (Kd.R_far (p := ⟨gb294, 1, none⟩) (Kd.R_far (p := ⟨gb294, 0, none⟩) (Kd.R_types HO267.out BK294.out (by decide)) (fun _ hk => hk.2) (.int .i64 t288)) (fun _ hk => hk.2) (.slice Ao83 t289.length co83)) (fun _ hk => hk.1)⟩
                                 have n3_ : Aside0 (Kd.R k28 28 ((w78.setCell ⟨gb294, 0, none⟩ (.int .i64 t288)).setCell ⟨gb294, 1, none⟩ (.slice Ao83 t289.length co83)) w.heap.size (fun k_ => some k_ ≠ (.slice Ao57 x251001_2.length co57 : Value).ownBlock ∧ some k_ ≠ (.slice Ao76 t282.length co76 : Value).ownBlock ∧ some k_ ≠ (.slice Ao83 t289.length co83 : Value).ownBlock) (.slice Ao68 t271.length co68) t271) := ⟨by exact Kd.R_mono (Kd.R_far (p := ⟨gb294, 1, none⟩) (Kd.R_far (p := ⟨gb294, 0, none⟩) (Kd.R_types HO273.out BK294.out (by decide)) (fun _ hk => hk.2) (.int .i64 t288)) (fun _ hk => hk.2) (.slice Ao83 t289.length co83)) (fun _ hk => ⟨hk.1.1.1, ⟨hk.1.1.2, hk.1.2⟩⟩)⟩
                                 have n4_ : Aside0 (Kd.R k28 28 ((w78.setCell ⟨gb294, 0, none⟩ (.int .i64 t288)).setCell ⟨gb294, 1, none⟩ (.slice Ao83 t289.length co83)) w.heap.size (fun k_ => some k_ ≠ (.slice Ao57 x251001_2.length co57 : Value).ownBlock ∧ some k_ ≠ (.slice Ao68 t271.length co68 : Value).ownBlock ∧ some k_ ≠ (.slice Ao83 t289.length co83 : Value).ownBlock) (.slice Ao76 t282.length co76) t282) := ⟨by exact Kd.R_mono (Kd.R_far (p := ⟨gb294, 1, none⟩) (Kd.R_far (p := ⟨gb294, 0, none⟩) (Kd.R_types HO284.out BK294.out (by decide)) (fun _ hk => hk.2) (.int .i64 t288)) (fun _ hk => hk.2) (.slice Ao83 t289.length co83)) (fun _ hk => ⟨hk.1.1.1.2, ⟨hk.1.1.2, hk.1.2⟩⟩)⟩
                                 have n5_ : Aside0 (Kd.R k28 28 ((w78.setCell ⟨gb294, 0, none⟩ (.int .i64 t288)).setCell ⟨gb294, 1, none⟩ (.slice Ao83 t289.length co83)) w.heap.size (fun k_ => some k_ ≠ (.slice Ao57 x251001_2.length co57 : Value).ownBlock ∧ some k_ ≠ (.slice Ao68 t271.length co68 : Value).ownBlock ∧ some k_ ≠ (.slice Ao76 t282.length co76 : Value).ownBlock) (.slice Ao83 t289.length co83) t289) := ⟨by exact Kd.R_mono (Kd.R_far (p := ⟨gb294, 1, none⟩) (Kd.R_far (p := ⟨gb294, 0, none⟩) (Kd.R_types HO291.out BK294.out (by decide)) (fun _ hk => hk.2) (.int .i64 t288)) (fun _ hk => hk.2) (.slice Ao83 t289.length co83)) (fun _ hk => ⟨hk.1.1.1.2, ⟨hk.1.1.2, hk.1.2⟩⟩)⟩
                                 have n6_ : Aside0 (((w78.setCell ⟨gb294, 0, none⟩ (.int .i64 t288)).setCell ⟨gb294, 1, none⟩ (.slice Ao83 t289.length co83)).heap[gb250]? = some (.cells #[.int .i64 (wrap64 (Int.tmod a0 16)), .slice Ao57 x251001_2.length co57] 34 (0, 0))) := ⟨by refine blk_far ?_ NB250_294.out _; refine blk_far ?_ NB250_294.out _; exact BK250.out⟩
                                 have n7_ : Aside0 (((w78.setCell ⟨gb294, 0, none⟩ (.int .i64 t288)).setCell ⟨gb294, 1, none⟩ (.slice Ao83 t289.length co83)).heap[gb276]? = some (.cells #[.int .i64 t270, .slice Ao68 t271.length co68] 34 (0, 0))) := ⟨by refine blk_far ?_ NB276_294.out _; refine blk_far ?_ NB276_294.out _; exact BK276.out⟩
                                 have n8_ : Aside0 (((w78.setCell ⟨gb294, 0, none⟩ (.int .i64 t288)).setCell ⟨gb294, 1, none⟩ (.slice Ao83 t289.length co83)).heap[gb287]? = some (.cells #[.int .i64 t281, .slice Ao76 t282.length co76] 34 (0, 0))) := ⟨by refine blk_far ?_ NB287_294.out _; refine blk_far ?_ NB287_294.out _; exact BK287.out⟩
                                 have n9_ : Aside0 (((w78.setCell ⟨gb294, 0, none⟩ (.int .i64 t288)).setCell ⟨gb294, 1, none⟩ (.slice Ao83 t289.length co83)).heap[gb294]? = some (.cells #[.int .i64 t288, .slice Ao83 t289.length co83] 34 (0, 0))) := ⟨by refine blk_put (cs := #[.int .i64 t288, .slice none 0 0]) ?_ 1 _ rfl; refine blk_put (cs := #[.int .i64 0, .slice none 0 0]) ?_ 0 _ rfl; exact BK294.out⟩
                                 have n10_ : Aside0 (Below w.heap.size w ((w78.setCell ⟨gb294, 0, none⟩ (.int .i64 t288)).setCell ⟨gb294, 1, none⟩ (.slice Ao83 t289.length co83))) := ⟨by repeat (first | (with_reducible first | exact HB.out | refine below_set ?_ GE294.out))⟩
                                 (try clear HO_251001)
                                 (try clear HO264)
                                 (try clear HO267)
                                 (try clear HO273)
                                 (try clear HO284)
                                 (try clear HO291)
                                 (try clear BK250)
                                 (try clear BK276)
                                 (try clear BK287)
                                 (try clear BK294)
                                 (try clear HB)
                                 generalize ((w78.setCell ⟨gb294, 0, none⟩ (.int .i64 t288)).setCell ⟨gb294, 1, none⟩ (.slice Ao83 t289.length co83)) = w232 at n0_ n1_ n2_ n3_ n4_ n5_ n6_ n7_ n8_ n9_ n10_ ⊢
                                 have HO_251001 := n0_
                                 have HO264 := n1_
                                 have HO267 := n2_
                                 have HO273 := n3_
                                 have HO284 := n4_
                                 have HO291 := n5_
                                 have BK250 := n6_
                                 have BK276 := n7_
                                 have BK287 := n8_
                                 have BK294 := n9_
                                 have HB := n10_
                                 clear n0_ n1_ n2_ n3_ n4_ n5_ n6_ n7_ n8_ n9_ n10_
                                 have n0_ := Aside0.mk (Kd.R_drew HO_251001.out)
                                 have n1_ := Aside0.mk (Kd.R_drew HO264.out)
                                 have n2_ := Aside0.mk (Kd.R_drew HO267.out)
                                 have n3_ := Aside0.mk (Kd.R_drew HO273.out)
                                 have n4_ := Aside0.mk (Kd.R_drew HO284.out)
                                 have n5_ := Aside0.mk (Kd.R_drew HO291.out)
                                 have n6_ := Aside0.mk (blk_drew BK250.out)
                                 have n7_ := Aside0.mk (blk_drew BK276.out)
                                 have n8_ := Aside0.mk (blk_drew BK287.out)
                                 have n9_ := Aside0.mk (blk_drew BK294.out)
                                 have n10_ := Aside0.mk (below_drew1 HB.out)
                                 clear HO_251001
                                 clear HO264
                                 clear HO267
                                 clear HO273
                                 clear HO284
                                 clear HO291
                                 clear BK250
                                 clear BK276
                                 clear BK287
                                 clear BK294
                                 clear HB
                                 have HO_251001 := n0_
                                 have HO264 := n1_
                                 have HO267 := n2_
                                 have HO273 := n3_
                                 have HO284 := n4_
                                 have HO291 := n5_
                                 have BK250 := n6_
                                 have BK276 := n7_
                                 have BK287 := n8_
                                 have BK294 := n9_
                                 have HB := n10_
                                 clear n0_ n1_ n2_ n3_ n4_ n5_ n6_ n7_ n8_ n9_ n10_
                                 refine start_ (n := 15) (S := fun w' => True) (ds := []) #[false, false, false, false, false, false, false, false, false, false, false, false, false, false, false] (by kernel_rfl) rfl rfl trivial (fun hHeld => ?_); refine with_tabW milestonelaw13_MessageTurns.tab15 milestonelaw13_MessageTurns.bits15 (fun HT_ HW_ => ?_)
                                 generalize w232.drew = w233 at HO_251001 HO264 HO267 HO273 HO284 HO291 BK250 BK276 BK287 BK294 HB hHeld ⊢
                                 refine pure_ (i := 0) (N := some 103) (v := ?_) (a' := ?_) #[true, false, false, false, false, false, false, false, false, false, false, false, false, false, false] rfl rfl (any_of HT_.out (by kernel_rfl)) (fun _ _ _ h => h) (Or.inl ⟨by rfl, ?_⟩) ?_ ?_
                                 rotate_left
                                 · intro w'
                                   go_simp
                                   with_reducible rfl
                                 rotate_left
                                 · simp only [Act.put, List.setIfInBounds_toArray, List.set_cons_zero, List.set_cons_succ, i64_w, i32_w]
                                   rfl
                                 refine pure_ (i := 1) (N := some 104) (v := ?_) (a' := ?_) #[true, true, false, false, false, false, false, false, false, false, false, false, false, false, false] rfl rfl (any_of HT_.out (by kernel_rfl)) (fun _ _ _ h => h) (Or.inl ⟨by rfl, ?_⟩) ?_ ?_
                                 rotate_left
                                 · intro w'
                                   go_simp
                                   with_reducible rfl
                                 rotate_left
                                 · simp only [Act.put, List.setIfInBounds_toArray, List.set_cons_zero, List.set_cons_succ, i64_w, i32_w]
                                   rfl
                                 refine pure_ (i := 2) (N := some 105) (v := ?_) (a' := ?_) #[true, true, true, false, false, false, false, false, false, false, false, false, false, false, false] rfl rfl (any_of HT_.out (by kernel_rfl)) (fun _ _ _ h => h) (Or.inl ⟨by rfl, ?_⟩) ?_ ?_
                                 rotate_left
                                 · intro w'
                                   go_simp
                                   with_reducible rfl
                                 rotate_left
                                 · simp only [Act.put, List.setIfInBounds_toArray, List.set_cons_zero, List.set_cons_succ, i64_w, i32_w]
                                   rfl
                                 refine pure_ (i := 3) (N := some 106) (v := undef) (a' := ?_) #[true, true, true, true, false, false, false, false, false, false, false, false, false, false, false] rfl rfl (any_of HT_.out (by kernel_rfl)) (fun _ _ _ h => h) (Or.inr ⟨by rfl, rfl⟩) ?_ ?_
                                 rotate_left
                                 · simp only [Act.put, List.setIfInBounds_toArray, List.set_cons_zero, List.set_cons_succ, i64_w, i32_w]
                                   rfl
                                 refine pure_ (i := 4) (N := some 107) (v := undef) (a' := ?_) #[true, true, true, true, true, false, false, false, false, false, false, false, false, false, false] rfl rfl (any_of HT_.out (by kernel_rfl)) (fun _ _ _ h => h) (Or.inr ⟨by rfl, rfl⟩) ?_ ?_
                                 rotate_left
                                 · simp only [Act.put, List.setIfInBounds_toArray, List.set_cons_zero, List.set_cons_succ, i64_w, i32_w]
                                   rfl
                                 refine pure_ (i := 5) (N := some 108) (v := undef) (a' := ?_) #[true, true, true, true, true, true, false, false, false, false, false, false, false, false, false] rfl rfl (any_of HT_.out (by kernel_rfl)) (fun _ _ _ h => h) (Or.inr ⟨by rfl, rfl⟩) ?_ ?_
                                 rotate_left
                                 · simp only [Act.put, List.setIfInBounds_toArray, List.set_cons_zero, List.set_cons_succ, i64_w, i32_w]
                                   rfl
                                 refine pure_ (i := 6) (N := some 109) (v := undef) (a' := ?_) #[true, true, true, true, true, true, true, false, false, false, false, false, false, false, false] rfl rfl (any_of HT_.out (by kernel_rfl)) (fun _ _ _ h => h) (Or.inr ⟨by rfl, rfl⟩) ?_ ?_
                                 rotate_left
                                 · simp only [Act.put, List.setIfInBounds_toArray, List.set_cons_zero, List.set_cons_succ, i64_w, i32_w]
                                   rfl
                                 refine pure_ (i := 7) (N := some 110) (v := undef) (a' := ?_) #[true, true, true, true, true, true, true, true, false, false, false, false, false, false, false] rfl rfl (any_of HT_.out (by kernel_rfl)) (fun _ _ _ h => h) (Or.inr ⟨by rfl, rfl⟩) ?_ ?_
                                 rotate_left
                                 · simp only [Act.put, List.setIfInBounds_toArray, List.set_cons_zero, List.set_cons_succ, i64_w, i32_w]
                                   rfl
                                 refine pure_ (i := 8) (N := some 111) (v := undef) (a' := ?_) #[true, true, true, true, true, true, true, true, true, false, false, false, false, false, false] rfl rfl (any_of HT_.out (by kernel_rfl)) (fun _ _ _ h => h) (Or.inr ⟨by rfl, rfl⟩) ?_ ?_
                                 rotate_left
                                 · simp only [Act.put, List.setIfInBounds_toArray, List.set_cons_zero, List.set_cons_succ, i64_w, i32_w]
                                   rfl
                                 refine pure_ (i := 9) (N := some 112) (v := undef) (a' := ?_) #[true, true, true, true, true, true, true, true, true, true, false, false, false, false, false] rfl rfl (any_of HT_.out (by kernel_rfl)) (fun _ _ _ h => h) (Or.inr ⟨by rfl, rfl⟩) ?_ ?_
                                 rotate_left
                                 · simp only [Act.put, List.setIfInBounds_toArray, List.set_cons_zero, List.set_cons_succ, i64_w, i32_w]
                                   rfl
                                 refine pure_ (i := 10) (N := some 113) (v := undef) (a' := ?_) #[true, true, true, true, true, true, true, true, true, true, true, false, false, false, false] rfl rfl (any_of HT_.out (by kernel_rfl)) (fun _ _ _ h => h) (Or.inr ⟨by rfl, rfl⟩) ?_ ?_
                                 rotate_left
                                 · simp only [Act.put, List.setIfInBounds_toArray, List.set_cons_zero, List.set_cons_succ, i64_w, i32_w]
                                   rfl
                                 refine pure_ (i := 11) (N := some 114) (v := undef) (a' := ?_) #[true, true, true, true, true, true, true, true, true, true, true, true, false, false, false] rfl rfl (any_of HT_.out (by kernel_rfl)) (fun _ _ _ h => h) (Or.inr ⟨by rfl, rfl⟩) ?_ ?_
                                 rotate_left
                                 · simp only [Act.put, List.setIfInBounds_toArray, List.set_cons_zero, List.set_cons_succ, i64_w, i32_w]
                                   rfl
                                 refine pure_ (i := 12) (N := some 115) (v := undef) (a' := ?_) #[true, true, true, true, true, true, true, true, true, true, true, true, true, false, false] rfl rfl (any_of HT_.out (by kernel_rfl)) (fun _ _ _ h => h) (Or.inr ⟨by rfl, rfl⟩) ?_ ?_
                                 rotate_left
                                 · simp only [Act.put, List.setIfInBounds_toArray, List.set_cons_zero, List.set_cons_succ, i64_w, i32_w]
                                   rfl
                                 refine pure_ (i := 13) (N := some 116) (v := ?_) (a' := ?_) #[true, true, true, true, true, true, true, true, true, true, true, true, true, true, false] rfl rfl (any_of HT_.out (by kernel_rfl)) (fun _ _ _ h => h) (Or.inl ⟨by rfl, ?_⟩) ?_ ?_
                                 rotate_left
                                 · intro w'
                                   go_simp
                                   with_reducible rfl
                                 rotate_left
                                 · simp only [Act.put, List.setIfInBounds_toArray, List.set_cons_zero, List.set_cons_succ, i64_w, i32_w]
                                   rfl
                                 refine pure_ (i := 14) (N := some 27) (v := ?_) (a' := ?_) #[true, true, true, true, true, true, true, true, true, true, true, true, true, true, true] rfl rfl (any_of HT_.out (by kernel_rfl)) (fun _ _ _ h => h) (Or.inl ⟨by rfl, ?_⟩) ?_ ?_
                                 rotate_left
                                 · intro w'
                                   go_simp
                                   with_reducible rfl
                                 rotate_left
                                 · simp only [Act.put, List.setIfInBounds_toArray, List.set_cons_zero, List.set_cons_succ, i64_w, i32_w]
                                   rfl
                                 refine done_ (done_of HT_.out (by kernel_rfl)) ?_
                                 have q234 : ((ji37) : Int) ≤ ((t262.length : Int) : Int) := of_decide_eq_true (by with_reducible assumption)
                                 obtain ⟨i0234, hi0234, _, hsz234, _⟩ := info_parts info5
                                 have hroom234 : t262.length ≤ co60 := (Kd.R_reads' HO264.out).2.1
                                 have hC234 : Kd.C (Kd.int .u8) _ Ao60 t262.length t262 := (Kd.R_reads' HO264.out).2.2
                                 have hcut234 := cut_to (P := Try.prog) 30 5 .i64 Try.underlying30 hi0234 Ao60 t262.length co60 (ji37) (of_decide_eq_true (by with_reducible assumption)) q234 hroom234
                                 have hr234 := Kd.C_take (m := ((ji37) : Int).toNat) hC234 (by omega)
                                 have hy234 : y305.length = ((ji37) : Int).toNat := (by rw [Ny305.out, List.length_take]; omega)
                                 rw [← Ny305.out] at hr234
                                 rw [← hy234] at hcut234
                                 have HR308 := Aside0.mk hr234
                                 have HC308 := Aside0.mk (show y305.length ≤ co60 from by omega)
                                 clear hr234 hC234 hroom234 hi0234 hsz234
                                 have KY234 := Aside0.mk hy234
                                 clear hy234
                                 have KL234 := Aside0.mk (show ((ji37) : Int).toNat ≤ t262.length from by omega)
                                 replace q234 := eq_true q234
                                 try go_wp2_with (first | (go_at_call 18; rw [show y277.length = y305.length from by rw [Ny277.out, Ny305.out]]; (with_reducible refine (milestonelaw13_sums.calls k2 _ _ y305 true _ ?side1 ?side2 A201.out).mono ?_); (case side1 => repeat (first | exact (by repeat (first | (with_reducible exact HR308.out) | exact HR308.out)) | (with_reducible refine Kd.C_drew ?_))); (case side2 => exact HC308.out); rintro e w235 ⟨rfl, hb⟩; have n0_ := Aside0.mk (Kd.R_below HO_251001.out hb); have n1_ := Aside0.mk (Kd.R_below HO264.out hb); have n2_ := Aside0.mk (Kd.R_below HO267.out hb); have n3_ := Aside0.mk (Kd.R_below HO273.out hb); have n4_ := Aside0.mk (Kd.R_below HO284.out hb); have n5_ := Aside0.mk (Kd.R_below HO291.out hb); have n6_ := Aside0.mk (blk_below BK250.out hb); have n7_ := Aside0.mk (blk_below BK276.out hb); have n8_ := Aside0.mk (blk_below BK287.out hb); have n9_ := Aside0.mk (blk_below BK294.out hb); have n10_ := Aside0.mk (Kd.C_below (by repeat (first | (with_reducible exact HR308.out) | exact HR308.out)) hb); have n11_ := Aside0.mk (below_step (by repeat (first | (with_reducible first | exact HB.out | refine below_set ?_ GE294.out))) hb); clear HO_251001; clear HO264; clear HO267; clear HO273; clear HO284; clear HO291; clear BK250; clear BK276; clear BK287; clear BK294; clear HR308; clear HB; have HO_251001 := n0_; have HO264 := n1_; have HO267 := n2_; have HO273 := n3_; have HO284 := n4_; have HO291 := n5_; have BK250 := n6_; have BK276 := n7_; have BK287 := n8_; have BK294 := n9_; have HR308 := n10_; have HB := n11_; clear n0_ n1_ n2_ n3_ n4_ n5_ n6_ n7_ n8_ n9_ n10_ n11_; (try clear hb); (try clear hb2); (try clear hk); (try clear hi)) | (go_at_call 18; (refine calls_of_args (args' := #[.slice Ao60 y305.length co60]) ?_ ?_; focus (first | rfl | (simp; done) | (refine qa_arr ?_; (repeat' (first | rfl | refine qa_cons ?_ ?_ | refine qa_int ?_ | refine qa_agg ?_ | refine qa_arr ?_ | omega)); done)); (with_reducible refine (milestonelaw13_sums.calls k2 _ _ y305 true _ ?side1 ?side2 A201.out).mono ?_)); (case side1 => repeat (first | exact (by repeat (first | (with_reducible exact HR308.out) | (with_reducible refine Kd.C_alloc ?_ _) | (with_reducible refine Kd.C_drewN ?_ _) | (with_reducible refine Kd.C_drew ?_) | exact HR308.out)) | (with_reducible refine Kd.C_alloc ?_ _) | (with_reducible refine Kd.C_drewN ?_ _) | (with_reducible refine Kd.C_drew ?_))); (case side2 => exact HC308.out); rintro e w235 ⟨rfl, hb⟩; have n0_ := Aside0.mk (Kd.R_below HO_251001.out hb); have n1_ := Aside0.mk (Kd.R_below HO264.out hb); have n2_ := Aside0.mk (Kd.R_below HO267.out hb); have n3_ := Aside0.mk (Kd.R_below HO273.out hb); have n4_ := Aside0.mk (Kd.R_below HO284.out hb); have n5_ := Aside0.mk (Kd.R_below HO291.out hb); have n6_ := Aside0.mk (blk_below BK250.out hb); have n7_ := Aside0.mk (blk_below BK276.out hb); have n8_ := Aside0.mk (blk_below BK287.out hb); have n9_ := Aside0.mk (blk_below BK294.out hb); have n10_ := Aside0.mk (Kd.C_below (by repeat (first | (with_reducible exact HR308.out) | (with_reducible refine Kd.C_alloc ?_ _) | (with_reducible refine Kd.C_drewN ?_ _) | (with_reducible refine Kd.C_drew ?_) | exact HR308.out)) hb); have n11_ := Aside0.mk (below_step (by repeat (first | (with_reducible first | exact HB.out | apply below_alloc | apply pw_below_drewN | apply below_drew1 | refine below_set ?_ GE250.out | refine below_set ?_ GE276.out | refine below_set ?_ GE287.out | refine below_set ?_ GE294.out) | exact HB.out)) hb); clear HO_251001; clear HO264; clear HO267; clear HO273; clear HO284; clear HO291; clear BK250; clear BK276; clear BK287; clear BK294; clear HR308; clear HB; have HO_251001 := n0_; have HO264 := n1_; have HO267 := n2_; have HO273 := n3_; have HO284 := n4_; have HO291 := n5_; have BK250 := n6_; have BK276 := n7_; have BK287 := n8_; have BK294 := n9_; have HR308 := n10_; have HB := n11_; clear n0_ n1_ n2_ n3_ n4_ n5_ n6_ n7_ n8_ n9_ n10_ n11_; (try clear hb); (try clear hb2); (try clear hk); (try clear hi)))
                                 go_ret
                                 exact ⟨by first | rfl | (simp [*, errW_none, errW_some] <;> rfl), by repeat (first | (with_reducible first | exact HB.out | refine below_set ?_ GE294.out))⟩
                             · replace c202 := Bool.eq_false_iff.mpr c202
                               subst c202
                               have H1 : (some false) = some r := by rw [if_neg (show ¬ (false = true) by decide)] at H; exact H
                               clear H
                               have H := H1
                               clear H1
                               obtain rfl := Option.some.inj H
                               exact absurd HT.out (by decide)
                           · rw [if_neg c198] at H
                             have c198b0 : (t286 == 0) = false := beq_eq_false_iff_ne.mpr c198
                             have c198b1 : (t286 != 0) = true := bne_iff_ne.mpr c198
                             by_cases c236 : t293 = 0
                             · rw [if_pos c236] at H
                               have c236b0 : (t293 == 0) = true := beq_iff_eq.mpr c236
                               have c236b1 : (t293 != 0) = false := bne_eq_false_iff_eq.mpr c236
                               clear c236
                               obtain rfl := Option.some.inj H
                               exact absurd HT.out (by decide)
                             · rw [if_neg c236] at H
                               have c236b0 : (t293 == 0) = false := beq_eq_false_iff_ne.mpr c236
                               have c236b1 : (t293 != 0) = true := bne_iff_ne.mpr c236
                               obtain rfl := Option.some.inj H
                               simp only [Option.some.injEq, Prod.mk.injEq] at H
                               obtain ⟨rfl⟩ := H
                               try go_wp2
                               have n0_ : Aside0 (Kd.R k28 28 ((w78.setCell ⟨gb294, 0, none⟩ (.int .i64 t288)).setCell ⟨gb294, 1, none⟩ (.slice Ao83 t289.length co83)) w.heap.size (fun k_ => some k_ ≠ (.slice Ao68 t271.length co68 : Value).ownBlock ∧ some k_ ≠ (.slice Ao76 t282.length co76 : Value).ownBlock ∧ some k_ ≠ (.slice Ao83 t289.length co83 : Value).ownBlock) (.slice Ao57 x251001_2.length co57) x251001_2) := ⟨by exact Kd.R_mono (Kd.R_far (p := ⟨gb294, 1, none⟩) (Kd.R_far (p := ⟨gb294, 0, none⟩) (Kd.R_types HO_251001.out BK294.out (by decide)) (fun _ hk => hk.2) (.int .i64 t288)) (fun _ hk => hk.2) (.slice Ao83 t289.length co83)) (fun _ hk => ⟨hk.1.1.1, ⟨hk.1.1.2, hk.1.2⟩⟩)⟩
                               have n1_ : Aside0 (Kd.R (Kd.int .u8) 5 ((w78.setCell ⟨gb294, 0, none⟩ (.int .i64 t288)).setCell ⟨gb294, 1, none⟩ (.slice Ao83 t289.length co83)) w.heap.size (fun k_ => some k_ ≠ (.slice (some ⟨go34, 0, none⟩) y265.length co61 : Value).ownBlock) (.slice Ao60 t262.length co60) t262) := ⟨by exact Kd.R_mono (Kd.R_far (p := ⟨gb294, 1, none⟩) (Kd.R_far (p := ⟨gb294, 0, none⟩) (Kd.R_types HO264.out BK294.out (by decide)) (fun _ hk => hk.2) (.int .i64 t288)) (fun _ hk => hk.2) (.slice Ao83 t289.length co83)) (fun _ hk => hk.1)⟩
                               have n2_ : Aside0 (Kd.R (Kd.int .u8) 5 ((w78.setCell ⟨gb294, 0, none⟩ (.int .i64 t288)).setCell ⟨gb294, 1, none⟩ (.slice Ao83 t289.length co83)) w.heap.size (fun k_ => some k_ ≠ (.slice Ao60 t262.length co60 : Value).ownBlock) (.slice (some ⟨go34, 0, none⟩) y265.length co61) y269) := ⟨by exact Kd.R_mono (Kd.R_far (p := ⟨gb294, 1, none⟩) (Kd.R_far (p := ⟨gb294, 0, none⟩) (Kd.R_types HO267.out BK294.out (by decide)) (fun _ hk => hk.2) (.int .i64 t288)) (fun _ hk => hk.2) (.slice Ao83 t289.length co83)) (fun _ hk => hk.1)⟩
                               have n3_ : Aside0 (Kd.R k28 28 ((w78.setCell ⟨gb294, 0, none⟩ (.int .i64 t288)).setCell ⟨gb294, 1, none⟩ (.slice Ao83 t289.length co83)) w.heap.size (fun k_ => some k_ ≠ (.slice Ao57 x251001_2.length co57 : Value).ownBlock ∧ some k_ ≠ (.slice Ao76 t282.length co76 : Value).ownBlock ∧ some k_ ≠ (.slice Ao83 t289.length co83 : Value).ownBlock) (.slice Ao68 t271.length co68) t271) := ⟨by exact Kd.R_mono (Kd.R_far (p := ⟨gb294, 1, none⟩) (Kd.R_far (p := ⟨gb294, 0, none⟩) (Kd.R_types HO273.out BK294.out (by decide)) (fun _ hk => hk.2) (.int .i64 t288)) (fun _ hk => hk.2) (.slice Ao83 t289.length co83)) (fun _ hk => ⟨hk.1.1.1, ⟨hk.1.1.2, hk.1.2⟩⟩)⟩
                               have n4_ : Aside0 (Kd.R k28 28 ((w78.setCell ⟨gb294, 0, none⟩ (.int .i64 t288)).setCell ⟨gb294, 1, none⟩ (.slice Ao83 t289.length co83)) w.heap.size (fun k_ => some k_ ≠ (.slice Ao57 x251001_2.length co57 : Value).ownBlock ∧ some k_ ≠ (.slice Ao68 t271.length co68 : Value).ownBlock ∧ some k_ ≠ (.slice Ao83 t289.length co83 : Value).ownBlock) (.slice Ao76 t282.length co76) t282) := ⟨by exact Kd.R_mono (Kd.R_far (p := ⟨gb294, 1, none⟩) (Kd.R_far (p := ⟨gb294, 0, none⟩) (Kd.R_types HO284.out BK294.out (by decide)) (fun _ hk => hk.2) (.int .i64 t288)) (fun _ hk => hk.2) (.slice Ao83 t289.length co83)) (fun _ hk => ⟨hk.1.1.1.2, ⟨hk.1.1.2, hk.1.2⟩⟩)⟩
                               have n5_ : Aside0 (Kd.R k28 28 ((w78.setCell ⟨gb294, 0, none⟩ (.int .i64 t288)).setCell ⟨gb294, 1, none⟩ (.slice Ao83 t289.length co83)) w.heap.size (fun k_ => some k_ ≠ (.slice Ao57 x251001_2.length co57 : Value).ownBlock ∧ some k_ ≠ (.slice Ao68 t271.length co68 : Value).ownBlock ∧ some k_ ≠ (.slice Ao76 t282.length co76 : Value).ownBlock) (.slice Ao83 t289.length co83) t289) := ⟨by exact Kd.R_mono (Kd.R_far (p := ⟨gb294, 1, none⟩) (Kd.R_far (p := ⟨gb294, 0, none⟩) (Kd.R_types HO291.out BK294.out (by decide)) (fun _ hk => hk.2) (.int .i64 t288)) (fun _ hk => hk.2) (.slice Ao83 t289.length co83)) (fun _ hk => ⟨hk.1.1.1.2, ⟨hk.1.1.2, hk.1.2⟩⟩)⟩
                               have n6_ : Aside0 (((w78.setCell ⟨gb294, 0, none⟩ (.int .i64 t288)).setCell ⟨gb294, 1, none⟩ (.slice Ao83 t289.length co83)).heap[gb250]? = some (.cells #[.int .i64 (wrap64 (Int.tmod a0 16)), .slice Ao57 x251001_2.length co57] 34 (0, 0))) := ⟨by refine blk_far ?_ NB250_294.out _; refine blk_far ?_ NB250_294.out _; exact BK250.out⟩
                               have n7_ : Aside0 (((w78.setCell ⟨gb294, 0, none⟩ (.int .i64 t288)).setCell ⟨gb294, 1, none⟩ (.slice Ao83 t289.length co83)).heap[gb276]? = some (.cells #[.int .i64 t270, .slice Ao68 t271.length co68] 34 (0, 0))) := ⟨by refine blk_far ?_ NB276_294.out _; refine blk_far ?_ NB276_294.out _; exact BK276.out⟩
                               have n8_ : Aside0 (((w78.setCell ⟨gb294, 0, none⟩ (.int .i64 t288)).setCell ⟨gb294, 1, none⟩ (.slice Ao83 t289.length co83)).heap[gb287]? = some (.cells #[.int .i64 t281, .slice Ao76 t282.length co76] 34 (0, 0))) := ⟨by refine blk_far ?_ NB287_294.out _; refine blk_far ?_ NB287_294.out _; exact BK287.out⟩
                               have n9_ : Aside0 (((w78.setCell ⟨gb294, 0, none⟩ (.int .i64 t288)).setCell ⟨gb294, 1, none⟩ (.slice Ao83 t289.length co83)).heap[gb294]? = some (.cells #[.int .i64 t288, .slice Ao83 t289.length co83] 34 (0, 0))) := ⟨by refine blk_put (cs := #[.int .i64 t288, .slice none 0 0]) ?_ 1 _ rfl; refine blk_put (cs := #[.int .i64 0, .slice none 0 0]) ?_ 0 _ rfl; exact BK294.out⟩
                               have n10_ : Aside0 (Below w.heap.size w ((w78.setCell ⟨gb294, 0, none⟩ (.int .i64 t288)).setCell ⟨gb294, 1, none⟩ (.slice Ao83 t289.length co83))) := ⟨by repeat (first | (with_reducible first | exact HB.out | refine below_set ?_ GE294.out))⟩
                               (try clear HO_251001)
                               (try clear HO264)
                               (try clear HO267)
                               (try clear HO273)
                               (try clear HO284)
                               (try clear HO291)
                               (try clear BK250)
                               (try clear BK276)
                               (try clear BK287)
                               (try clear BK294)
                               (try clear HB)
                               generalize ((w78.setCell ⟨gb294, 0, none⟩ (.int .i64 t288)).setCell ⟨gb294, 1, none⟩ (.slice Ao83 t289.length co83)) = w265 at n0_ n1_ n2_ n3_ n4_ n5_ n6_ n7_ n8_ n9_ n10_ ⊢
                               have HO_251001 := n0_
                               have HO264 := n1_
                               have HO267 := n2_
                               have HO273 := n3_
                               have HO284 := n4_
                               have HO291 := n5_
                               have BK250 := n6_
                               have BK276 := n7_
                               have BK287 := n8_
                               have BK294 := n9_
                               have HB := n10_
                               clear n0_ n1_ n2_ n3_ n4_ n5_ n6_ n7_ n8_ n9_ n10_
                               have n0_ := Aside0.mk (Kd.R_drew HO_251001.out)
                               have n1_ := Aside0.mk (Kd.R_drew HO264.out)
                               have n2_ := Aside0.mk (Kd.R_drew HO267.out)
                               have n3_ := Aside0.mk (Kd.R_drew HO273.out)
                               have n4_ := Aside0.mk (Kd.R_drew HO284.out)
                               have n5_ := Aside0.mk (Kd.R_drew HO291.out)
                               have n6_ := Aside0.mk (blk_drew BK250.out)
                               have n7_ := Aside0.mk (blk_drew BK276.out)
                               have n8_ := Aside0.mk (blk_drew BK287.out)
                               have n9_ := Aside0.mk (blk_drew BK294.out)
                               have n10_ := Aside0.mk (below_drew1 HB.out)
                               clear HO_251001
                               clear HO264
                               clear HO267
                               clear HO273
                               clear HO284
                               clear HO291
                               clear BK250
                               clear BK276
                               clear BK287
                               clear BK294
                               clear HB
                               have HO_251001 := n0_
                               have HO264 := n1_
                               have HO267 := n2_
                               have HO273 := n3_
                               have HO284 := n4_
                               have HO291 := n5_
                               have BK250 := n6_
                               have BK276 := n7_
                               have BK287 := n8_
                               have BK294 := n9_
                               have HB := n10_
                               clear n0_ n1_ n2_ n3_ n4_ n5_ n6_ n7_ n8_ n9_ n10_
                               refine start_ (n := 15) (S := fun w' => True) (ds := []) #[false, false, false, false, false, false, false, false, false, false, false, false, false, false, false] (by kernel_rfl) rfl rfl trivial (fun hHeld => ?_); refine with_tabW milestonelaw13_MessageTurns.tab15 milestonelaw13_MessageTurns.bits15 (fun HT_ HW_ => ?_)
                               generalize w265.drew = w266 at HO_251001 HO264 HO267 HO273 HO284 HO291 BK250 BK276 BK287 BK294 HB hHeld ⊢
                               refine pure_ (i := 0) (N := some 103) (v := ?_) (a' := ?_) #[true, false, false, false, false, false, false, false, false, false, false, false, false, false, false] rfl rfl (any_of HT_.out (by kernel_rfl)) (fun _ _ _ h => h) (Or.inl ⟨by rfl, ?_⟩) ?_ ?_
                               rotate_left
                               · intro w'
                                 go_simp
                                 with_reducible rfl
                               rotate_left
                               · simp only [Act.put, List.setIfInBounds_toArray, List.set_cons_zero, List.set_cons_succ, i64_w, i32_w]
                                 rfl
                               refine pure_ (i := 1) (N := some 104) (v := ?_) (a' := ?_) #[true, true, false, false, false, false, false, false, false, false, false, false, false, false, false] rfl rfl (any_of HT_.out (by kernel_rfl)) (fun _ _ _ h => h) (Or.inl ⟨by rfl, ?_⟩) ?_ ?_
                               rotate_left
                               · intro w'
                                 go_simp
                                 with_reducible rfl
                               rotate_left
                               · simp only [Act.put, List.setIfInBounds_toArray, List.set_cons_zero, List.set_cons_succ, i64_w, i32_w]
                                 rfl
                               refine pure_ (i := 2) (N := some 105) (v := ?_) (a' := ?_) #[true, true, true, false, false, false, false, false, false, false, false, false, false, false, false] rfl rfl (any_of HT_.out (by kernel_rfl)) (fun _ _ _ h => h) (Or.inl ⟨by rfl, ?_⟩) ?_ ?_
                               rotate_left
                               · intro w'
                                 go_simp
                                 with_reducible rfl
                               rotate_left
                               · simp only [Act.put, List.setIfInBounds_toArray, List.set_cons_zero, List.set_cons_succ, i64_w, i32_w]
                                 rfl
                               refine pure_ (i := 3) (N := some 106) (v := undef) (a' := ?_) #[true, true, true, true, false, false, false, false, false, false, false, false, false, false, false] rfl rfl (any_of HT_.out (by kernel_rfl)) (fun _ _ _ h => h) (Or.inr ⟨by rfl, rfl⟩) ?_ ?_
                               rotate_left
                               · simp only [Act.put, List.setIfInBounds_toArray, List.set_cons_zero, List.set_cons_succ, i64_w, i32_w]
                                 rfl
                               refine pure_ (i := 4) (N := some 107) (v := undef) (a' := ?_) #[true, true, true, true, true, false, false, false, false, false, false, false, false, false, false] rfl rfl (any_of HT_.out (by kernel_rfl)) (fun _ _ _ h => h) (Or.inr ⟨by rfl, rfl⟩) ?_ ?_
                               rotate_left
                               · simp only [Act.put, List.setIfInBounds_toArray, List.set_cons_zero, List.set_cons_succ, i64_w, i32_w]
                                 rfl
                               refine pure_ (i := 5) (N := some 108) (v := undef) (a' := ?_) #[true, true, true, true, true, true, false, false, false, false, false, false, false, false, false] rfl rfl (any_of HT_.out (by kernel_rfl)) (fun _ _ _ h => h) (Or.inr ⟨by rfl, rfl⟩) ?_ ?_
                               rotate_left
                               · simp only [Act.put, List.setIfInBounds_toArray, List.set_cons_zero, List.set_cons_succ, i64_w, i32_w]
                                 rfl
                               refine pure_ (i := 6) (N := some 109) (v := undef) (a' := ?_) #[true, true, true, true, true, true, true, false, false, false, false, false, false, false, false] rfl rfl (any_of HT_.out (by kernel_rfl)) (fun _ _ _ h => h) (Or.inr ⟨by rfl, rfl⟩) ?_ ?_
                               rotate_left
                               · simp only [Act.put, List.setIfInBounds_toArray, List.set_cons_zero, List.set_cons_succ, i64_w, i32_w]
                                 rfl
                               refine pure_ (i := 7) (N := some 110) (v := undef) (a' := ?_) #[true, true, true, true, true, true, true, true, false, false, false, false, false, false, false] rfl rfl (any_of HT_.out (by kernel_rfl)) (fun _ _ _ h => h) (Or.inr ⟨by rfl, rfl⟩) ?_ ?_
                               rotate_left
                               · simp only [Act.put, List.setIfInBounds_toArray, List.set_cons_zero, List.set_cons_succ, i64_w, i32_w]
                                 rfl
                               refine pure_ (i := 8) (N := some 111) (v := undef) (a' := ?_) #[true, true, true, true, true, true, true, true, true, false, false, false, false, false, false] rfl rfl (any_of HT_.out (by kernel_rfl)) (fun _ _ _ h => h) (Or.inr ⟨by rfl, rfl⟩) ?_ ?_
                               rotate_left
                               · simp only [Act.put, List.setIfInBounds_toArray, List.set_cons_zero, List.set_cons_succ, i64_w, i32_w]
                                 rfl
                               refine pure_ (i := 9) (N := some 112) (v := undef) (a' := ?_) #[true, true, true, true, true, true, true, true, true, true, false, false, false, false, false] rfl rfl (any_of HT_.out (by kernel_rfl)) (fun _ _ _ h => h) (Or.inr ⟨by rfl, rfl⟩) ?_ ?_
                               rotate_left
                               · simp only [Act.put, List.setIfInBounds_toArray, List.set_cons_zero, List.set_cons_succ, i64_w, i32_w]
                                 rfl
                               refine pure_ (i := 10) (N := some 113) (v := undef) (a' := ?_) #[true, true, true, true, true, true, true, true, true, true, true, false, false, false, false] rfl rfl (any_of HT_.out (by kernel_rfl)) (fun _ _ _ h => h) (Or.inr ⟨by rfl, rfl⟩) ?_ ?_
                               rotate_left
                               · simp only [Act.put, List.setIfInBounds_toArray, List.set_cons_zero, List.set_cons_succ, i64_w, i32_w]
                                 rfl
                               refine pure_ (i := 11) (N := some 114) (v := undef) (a' := ?_) #[true, true, true, true, true, true, true, true, true, true, true, true, false, false, false] rfl rfl (any_of HT_.out (by kernel_rfl)) (fun _ _ _ h => h) (Or.inr ⟨by rfl, rfl⟩) ?_ ?_
                               rotate_left
                               · simp only [Act.put, List.setIfInBounds_toArray, List.set_cons_zero, List.set_cons_succ, i64_w, i32_w]
                                 rfl
                               refine pure_ (i := 12) (N := some 115) (v := undef) (a' := ?_) #[true, true, true, true, true, true, true, true, true, true, true, true, true, false, false] rfl rfl (any_of HT_.out (by kernel_rfl)) (fun _ _ _ h => h) (Or.inr ⟨by rfl, rfl⟩) ?_ ?_
                               rotate_left
                               · simp only [Act.put, List.setIfInBounds_toArray, List.set_cons_zero, List.set_cons_succ, i64_w, i32_w]
                                 rfl
                               refine pure_ (i := 13) (N := some 116) (v := ?_) (a' := ?_) #[true, true, true, true, true, true, true, true, true, true, true, true, true, true, false] rfl rfl (any_of HT_.out (by kernel_rfl)) (fun _ _ _ h => h) (Or.inl ⟨by rfl, ?_⟩) ?_ ?_
                               rotate_left
                               · intro w'
                                 go_simp
                                 with_reducible rfl
                               rotate_left
                               · simp only [Act.put, List.setIfInBounds_toArray, List.set_cons_zero, List.set_cons_succ, i64_w, i32_w]
                                 rfl
                               refine pure_ (i := 14) (N := some 27) (v := ?_) (a' := ?_) #[true, true, true, true, true, true, true, true, true, true, true, true, true, true, true] rfl rfl (any_of HT_.out (by kernel_rfl)) (fun _ _ _ h => h) (Or.inl ⟨by rfl, ?_⟩) ?_ ?_
                               rotate_left
                               · intro w'
                                 go_simp
                                 with_reducible rfl
                               rotate_left
                               · simp only [Act.put, List.setIfInBounds_toArray, List.set_cons_zero, List.set_cons_succ, i64_w, i32_w]
                                 rfl
                               refine done_ (done_of HT_.out (by kernel_rfl)) ?_
                               try go_wp2
                               go_ret
                               exact ⟨by first | rfl | (simp [*, errW_none, errW_some] <;> rfl), by repeat (first | (with_reducible first | exact HB.out | refine below_set ?_ GE294.out))⟩
                         · rw [if_neg c197] at H
                           have c197b0 : ((t275 == 0) == (a3 == 0)) = false := by simpa using c197
                           (try (have c197b1 : decide ((t275 == 0) = (a3 == 0)) = false := by simpa using c197))
                           (try (have c197b2 : ((t275 == 0) == (a3 == 0)) = false := by simpa using c197))
                           (try (have c197b3 : ¬ ((t275 == 0) = (a3 == 0)) := by simpa using c197))
                           clear c197
                           obtain rfl := Option.some.inj H
                           exact absurd HT.out (by decide)
                     · rw [if_neg c39] at H
                       exact absurd H (by simp)
                   · rw [if_neg c38] at H
                     exact absurd H (by simp)
               · rw [if_neg c33] at H
                 exact absurd H (by simp)
             · rw [if_neg c32] at H
               exact absurd H (by simp)
         · rw [if_neg c29] at H
           exact absurd H (by simp)

/-- THE ONE PURE STATEMENT of milestonelaw13_MessageTurns: yours. -/
def milestonelaw13_MessageTurns.Pure : Prop := ∀ (a0 : Int) (l1 : List (S28)) (a2 : Int) (a3 : Int) (a4 : Int) (l5 : List Int), (Lit.int .u8 a0).wf = true → l1.length ≤ maxLen → (∀ x ∈ l1, ((Lit.int .u8 x.f0).wf = true ∧ ((Lit.int .u64 x.f1).wf = true ∧ ((Lit.int .i64 x.f2).wf = true ∧ (((Lit.int .u32 x.f3.f0).wf = true ∧ (Lit.int .u8 x.f3.f1).wf = true) ∧ ((Lit.int .u16 x.f4).wf = true ∧ (Lit.int .u16 x.f5).wf = true)))))) → (Lit.int .u16 a2).wf = true → (Lit.int .u8 a3).wf = true → (Lit.int .u16 a4).wf = true → l5.length ≤ maxLen → l5.length * 1 ≤ 140737488351232 → (∀ x ∈ l5, (Lit.int .u8 x).wf = true) → ∃ k, milestonelaw13_MessageTurns.f k a0 l1 a2 a3 a4 l5 = some true
theorem milestonelaw13_MessageTurns.walk (P : milestonelaw13_MessageTurns.Pure) (a0 : Int) (a1 : Option Addr) (cap1 : Nat) (l1 : List (S28)) (a2 : Int) (a3 : Int) (a4 : Int) (a5 : Option Addr) (len5 cap5 : Nat) (z5 : List Int) (w : World) (w0 : (Lit.int .u8 a0).wf = true) (hr1 : Kd.C k28 w a1 l1.length l1) (hc1 : l1.length ≤ cap1) (hm1 : l1.length ≤ maxLen) (hw1 : ∀ x ∈ l1, ((Lit.int .u8 x.f0).wf = true ∧ ((Lit.int .u64 x.f1).wf = true ∧ ((Lit.int .i64 x.f2).wf = true ∧ (((Lit.int .u32 x.f3.f0).wf = true ∧ (Lit.int .u8 x.f3.f1).wf = true) ∧ ((Lit.int .u16 x.f4).wf = true ∧ (Lit.int .u16 x.f5).wf = true)))))) (w2 : (Lit.int .u16 a2).wf = true) (w3 : (Lit.int .u8 a3).wf = true) (w4 : (Lit.int .u16 a4).wf = true) (w5 : (a5 = none ∧ len5 = 0 ∧ cap5 = 0 ∧ z5 = []) ∨ ∃ x, a5 = some x ∧ len5 ≤ cap5 ∧ cap5 ≤ maxLen ∧ z5.length = cap5 ∧ (∀ i, i < z5.length → w.cell? (x.add i) = some (.int .u8 (z5.getD i 0))) ∧ ∀ n ∈ z5, (Lit.int .u8 n).wf = true) (y5 : len5 * 1 ≤ 140737488351232) :
 Calls Try.prog 5 #[.int .u8 a0, .slice a1 l1.length cap1, .int .u16 a2, .int .u8 a3, .int .u16 a4, .slice a5 len5 cap5] w fun e w' => e = .returned (.bool true) ∧ Below w.heap.size w w' := by
 obtain ⟨l5, rfl, hr5, hm5, hw5, hc5⟩ := ReadsInt.ofRowC w5
 obtain ⟨k, h⟩ := P a0 l1 a2 a3 a4 l5 w0 hm1 hw1 w2 w3 w4 hm5 y5 hw5
 refine (milestonelaw13_MessageTurns.calls k a0 _ _ l1 a2 a3 a4 _ _ l5 true w hr1 hc1 (Kd.C_of_reads (d := (0 : Int)) (h1 := fun _ => rfl) hr5) hc5 h rfl).mono ?_
 rintro e w' ⟨rfl, hd⟩
 exact ⟨rfl, hd⟩

end Go.Proofs.Ytnfdgpmdakciiaa.QMessageTurns
