-- Lines by a program of this session, for this claim.
import Derived.Test.YtnfdgpmdakciiaaQMessageBytesx0
import Derived.Test.YtnfdgpmdakciiaaQMessageBytesx1
import Derived.Test.YtnfdgpmdakciiaaQMessageBytesx2
import Derived.Test.YtnfdgpmdakciiaaQMessageBytesx4
import Derived.Test.YtnfdgpmdakciiaaQMessageBytesx5
import Derived.Test.YtnfdgpmdakciiaaQMessageBytesx6
import Derived.Test.YtnfdgpmdakciiaaQMessageBytesx9
import Derived.Test.YtnfdgpmdakciiaaQMessageBytesx10
namespace Go.Proofs.Ytnfdgpmdakciiaa.QMessageBytes
open Go.RowKit Go.Proofs.YtnfdgpmdakciiaaW.PrintWords Go.Proofs.YtnfdgpmdakciiaaW.PrintLast Go.Proofs.YtnfdgpmdakciiaaW.PrintMore
attribute [local go_sem] max2_int min2_int max_two min_two max_three min_three max_four min_four   -- for this text's walks alone
set_option linter.unusedVariables false
set_option linter.unusedSimpArgs false

attribute [local go_sem high] eqA28
/-! ### milestonelaw13_MessageBytes: function 4 -/
mutual
def milestonelaw13_MessageBytes.j0 : Nat → Int → List (S28) → Bool → Option (Bool)
 | 0, _, _, _ => none
 | k + 1, x0, x1, x19 => if x19 = true then ((milestonelaw13_awake.f k).bind fun t346 => (some t346)) else ((some (([1] : List Int) : List Int)).bind fun y348 => ((milestoneref01_Coin.f k (IntKind.u64.wrap (Int.tmod x0 16))).bind fun t351 => (if y348.length + t351.length < 140737488355328 then (milestonelaw13_MessageBytes.l0 k x1 (y348 ++ t351) 0 (wrap64 (Int.tmod x0 16)) ([] : List (S28))) else (none))))
def milestonelaw13_MessageBytes.l0 : Nat → List (S28) → List Int → Int → Int → List (S28) → Option (Bool)
 | 0, _, _, _, _, _ => none
 | k + 1, x1, x6, x7, x348000, x348001 => if x7 < (x1.length : Int) then (if 0 ≤ x7 then ((milestonelaw13_near.f k ((rd_T28 x1 x7).f0) ((rd_T28 x1 x7).f1) ((rd_T28 x1 x7).f2) ((rd_T28 x1 x7).f3.f0) ((rd_T28 x1 x7).f3.f1) ((rd_T28 x1 x7).f4) ((rd_T28 x1 x7).f5)).bind fun bt358 => (if x348001.length < 3518437208883 then ((milestonelaw13_near.f k ((rd_T28 x1 x7).f0) ((rd_T28 x1 x7).f1) ((rd_T28 x1 x7).f2) ((rd_T28 x1 x7).f3.f0) ((rd_T28 x1 x7).f3.f1) ((rd_T28 x1 x7).f4) ((rd_T28 x1 x7).f5)).bind fun bt369 => ((milestonelaw13_bytes.f k bt369.1 bt369.2.1 bt369.2.2.1 bt369.2.2.2.1 bt369.2.2.2.2.1 bt369.2.2.2.2.2.1 bt369.2.2.2.2.2.2).bind fun t376 => (if x6.length + t376.length < 140737488355328 then (milestonelaw13_MessageBytes.l0 k x1 (x6 ++ t376) (wrap64 (x7 + 1)) x348000 (x348001 ++ [(⟨bt358.1, bt358.2.1, bt358.2.2.1, (⟨bt358.2.2.2.1, bt358.2.2.2.2.1⟩ : S25), bt358.2.2.2.2.2.1, bt358.2.2.2.2.2.2⟩ : S28)])) else (none)))) else (none))) else (none)) else ((message_Encode.f k x348000 x348001).bind fun t382 => ((message_Decode.f k t382).bind fun bt385 => ((milestonelaw13_packet.f k x6).bind fun t392 => (if (strOfNums t382).toList = (strOfNums t392).toList then (if bt385.2.2.2 = 0 then (if bt385.2.2.1 = 0 then (if bt385.1 = x348000 then (milestonelaw13_MessageBytes.j2 k x1 ((bt385.2.1.length : Int) != (x1.length : Int)) bt385.1 bt385.2.1) else (milestonelaw13_MessageBytes.j2 k x1 true bt385.1 bt385.2.1)) else (milestonelaw13_MessageBytes.j2 k x1 true bt385.1 bt385.2.1)) else (milestonelaw13_MessageBytes.j2 k x1 true bt385.1 bt385.2.1)) else (milestonelaw13_MessageBytes.j2 k x1 true bt385.1 bt385.2.1)))))
def milestonelaw13_MessageBytes.j2 : Nat → List (S28) → Bool → Int → List (S28) → Option (Bool)
 | 0, _, _, _, _ => none
 | k + 1, x1, x91, x392000, x392001 => if x91 = true then (some false) else (milestonelaw13_MessageBytes.l1 k x1 0 x392000 x392001)
def milestonelaw13_MessageBytes.l1 : Nat → List (S28) → Int → Int → List (S28) → Option (Bool)
 | 0, _, _, _, _ => none
 | k + 1, x1, x12, x392000, x392001 => if x12 < (x1.length : Int) then (if 0 ≤ x12 then (if x12 < (x392001.length : Int) then ((milestonelaw13_near.f k ((rd_T28 x1 x12).f0) ((rd_T28 x1 x12).f1) ((rd_T28 x1 x12).f2) ((rd_T28 x1 x12).f3.f0) ((rd_T28 x1 x12).f3.f1) ((rd_T28 x1 x12).f4) ((rd_T28 x1 x12).f5)).bind fun bt397 => (if (!(((rd_T28 x392001 x12).f0) == bt397.1) || (!(((rd_T28 x392001 x12).f1) == bt397.2.1) || (!(((rd_T28 x392001 x12).f2) == bt397.2.2.1) || ((!(((rd_T28 x392001 x12).f3.f0) == bt397.2.2.2.1) || (!(((rd_T28 x392001 x12).f3.f1) == bt397.2.2.2.2.1))) || (!(((rd_T28 x392001 x12).f4) == bt397.2.2.2.2.2.1) || (!(((rd_T28 x392001 x12).f5) == bt397.2.2.2.2.2.2))))))) = true then (some false) else (milestonelaw13_MessageBytes.l1 k x1 (wrap64 (x12 + 1)) x392000 x392001))) else (none)) else (none)) else (some true)
end
def milestonelaw13_MessageBytes.f (k : Nat) (a0 : Int) (l1 : List (S28)) : Option (Bool) := (milestonelaw13_awake.f k).bind fun t345 => (if t345 = true then (milestonelaw13_MessageBytes.j0 k a0 l1 (decide ((l1.length : Int) > 30))) else (milestonelaw13_MessageBytes.j0 k a0 l1 true))
theorem milestonelaw13_MessageBytes.mono_l : ∀ k, (∀ y0 y1 y2, LeO (milestonelaw13_MessageBytes.j0 k y0 y1 y2) (milestonelaw13_MessageBytes.j0 (k + 1) y0 y1 y2)) ∧ (∀ y0 y1 y2 y3 y4, LeO (milestonelaw13_MessageBytes.l0 k y0 y1 y2 y3 y4) (milestonelaw13_MessageBytes.l0 (k + 1) y0 y1 y2 y3 y4)) ∧ (∀ y0 y1 y2 y3, LeO (milestonelaw13_MessageBytes.j2 k y0 y1 y2 y3) (milestonelaw13_MessageBytes.j2 (k + 1) y0 y1 y2 y3)) ∧ (∀ y0 y1 y2 y3, LeO (milestonelaw13_MessageBytes.l1 k y0 y1 y2 y3) (milestonelaw13_MessageBytes.l1 (k + 1) y0 y1 y2 y3))
 | 0 => ⟨fun _ _ _ r h => by simp [milestonelaw13_MessageBytes.j0] at h, fun _ _ _ _ _ r h => by simp [milestonelaw13_MessageBytes.l0] at h, fun _ _ _ _ r h => by simp [milestonelaw13_MessageBytes.j2] at h, fun _ _ _ _ r h => by simp [milestonelaw13_MessageBytes.l1] at h⟩
 | k + 1 => by
  obtain ⟨ih0, ih1, ih2, ih3⟩ := milestonelaw13_MessageBytes.mono_l k
  refine ⟨?_, ?_, ?_, ?_⟩
  · intro y0 y1 y2
    unfold milestonelaw13_MessageBytes.j0
    repeat' first
    | (with_reducible exact ih0 _ _ _)
    | (with_reducible exact ih1 _ _ _ _ _)
    | (with_reducible exact ih2 _ _ _ _)
    | (with_reducible exact ih3 _ _ _ _)
    | (with_reducible exact message_Decode.mono _ _)
    | (with_reducible exact message_Encode.mono _ _ _)
    | (with_reducible exact milestonelaw13_awake.mono _)
    | (with_reducible exact milestonelaw13_bytes.mono _ _ _ _ _ _ _ _)
    | (with_reducible exact milestonelaw13_near.mono _ _ _ _ _ _ _ _)
    | (with_reducible exact milestonelaw13_packet.mono _ _)
    | (with_reducible exact milestoneref01_Coin.mono _ _)
    | (with_reducible exact LeO.refl _)
    | (with_reducible exact LeO.none _)
    | (with_reducible refine LeO.ite ?_ ?_)
    | (with_reducible refine LeO.bind ?_ (fun _ => ?_))
    | exact ih0 _ _ _
    | exact ih1 _ _ _ _ _
    | exact ih2 _ _ _ _
    | exact ih3 _ _ _ _
    | exact message_Decode.mono _ _
    | exact message_Encode.mono _ _ _
    | exact milestonelaw13_awake.mono _
    | exact milestonelaw13_bytes.mono _ _ _ _ _ _ _ _
    | exact milestonelaw13_near.mono _ _ _ _ _ _ _ _
    | exact milestonelaw13_packet.mono _ _
    | exact milestoneref01_Coin.mono _ _
    | exact LeO.none _
    | refine LeO.ite ?_ ?_
    | refine LeO.bind ?_ (fun _ => ?_)
  · intro y0 y1 y2 y3 y4
    unfold milestonelaw13_MessageBytes.l0
    repeat' first
    | (with_reducible exact ih0 _ _ _)
    | (with_reducible exact ih1 _ _ _ _ _)
    | (with_reducible exact ih2 _ _ _ _)
    | (with_reducible exact ih3 _ _ _ _)
    | (with_reducible exact message_Decode.mono _ _)
    | (with_reducible exact message_Encode.mono _ _ _)
    | (with_reducible exact milestonelaw13_awake.mono _)
    | (with_reducible exact milestonelaw13_bytes.mono _ _ _ _ _ _ _ _)
    | (with_reducible exact milestonelaw13_near.mono _ _ _ _ _ _ _ _)
    | (with_reducible exact milestonelaw13_packet.mono _ _)
    | (with_reducible exact milestoneref01_Coin.mono _ _)
    | (with_reducible exact LeO.refl _)
    | (with_reducible exact LeO.none _)
    | (with_reducible refine LeO.ite ?_ ?_)
    | (with_reducible refine LeO.bind ?_ (fun _ => ?_))
    | exact ih0 _ _ _
    | exact ih1 _ _ _ _ _
    | exact ih2 _ _ _ _
    | exact ih3 _ _ _ _
    | exact message_Decode.mono _ _
    | exact message_Encode.mono _ _ _
    | exact milestonelaw13_awake.mono _
    | exact milestonelaw13_bytes.mono _ _ _ _ _ _ _ _
    | exact milestonelaw13_near.mono _ _ _ _ _ _ _ _
    | exact milestonelaw13_packet.mono _ _
    | exact milestoneref01_Coin.mono _ _
    | exact LeO.none _
    | refine LeO.ite ?_ ?_
    | refine LeO.bind ?_ (fun _ => ?_)
  · intro y0 y1 y2 y3
    unfold milestonelaw13_MessageBytes.j2
    repeat' first
    | (with_reducible exact ih0 _ _ _)
    | (with_reducible exact ih1 _ _ _ _ _)
    | (with_reducible exact ih2 _ _ _ _)
    | (with_reducible exact ih3 _ _ _ _)
    | (with_reducible exact message_Decode.mono _ _)
    | (with_reducible exact message_Encode.mono _ _ _)
    | (with_reducible exact milestonelaw13_awake.mono _)
    | (with_reducible exact milestonelaw13_bytes.mono _ _ _ _ _ _ _ _)
    | (with_reducible exact milestonelaw13_near.mono _ _ _ _ _ _ _ _)
    | (with_reducible exact milestonelaw13_packet.mono _ _)
    | (with_reducible exact milestoneref01_Coin.mono _ _)
    | (with_reducible exact LeO.refl _)
    | (with_reducible exact LeO.none _)
    | (with_reducible refine LeO.ite ?_ ?_)
    | (with_reducible refine LeO.bind ?_ (fun _ => ?_))
    | exact ih0 _ _ _
    | exact ih1 _ _ _ _ _
    | exact ih2 _ _ _ _
    | exact ih3 _ _ _ _
    | exact message_Decode.mono _ _
    | exact message_Encode.mono _ _ _
    | exact milestonelaw13_awake.mono _
    | exact milestonelaw13_bytes.mono _ _ _ _ _ _ _ _
    | exact milestonelaw13_near.mono _ _ _ _ _ _ _ _
    | exact milestonelaw13_packet.mono _ _
    | exact milestoneref01_Coin.mono _ _
    | exact LeO.none _
    | refine LeO.ite ?_ ?_
    | refine LeO.bind ?_ (fun _ => ?_)
  · intro y0 y1 y2 y3
    unfold milestonelaw13_MessageBytes.l1
    repeat' first
    | (with_reducible exact ih0 _ _ _)
    | (with_reducible exact ih1 _ _ _ _ _)
    | (with_reducible exact ih2 _ _ _ _)
    | (with_reducible exact ih3 _ _ _ _)
    | (with_reducible exact message_Decode.mono _ _)
    | (with_reducible exact message_Encode.mono _ _ _)
    | (with_reducible exact milestonelaw13_awake.mono _)
    | (with_reducible exact milestonelaw13_bytes.mono _ _ _ _ _ _ _ _)
    | (with_reducible exact milestonelaw13_near.mono _ _ _ _ _ _ _ _)
    | (with_reducible exact milestonelaw13_packet.mono _ _)
    | (with_reducible exact milestoneref01_Coin.mono _ _)
    | (with_reducible exact LeO.refl _)
    | (with_reducible exact LeO.none _)
    | (with_reducible refine LeO.ite ?_ ?_)
    | (with_reducible refine LeO.bind ?_ (fun _ => ?_))
    | exact ih0 _ _ _
    | exact ih1 _ _ _ _ _
    | exact ih2 _ _ _ _
    | exact ih3 _ _ _ _
    | exact message_Decode.mono _ _
    | exact message_Encode.mono _ _ _
    | exact milestonelaw13_awake.mono _
    | exact milestonelaw13_bytes.mono _ _ _ _ _ _ _ _
    | exact milestonelaw13_near.mono _ _ _ _ _ _ _ _
    | exact milestonelaw13_packet.mono _ _
    | exact milestoneref01_Coin.mono _ _
    | exact LeO.none _
    | refine LeO.ite ?_ ?_
    | refine LeO.bind ?_ (fun _ => ?_)
theorem milestonelaw13_MessageBytes.mono : ∀ a0 a1 k, LeO (milestonelaw13_MessageBytes.f k a0 a1) (milestonelaw13_MessageBytes.f (k + 1) a0 a1) := by
 intro a0 a1 k
 obtain ⟨ih0, ih1, ih2, ih3⟩ := milestonelaw13_MessageBytes.mono_l k
 unfold milestonelaw13_MessageBytes.f
 repeat' first
  | (with_reducible exact ih0 _ _ _)
  | (with_reducible exact ih1 _ _ _ _ _)
  | (with_reducible exact ih2 _ _ _ _)
  | (with_reducible exact ih3 _ _ _ _)
  | (with_reducible exact message_Decode.mono _ _)
  | (with_reducible exact message_Encode.mono _ _ _)
  | (with_reducible exact milestonelaw13_awake.mono _)
  | (with_reducible exact milestonelaw13_bytes.mono _ _ _ _ _ _ _ _)
  | (with_reducible exact milestonelaw13_near.mono _ _ _ _ _ _ _ _)
  | (with_reducible exact milestonelaw13_packet.mono _ _)
  | (with_reducible exact milestoneref01_Coin.mono _ _)
  | (with_reducible exact LeO.refl _)
  | (with_reducible exact LeO.none _)
  | (with_reducible refine LeO.ite ?_ ?_)
  | (with_reducible refine LeO.bind ?_ (fun _ => ?_))
  | exact ih0 _ _ _
  | exact ih1 _ _ _ _ _
  | exact ih2 _ _ _ _
  | exact ih3 _ _ _ _
  | exact message_Decode.mono _ _
  | exact message_Encode.mono _ _ _
  | exact milestonelaw13_awake.mono _
  | exact milestonelaw13_bytes.mono _ _ _ _ _ _ _ _
  | exact milestonelaw13_near.mono _ _ _ _ _ _ _ _
  | exact milestonelaw13_packet.mono _ _
  | exact milestoneref01_Coin.mono _ _
  | exact LeO.none _
  | refine LeO.ite ?_ ?_
  | refine LeO.bind ?_ (fun _ => ?_)
def milestonelaw13_MessageBytes.T8 : Bool × List (List Nat × List Nat) := (true, [([], []), ([0], [0]), ([], []), ([], []), ([2, 3], [2, 3]), ([4], [4]), ([5], [5]), ([6], [6]), ([1, 7, 6], [1, 7]), ([0, 1, 2, 3, 4, 5, 6, 7, 8], []), ([9, 8, 8, 0, 1, 2, 3, 4, 5, 6, 7, 8], [8, 9])])
def milestonelaw13_MessageBytes.B8 : List Nat := [0, 1, 0, 0, 12, 28, 60, 124, 255, 511, 1023]
theorem milestonelaw13_MessageBytes.tab8 : rtab .any (opsOf Try.f4 8) = milestonelaw13_MessageBytes.T8 := by kernel_rfl
theorem milestonelaw13_MessageBytes.bits8 : waitsOk milestonelaw13_MessageBytes.T8.2 milestonelaw13_MessageBytes.B8 = true := by kernel_rfl
def milestonelaw13_MessageBytes.T12 : Bool × List (List Nat × List Nat) := (true, [([], []), ([0], [0]), ([], []), ([2], [2]), ([3], [3]), ([1, 4], [1, 4]), ([5, 3], [5]), ([6], [6]), ([7, 6], [6, 7]), ([6, 8], [6, 8]), ([9, 6], [9]), ([10], [10]), ([11, 10], [10, 11]), ([10, 12], [10, 12]), ([13, 10], [13]), ([14], [14]), ([15, 14], [14, 15]), ([14], [14]), ([17, 14], [14, 17]), ([16, 18, 14], [14, 16, 18]), ([14, 19], [14, 19]), ([20, 14], [20]), ([21], [21]), ([22, 21], [21, 22]), ([23, 21], [21, 23]), ([21], [21]), ([25, 21], [21, 25]), ([24, 26, 21], [21, 24, 26]), ([21, 27], [21, 27])])
def milestonelaw13_MessageBytes.B12 : List Nat := [0, 1, 0, 4, 12, 31, 63, 127, 255, 511, 1023, 2047, 4095, 8191, 16383, 32767, 65535, 32767, 163839, 524287, 1048575, 2097151, 4194303, 8388607, 16777215, 4194303, 37748735, 134217727, 268435455]
theorem milestonelaw13_MessageBytes.tab12 : rtab .any (opsOf Try.f4 12) = milestonelaw13_MessageBytes.T12 := by kernel_rfl
theorem milestonelaw13_MessageBytes.bits12 : waitsOk milestonelaw13_MessageBytes.T12.2 milestonelaw13_MessageBytes.B12 = true := by kernel_rfl
def milestonelaw13_MessageBytes.T17 : Bool × List (List Nat × List Nat) := (true, [([], []), ([0], [0]), ([], []), ([1, 2], [1, 2]), ([3], [3]), ([], []), ([], []), ([5, 6], [5, 6]), ([7], [7]), ([8], [8]), ([4, 9], [4, 9])])
def milestonelaw13_MessageBytes.B17 : List Nat := [0, 1, 0, 7, 15, 0, 0, 96, 224, 480, 1023]
theorem milestonelaw13_MessageBytes.tab17 : rtab .any (opsOf Try.f4 17) = milestonelaw13_MessageBytes.T17 := by kernel_rfl
theorem milestonelaw13_MessageBytes.bits17 : waitsOk milestonelaw13_MessageBytes.T17.2 milestonelaw13_MessageBytes.B17 = true := by kernel_rfl
set_option maxHeartbeats 8000000 in
set_option maxRecDepth 100000 in
theorem milestonelaw13_MessageBytes.calls (k : Nat) (a0 : Int) (A1 : Option Addr) (c1 : Nat) (l1 : List (S28)) (r : Bool) (w : World) (hr1 : Kd.C k28 w A1 l1.length l1) (hc1 : l1.length ≤ c1) (h : milestonelaw13_MessageBytes.f k a0 l1 = some r) (hT : r = true) :
 Calls Try.prog 4 #[.int .u8 a0, .slice A1 l1.length c1] w fun e w' => e = .returned (.bool r) ∧ Below w.heap.size w w' := by
 have HT := Aside0.mk hT
 clear hT
 have hu34 := Try.underlying34
 have hu28 := Try.underlying28
 have HR1 := Aside0.mk hr1
 have HC1 := Aside0.mk hc1
 clear hr1 hc1
 have HB := Aside0.mk (Below.refl w.heap.size w)
 have H : ((milestonelaw13_awake.f k).bind fun t345 => (if t345 = true then (milestonelaw13_MessageBytes.j0 k a0 l1 (decide ((l1.length : Int) > 30))) else (milestonelaw13_MessageBytes.j0 k a0 l1 true))) = some r := h
 clear h
 have HC3 := Aside0.mk H
 clear H
 go_enter Try.func4, Try.ntmps4
 go_upto_region 1 with (fail)
 go_cut [19] (fun v19 wc => ∃ (kq : Nat) (x19_2 : Bool), v19 = .bool x19_2 ∧ Aside0 (milestonelaw13_MessageBytes.j0 kq a0 l1 x19_2 = some r) ∧ Aside0 (kq ≤ k) ∧ Aside0 (Below w.heap.size w wc))
 case first =>
  have H := HC3.out
  clear HC3
  replace H := Option.bind_eq_some_iff.mp H
  obtain ⟨t345, A40, H⟩ := H
  replace H : (if t345 = true then (milestonelaw13_MessageBytes.j0 k a0 l1 (decide ((l1.length : Int) > 30))) else (milestonelaw13_MessageBytes.j0 k a0 l1 true)) = some r := H
  have A4 := Aside0.mk A40
  clear A40
  by_cases c5 : t345 = true
  · subst c5
    have H1 : (milestonelaw13_MessageBytes.j0 k a0 l1 (decide ((l1.length : Int) > 30))) = some r := by rw [if_pos rfl] at H; exact H
    clear H
    have H := H1
    clear H1
    have H' := Aside0.mk H
    clear H
    go_wp2_with (first | ((with_reducible refine gate_callee (f := 12) rfl ?_); refine goesL_ (some 13) rfl rfl Try.func12 (by kernel_rfl) rfl #[] rfl (by (try simp only [List.map_toArray, List.map_cons, List.map_nil]); first | done | (refine qa_arr ?_; (repeat' (first | rfl | refine qa_cons ?_ ?_ | refine qa_int ?_ | refine qa_agg ?_ | refine qa_arr ?_ | omega)); done)) ?_; (with_reducible refine (milestonelaw13_awake.calls k  true _ A4.out).mono ?_); rintro e w6 ⟨rfl, hb⟩; refine ⟨_, rfl, ?_⟩; have n0_ := Aside0.mk (below_step (by repeat (first | (with_reducible first | exact HB.out | apply below_drew1))) hb); clear HB; have HB := n0_; clear n0_; (try clear hb); (try clear hb2); (try clear hk); (try clear hi)))
    go_meet
    case rel => exact ⟨_, (decide ((l1.length : Int) > 30)), (by first | rfl | (refine qa_int ?_; simp <;> omega)), H', ⟨by first | omega⟩, ⟨by repeat (first | (with_reducible first | exact HB.out | apply below_drew1))⟩⟩
  · replace c5 := Bool.eq_false_iff.mpr c5
    subst c5
    have H1 : (milestonelaw13_MessageBytes.j0 k a0 l1 true) = some r := by rw [if_neg (show ¬ (false = true) by decide)] at H; exact H
    clear H
    have H := H1
    clear H1
    have H' := Aside0.mk H
    clear H
    go_wp2_with (first | ((with_reducible refine gate_callee (f := 12) rfl ?_); refine goesL_ (some 13) rfl rfl Try.func12 (by kernel_rfl) rfl #[] rfl (by (try simp only [List.map_toArray, List.map_cons, List.map_nil]); first | done | (refine qa_arr ?_; (repeat' (first | rfl | refine qa_cons ?_ ?_ | refine qa_int ?_ | refine qa_agg ?_ | refine qa_arr ?_ | omega)); done)) ?_; (with_reducible refine (milestonelaw13_awake.calls k  false _ A4.out).mono ?_); rintro e w7 ⟨rfl, hb⟩; refine ⟨_, rfl, ?_⟩; have n0_ := Aside0.mk (below_step (by repeat (first | (with_reducible first | exact HB.out | apply below_drew1))) hb); clear HB; have HB := n0_; clear n0_; (try clear hb); (try clear hb2); (try clear hk); (try clear hi)))
    go_meet
    case rel => exact ⟨_, (true), (by first | rfl | (refine qa_int ?_; simp <;> omega)), H', ⟨by first | omega⟩, ⟨by repeat (first | (with_reducible first | exact HB.out | apply below_drew1))⟩⟩
 case rest =>
  clear HC3
  try clear c1
  try clear p2
  try clear c4
  try clear c5
  obtain ⟨kq, x19_2, rfl, HA, HJ2, HB⟩ := hcut
  cases kq with
  | zero => exact absurd HA.out (by simp [milestonelaw13_MessageBytes.j0])
  | succ kj2 =>
   have H := HA.out
   clear HA
   simp only [milestonelaw13_MessageBytes.j0] at H
   by_cases c8 : x19_2 = true
   · subst c8
     have H1 : ((milestonelaw13_awake.f kj2).bind fun t346 => (some t346)) = some r := by rw [if_pos rfl] at H; exact H
     clear H
     have H := H1
     clear H1
     replace H := Option.bind_eq_some_iff.mp H
     obtain ⟨t346, A90, H⟩ := H
     replace H : (some t346) = some r := H
     have A9 := Aside0.mk A90
     clear A90
     obtain rfl := Option.some.inj H
     simp only [Option.some.injEq, Prod.mk.injEq] at H
     obtain ⟨rfl⟩ := H
     go_wp2_with (first | ((with_reducible refine gate_callee (f := 12) rfl ?_); refine goesL_ (some 20) rfl rfl Try.func12 (by kernel_rfl) rfl #[] rfl (by (try simp only [List.map_toArray, List.map_cons, List.map_nil]); first | done | (refine qa_arr ?_; (repeat' (first | rfl | refine qa_cons ?_ ?_ | refine qa_int ?_ | refine qa_agg ?_ | refine qa_arr ?_ | omega)); done)) ?_; (with_reducible refine (milestonelaw13_awake.calls kj2  t346 _ A9.out).mono ?_); rintro e w10 ⟨rfl, hb⟩; refine ⟨_, rfl, ?_⟩; have n0_ := Aside0.mk (below_step (by repeat (first | (with_reducible first | exact HB.out | apply below_drew1))) hb); clear HB; have HB := n0_; clear n0_; (try clear hb); (try clear hb2); (try clear hk); (try clear hi)))
     go_ret
     exact ⟨by first | rfl | (simp [*, errW_none, errW_some] <;> rfl), by repeat (first | (with_reducible first | exact HB.out | apply below_drew1))⟩
   · replace c8 := Bool.eq_false_iff.mpr c8
     subst c8
     have H1 : ((some (([1] : List Int) : List Int)).bind fun y348 => ((milestoneref01_Coin.f kj2 (IntKind.u64.wrap (Int.tmod a0 16))).bind fun t351 => (if y348.length + t351.length < 140737488355328 then (milestonelaw13_MessageBytes.l0 kj2 l1 (y348 ++ t351) 0 (wrap64 (Int.tmod a0 16)) ([] : List (S28))) else (none)))) = some r := by rw [if_neg (show ¬ (false = true) by decide)] at H; exact H
     clear H
     have H := H1
     clear H1
     obtain ⟨y348, hy348⟩ : ∃ y_ : List Int, y_ = (([1] : List Int)) := ⟨_, rfl⟩
     replace H : ((milestoneref01_Coin.f kj2 (IntKind.u64.wrap (Int.tmod a0 16))).bind fun t351 => (if y348.length + t351.length < 140737488355328 then (milestonelaw13_MessageBytes.l0 kj2 l1 (y348 ++ t351) 0 (wrap64 (Int.tmod a0 16)) ([] : List (S28))) else (none))) = some r := by first | (have H2_ := (Option.bind_some _ _).symm.trans H; rw [hy348]; with_reducible exact H2_) | exact H
     have Ny348 := Aside0.mk hy348
     clear hy348
     replace H := Option.bind_eq_some_iff.mp H
     obtain ⟨t351, A110, H⟩ := H
     replace H : (if y348.length + t351.length < 140737488355328 then (milestonelaw13_MessageBytes.l0 kj2 l1 (y348 ++ t351) 0 (wrap64 (Int.tmod a0 16)) ([] : List (S28))) else (none)) = some r := H
     have A11 := Aside0.mk A110
     clear A110
     by_cases c12 : y348.length + t351.length < 140737488355328
     · rw [if_pos c12] at H
       have LMc12 := Aside0.mk c12
       clear c12
       obtain ⟨y354, hy354⟩ : ∃ y_ : List Int, y_ = (y348 ++ t351) := ⟨_, rfl⟩
       replace H : (milestonelaw13_MessageBytes.l0 kj2 l1 y354 0 (wrap64 (Int.tmod a0 16)) ([] : List (S28))) = some r := by first | (rw [hy354]; with_reducible exact H) | exact H
       have Ny354 := Aside0.mk hy354
       clear hy354
       have H' := Aside0.mk H
       clear H
       go_wp2_with (first | ((with_reducible refine gate_dst (N := 5) rfl ?_); (try (refine gate_guard (by rfl) ?_; dsimp only)); refine box_event ?hg (N := 5) ?hd (cs := #[.int .i64 0, .slice none 0 0]) (t := 34) ?hr ?_; (case hd => rfl); (case hg => rfl); (case hr => first | (go_simp; done)); intro gb347 hg w13 hbox hb; have n0_ := Aside0.mk (below_step (by repeat (first | (with_reducible first | exact HB.out | apply below_drew1))) hb); have n1_ := Aside0.mk (hbox); have n2_ := Aside0.mk ((by rw [hg]; exact (below_size (by repeat (first | (with_reducible first | exact HB.out | apply below_drew1)))) : w.heap.size ≤ gb347)); have n3_ := Aside0.mk ((by rw [hg]; exact (below_size (by repeat (first | (with_reducible first | exact HB.out | apply below_drew1)))) : w.heap.size ≤ gb347)); clear HB; have HB := n0_; have BK347 := n1_; have GW347 := n2_; have GE347 := n3_; clear n0_ n1_ n2_ n3_; clear hb hbox hg; have hcz14_0 : w13.cell? ⟨gb347, 0, none⟩ = some (.int .i64 0) := (blk_cell BK347.out 0).trans rfl; have hcz14_1 : w13.cell? ⟨gb347, 1, none⟩ = some (.slice none 0 0) := (blk_cell BK347.out 1).trans rfl; have hfz14_0 := blk_frozen BK347.out 0; have hfz14_1 := blk_frozen BK347.out 1) | ((with_reducible refine gate_dst (N := 25) rfl ?_); (try (refine gate_guard (by rfl) ?_; dsimp only)); refine Kd.R_lit (Kd.int .u8) _ 5 ?hg (N := 25) ?hd (xs := ([1] : List Int)) (inner := [.int .u8 1]) (ok := fun _ => True) (okp := fun _ => True) ?hr ?hp (fun _ hk => hk) trivial (Below.refl _ _) (Nat.le_refl _) (by simp) ?_; (case hd => rfl); (case hg => rfl); (case hr => first | (go_simp; done)); (case hp => exact (Reps.one (show Kd.M (Kd.int .u8) _ _ _ 1 [.int .u8 1] from rfl) (Reps.none _ _))); intro v349 w15 ho16 hb hg_ hnew_; clear hg_ hnew_; (first | rw [← Ny348.out] at ho16); have n0_ := Aside0.mk (Kd.R_lower ho16 (below_size (by repeat (first | (with_reducible first | exact HB.out | refine below_set ?_ GE347.out))))); have n1_ := Aside0.mk (blk_below (g := gb347) (o := .cells #[.int .i64 (wrap64 (Int.tmod a0 16)), .slice none 0 0] 34 (0, 0)) (by refine blk_put (cs := #[.int .i64 (wrap64 (Int.tmod a0 16)), .slice none 0 0]) ?_ 1 _ rfl; refine blk_put (cs := #[.int .i64 0, .slice none 0 0]) ?_ 0 _ rfl; exact BK347.out) hb); have n2_ := Aside0.mk (below_step (by repeat (first | (with_reducible first | exact HB.out | refine below_set ?_ GE347.out))) hb); clear BK347; clear HB; have HO350 := n0_; have BK347 := n1_; have HB := n2_; clear n0_ n1_ n2_; clear hb ho16) | ((with_reducible refine gate_callee (f := 15) rfl ?_); refine goesL_ (some 29) rfl rfl Try.func15 (by kernel_rfl) rfl #[.int .u64 (IntKind.u64.wrap (Int.tmod a0 16))] rfl (by (try simp only [List.map_toArray, List.map_cons, List.map_nil]); first | rfl | (refine qa_arr ?_; (repeat' (first | rfl | refine qa_cons ?_ ?_ | refine qa_int ?_ | refine qa_agg ?_ | refine qa_arr ?_ | omega)); done)) ?_; (with_reducible refine (milestoneref01_Coin.calls kj2 (IntKind.u64.wrap (Int.tmod a0 16)) t351 _ A11.out).mono ?_); rintro e w17 ⟨v352, rfl, ho0, hb⟩; refine ⟨_, rfl, ?_⟩; have n0_ := Aside0.mk (Kd.R_elder' (by exact HO350.out) (Kd.R_base ho0) hb); have n1_ := Aside0.mk (Kd.R_lower (Kd.R_new' ho0 (Kd.R_lt (by exact HO350.out))) (below_size (by repeat (first | (with_reducible first | exact HB.out | refine below_set ?_ GE347.out))))); have n2_ := Aside0.mk (blk_below (g := gb347) (o := .cells #[.int .i64 (wrap64 (Int.tmod a0 16)), .slice none 0 0] 34 (0, 0)) (by exact BK347.out) hb); have n3_ := Aside0.mk (below_step (by repeat (first | (with_reducible first | exact HB.out | refine below_set ?_ GE347.out))) hb); clear HO350; clear BK347; clear HB; have HO350 := n0_; have HO353 := n1_; have BK347 := n2_; have HB := n3_; clear n0_ n1_ n2_ n3_; (try clear hb); (try clear hb2); (try clear hk); (try clear hi); (try clear ho0); obtain ⟨Ao19, co19, eo19⟩ := Kd.R_slice HO353.out; subst eo19) | ((with_reducible refine gate_builtin (b := .append) (xs := #[.tmp 25, .tmp 29]) rfl ?_); (try (refine gate_guard (by rfl) ?_; dsimp only)); at_builtin; refine Kd.R_append_rows (Kd.int .u8) (w0 := w) w.heap.size rfl (.tmp 25) (.tmp 29) 30 5 (.int .u8 0) 1 rfl Try.underlying30 info5 rfl (by decide) (by omega) v349 y348 t351 _ _ _ (fun k_ => some k_ ≠ (.slice Ao19 t351.length co19 : Value).ownBlock) (fun _ => False) rfl rfl ?aO ?aR (fun _ _ h => h) (fun _ h => h.elim) ?aF ?aB ?aS ?aL ?_; (case aR => repeat (first | exact (Kd.R_reads' HO353.out).2.2 | (with_reducible refine Kd.C_drew ?_))); (case aB => exact (by repeat (first | (with_reducible first | exact HB.out | refine below_set ?_ GE347.out)))); (case aF => exact (fun k_ hk => Kd.fresh' (Kd.R_lt (by exact HO353.out)) k_ hk)); (case aO => exact (by exact Kd.R_mono HO350.out (fun _ hk => hk.2))); (case aS => exact (below_size (by repeat (first | (with_reducible first | exact HB.out | refine below_set ?_ GE347.out))))); (case aL => have := LMc12.out; omega); intro v355 w18 ho hb hg hat; rw [← Ny354.out] at ho; have n0_ := Aside0.mk (blk_grown (g := gb347) (o := .cells #[.int .i64 (wrap64 (Int.tmod a0 16)), .slice none 0 0] 34 (0, 0)) (by exact BK347.out) hg (Kd.R_ne HO350.out BK347.out (by decide))); have n1_ := Aside0.mk (Kd.R_after (ok := (fun _ => True)) (by exact HO353.out) hg hat); have n2_ := Aside0.mk (hb); have n3_ := Aside0.mk (ho); clear BK347; clear HO353; clear HB; clear HO350; have BK347 := n0_; have HO353 := n1_; have HB := n2_; have HO356 := n3_; clear n0_ n1_ n2_ n3_; clear ho hb hg hat))
       go_loopg [6, 7] kj2 (fun kq v6 v7 w' => ∃ (x6_2 : List Int) (x7_2 : Int) (x348001_2 : List (S28)) (u348001 : Value), v7 = .int .i64 x7_2 ∧ Aside0 (milestonelaw13_MessageBytes.l0 kq l1 x6_2 x7_2 (wrap64 (Int.tmod a0 16)) x348001_2 = some r) ∧ Aside0 (kq ≤ kj2) ∧ Aside0 (Kd.R (Kd.int .u8) 5 w' w.heap.size (fun _ => True) v6 x6_2) ∧ Aside0 (Kd.R k28 28 w' w.heap.size (fun _ => True) u348001 x348001_2) ∧ Aside0 (w'.heap[gb347]? = some (.cells #[.int .i64 (wrap64 (Int.tmod a0 16)), u348001] 34 (0, 0))) ∧ Aside0 (Below w.heap.size w w'))
       case atStart => exact ⟨(y354), (0), (([] : List (S28))), (.slice none 0 0), (by first | rfl | (refine qa_int ?_; simp <;> omega)), H', ⟨Nat.le_refl _⟩, ⟨by exact Kd.R_mono HO356.out (fun _ hk => trivial)⟩, ⟨by first | exact Kd.R_nil _ _ _ _ _ | exact Kd.S_nil _ _ _ _ _⟩, ⟨by exact BK347.out⟩, ⟨by repeat (first | (with_reducible first | exact HB.out | refine below_set ?_ GE347.out))⟩⟩
       case round =>
        clear H'
        try clear c1
        try clear p2
        try clear c4
        try clear c5
        try clear p6
        try clear c8
        try clear c12
        try clear c15
        try clear hcz14_0
        try clear hcz14_1
        try clear hfz14_0
        try clear hfz14_1
        try clear p2
        obtain ⟨x6_2, x7_2, x348001_2, u348001, rfl, HA, HK2, HO_6, HO_348001, BK347, HB⟩ := hrel
        cases gk with
        | zero => exact absurd HA.out (by simp [milestonelaw13_MessageBytes.l0])
        | succ k2 =>
         have H := HA.out
         clear HA
         simp only [milestonelaw13_MessageBytes.l0] at H
         by_cases c20 : x7_2 < (l1.length : Int)
         · rw [if_pos c20] at H
           have c20b0 : decide (x7_2 < (l1.length : Int)) = true := decide_eq_true c20
           clear c20
           by_cases c21 : 0 ≤ x7_2
           · rw [if_pos c21] at H
             have c21b0 : decide (0 ≤ x7_2) = true := decide_eq_true c21
             clear c21
             replace H := Option.bind_eq_some_iff.mp H
             obtain ⟨⟨t358, t359, t360, t361, t362, t363, t364⟩, A220, H⟩ := H
             replace H : (if x348001_2.length < 3518437208883 then ((milestonelaw13_near.f k2 ((rd_T28 l1 x7_2).f0) ((rd_T28 l1 x7_2).f1) ((rd_T28 l1 x7_2).f2) ((rd_T28 l1 x7_2).f3.f0) ((rd_T28 l1 x7_2).f3.f1) ((rd_T28 l1 x7_2).f4) ((rd_T28 l1 x7_2).f5)).bind fun bt369 => ((milestonelaw13_bytes.f k2 bt369.1 bt369.2.1 bt369.2.2.1 bt369.2.2.2.1 bt369.2.2.2.2.1 bt369.2.2.2.2.2.1 bt369.2.2.2.2.2.2).bind fun t376 => (if x6_2.length + t376.length < 140737488355328 then (milestonelaw13_MessageBytes.l0 k2 l1 (x6_2 ++ t376) (wrap64 (x7_2 + 1)) (wrap64 (Int.tmod a0 16)) (x348001_2 ++ [(⟨t358, t359, t360, (⟨t361, t362⟩ : S25), t363, t364⟩ : S28)])) else (none)))) else (none)) = some r := H
             have A22 := Aside0.mk A220
             clear A220
             by_cases c23 : x348001_2.length < 3518437208883
             · rw [if_pos c23] at H
               have LMc23 := Aside0.mk c23
               clear c23
               obtain ⟨y365, hy365⟩ : ∃ y_ : List (S28), y_ = (x348001_2 ++ [(⟨t358, t359, t360, (⟨t361, t362⟩ : S25), t363, t364⟩ : S28)]) := ⟨_, rfl⟩
               replace H : ((milestonelaw13_near.f k2 ((rd_T28 l1 x7_2).f0) ((rd_T28 l1 x7_2).f1) ((rd_T28 l1 x7_2).f2) ((rd_T28 l1 x7_2).f3.f0) ((rd_T28 l1 x7_2).f3.f1) ((rd_T28 l1 x7_2).f4) ((rd_T28 l1 x7_2).f5)).bind fun bt369 => ((milestonelaw13_bytes.f k2 bt369.1 bt369.2.1 bt369.2.2.1 bt369.2.2.2.1 bt369.2.2.2.2.1 bt369.2.2.2.2.2.1 bt369.2.2.2.2.2.2).bind fun t376 => (if x6_2.length + t376.length < 140737488355328 then (milestonelaw13_MessageBytes.l0 k2 l1 (x6_2 ++ t376) (wrap64 (x7_2 + 1)) (wrap64 (Int.tmod a0 16)) y365) else (none)))) = some r := by first | (rw [hy365]; with_reducible exact H) | exact H
               have Ny365 := Aside0.mk hy365
               clear hy365
               replace H := Option.bind_eq_some_iff.mp H
               obtain ⟨⟨t369, t370, t371, t372, t373, t374, t375⟩, A240, H⟩ := H
               replace H : ((milestonelaw13_bytes.f k2 t369 t370 t371 t372 t373 t374 t375).bind fun t376 => (if x6_2.length + t376.length < 140737488355328 then (milestonelaw13_MessageBytes.l0 k2 l1 (x6_2 ++ t376) (wrap64 (x7_2 + 1)) (wrap64 (Int.tmod a0 16)) y365) else (none))) = some r := H
               have A24 := Aside0.mk A240
               clear A240
               replace H := Option.bind_eq_some_iff.mp H
               obtain ⟨t376, A250, H⟩ := H
               replace H : (if x6_2.length + t376.length < 140737488355328 then (milestonelaw13_MessageBytes.l0 k2 l1 (x6_2 ++ t376) (wrap64 (x7_2 + 1)) (wrap64 (Int.tmod a0 16)) y365) else (none)) = some r := H
               have A25 := Aside0.mk A250
               clear A250
               by_cases c26 : x6_2.length + t376.length < 140737488355328
               · rw [if_pos c26] at H
                 have LMc26 := Aside0.mk c26
                 clear c26
                 obtain ⟨y379, hy379⟩ : ∃ y_ : List Int, y_ = (x6_2 ++ t376) := ⟨_, rfl⟩
                 replace H : (milestonelaw13_MessageBytes.l0 k2 l1 y379 (wrap64 (x7_2 + 1)) (wrap64 (Int.tmod a0 16)) y365) = some r := by first | (rw [hy379]; with_reducible exact H) | exact H
                 have Ny379 := Aside0.mk hy379
                 clear hy379
                 have H' := Aside0.mk H
                 clear H
                 try go_wp2
                 have n0_ := Aside0.mk (Kd.R_drew HO_6.out)
                 have n1_ := Aside0.mk (Kd.R_drew HO_348001.out)
                 have n2_ := Aside0.mk (blk_drew BK347.out)
                 have n3_ := Aside0.mk (below_drew1 HB.out)
                 clear HO_6
                 clear HO_348001
                 clear BK347
                 clear HB
                 have HO_6 := n0_
                 have HO_348001 := n1_
                 have BK347 := n2_
                 have HB := n3_
                 clear n0_ n1_ n2_ n3_
                 have p357 : 0 ≤ (x7_2 : Int) := of_decide_eq_true (by first | (with_reducible assumption))
                 have q357 : x7_2 < (l1.length : Int) := of_decide_eq_true (by first | (with_reducible assumption))
                 obtain ⟨ad357, e357, hx357_0, hx357_1, hx357_2, hx357_3, hx357_4, hx357_5, hx357_6⟩ := at_T28 HR1.out x7_2 p357 q357
                 have hw357_6 := hx357_6
                 have hw357_5 := hx357_5
                 have hw357_4 := hx357_4
                 have hw357_3 := hx357_3
                 have hw357_2 := hx357_2
                 have hw357_1 := hx357_1
                 have hw357_0 := hx357_0
                 cases e357
                 replace hx357_0 := (HB.out.cell (World.block_lt_of_cell? w _ hx357_0)).trans hx357_0
                 replace hx357_1 := (HB.out.cell (World.block_lt_of_cell? w _ hx357_1)).trans hx357_1
                 replace hx357_2 := (HB.out.cell (World.block_lt_of_cell? w _ hx357_2)).trans hx357_2
                 replace hx357_3 := (HB.out.cell (World.block_lt_of_cell? w _ hx357_3)).trans hx357_3
                 replace hx357_4 := (HB.out.cell (World.block_lt_of_cell? w _ hx357_4)).trans hx357_4
                 replace hx357_5 := (HB.out.cell (World.block_lt_of_cell? w _ hx357_5)).trans hx357_5
                 replace hx357_6 := (HB.out.cell (World.block_lt_of_cell? w _ hx357_6)).trans hx357_6
                 replace p357 := eq_true p357
                 replace q357 := eq_true q357
                 refine start_ (n := 11) (S := fun w' => w'.cell? ⟨gb347, 0, none⟩ = some (.int .i64 (wrap64 (Int.tmod a0 16))) ∧ w'.cell? ⟨gb347, 1, none⟩ = some (u348001) ∧ w'.cell? (ad357.add ((x7_2).toNat * 7)) = some (.int .u8 ((rd_T28 l1 x7_2).f0)) ∧ w'.cell? ⟨(ad357.add ((x7_2).toNat * 7)).block, (ad357.add ((x7_2).toNat * 7)).off + 1, none⟩ = some (.int .u64 ((rd_T28 l1 x7_2).f1)) ∧ w'.cell? ⟨(ad357.add ((x7_2).toNat * 7)).block, (ad357.add ((x7_2).toNat * 7)).off + 2, none⟩ = some (.int .i64 ((rd_T28 l1 x7_2).f2)) ∧ w'.cell? ⟨(ad357.add ((x7_2).toNat * 7)).block, (ad357.add ((x7_2).toNat * 7)).off + 3, none⟩ = some (.int .u32 ((rd_T28 l1 x7_2).f3.f0)) ∧ w'.cell? ⟨(ad357.add ((x7_2).toNat * 7)).block, (ad357.add ((x7_2).toNat * 7)).off + 4, none⟩ = some (.int .u8 ((rd_T28 l1 x7_2).f3.f1)) ∧ w'.cell? ⟨(ad357.add ((x7_2).toNat * 7)).block, (ad357.add ((x7_2).toNat * 7)).off + 5, none⟩ = some (.int .u16 ((rd_T28 l1 x7_2).f4)) ∧ w'.cell? ⟨(ad357.add ((x7_2).toNat * 7)).block, (ad357.add ((x7_2).toNat * 7)).off + 6, none⟩ = some (.int .u16 ((rd_T28 l1 x7_2).f5))) (ds := [10]) #[false, false, false, false, false, false, false, false, false, false, false] (by kernel_rfl) rfl rfl ⟨(blk_cell BK347.out 0).trans rfl, (blk_cell BK347.out 1).trans rfl, ((HB.out.cell (World.block_lt_of_cell? w _ hw357_0)).trans hw357_0), ((HB.out.cell (World.block_lt_of_cell? w _ hw357_1)).trans hw357_1), ((HB.out.cell (World.block_lt_of_cell? w _ hw357_2)).trans hw357_2), ((HB.out.cell (World.block_lt_of_cell? w _ hw357_3)).trans hw357_3), ((HB.out.cell (World.block_lt_of_cell? w _ hw357_4)).trans hw357_4), ((HB.out.cell (World.block_lt_of_cell? w _ hw357_5)).trans hw357_5), ((HB.out.cell (World.block_lt_of_cell? w _ hw357_6)).trans hw357_6)⟩ (fun hHeld => ?_); refine with_tabW milestonelaw13_MessageBytes.tab8 milestonelaw13_MessageBytes.bits8 (fun HT_ HW_ => ?_)
                 generalize wr.drew = w27 at HO_6 HO_348001 BK347 HB hx357_0 hx357_1 hx357_2 hx357_3 hx357_4 hx357_5 hx357_6 hHeld ⊢
                 refine pure_ (i := 0) (N := some 37) (v := ?_) (a' := ?_) #[true, false, false, false, false, false, false, false, false, false, false] rfl rfl (any_of HT_.out (by kernel_rfl)) (fun _ _ _ h => h) (Or.inl ⟨by rfl, ?_⟩) ?_ ?_
                 rotate_left
                 · intro w'
                   go_simp
                   with_reducible rfl
                 rotate_left
                 · simp only [Act.put, List.setIfInBounds_toArray, List.set_cons_zero, List.set_cons_succ, i64_w, i32_w]
                   rfl
                 refine pure_ (i := 2) (N := some 39) (v := ?_) (a' := ?_) #[true, false, true, false, false, false, false, false, false, false, false] rfl rfl (any_of HT_.out (by kernel_rfl)) (fun _ _ _ h => h) (Or.inl ⟨by rfl, ?_⟩) ?_ ?_
                 rotate_left
                 · intro w'
                   go_simp
                   with_reducible rfl
                 rotate_left
                 · simp only [Act.put, List.setIfInBounds_toArray, List.set_cons_zero, List.set_cons_succ, i64_w, i32_w]
                   rfl
                 refine pure_ (i := 3) (N := some 40) (v := ?_) (a' := ?_) #[true, false, true, true, false, false, false, false, false, false, false] rfl rfl (any_of HT_.out (by kernel_rfl)) (fun _ _ _ h => h) (Or.inl ⟨by rfl, ?_⟩) ?_ ?_
                 rotate_left
                 · intro w'
                   go_simp
                   with_reducible rfl
                 rotate_left
                 · simp only [Act.put, List.setIfInBounds_toArray, List.set_cons_zero, List.set_cons_succ, i64_w, i32_w]
                   rfl
                 refine pure_ (i := 4) (N := some 41) (v := ?_) (a' := ?_) #[true, false, true, true, true, false, false, false, false, false, false] rfl rfl (any_of HT_.out (by kernel_rfl)) (fun _ _ _ h => h) (Or.inl ⟨by rfl, ?_⟩) ?_ ?_
                 rotate_left
                 · intro w'
                   go_simp
                   with_reducible rfl
                 rotate_left
                 · simp only [Act.put, List.setIfInBounds_toArray, List.set_cons_zero, List.set_cons_succ, i64_w, i32_w]
                   rfl
                 refine take_ (i := 1) (N := some 38) (v := ?_) (a' := ?_) #[true, true, true, true, true, false, false, false, false, false, false] rfl rfl (take_ofW HT_.out HW_.out (by kernel_rfl)) (fun _ _ _ h => h) (Or.inl ⟨by rfl, ?_⟩) hHeld ?_ ?_
                 rotate_left
                 · rintro w' ⟨s0, s1, s2, s3, s4, s5, s6, s7, s8⟩
                   go_simp
                   with_reducible rfl
                 rotate_left
                 · simp only [Act.put, List.setIfInBounds_toArray, List.set_cons_zero, List.set_cons_succ, i64_w, i32_w]
                   rfl
                 refine take_ (i := 5) (N := some 42) (v := ?_) (a' := ?_) #[true, true, true, true, true, true, false, false, false, false, false] rfl rfl (take_ofW HT_.out HW_.out (by kernel_rfl)) (fun _ _ _ h => h) (Or.inl ⟨by rfl, ?_⟩) hHeld ?_ ?_
                 rotate_left
                 · rintro w' ⟨s0, s1, s2, s3, s4, s5, s6, s7, s8⟩
                   go_simp
                   with_reducible rfl
                 rotate_left
                 · simp only [Act.put, List.setIfInBounds_toArray, List.set_cons_zero, List.set_cons_succ, i64_w, i32_w]
                   rfl
                 refine one_ (i := 6) (N := some 43) #[true, true, true, true, true, true, true, false, false, false, false] rfl rfl (one_of HT_.out (by kernel_rfl)) (by decide) (fun K hK => ?_)
                 refine goes_ Try.func8 (by kernel_rfl) rfl #[.agg #[.int .u8 ((rd_T28 l1 x7_2).f0), .int .u64 ((rd_T28 l1 x7_2).f1), .int .i64 ((rd_T28 l1 x7_2).f2), .int .u32 ((rd_T28 l1 x7_2).f3.f0), .int .u8 ((rd_T28 l1 x7_2).f3.f1), .int .u16 ((rd_T28 l1 x7_2).f4), .int .u16 ((rd_T28 l1 x7_2).f5)]] (by rfl) rfl rfl (by (try simp only [List.map_toArray, List.map_cons, List.map_nil]); first | rfl) ?_
                 with_reducible refine (milestonelaw13_near.calls k2 ((rd_T28 l1 x7_2).f0) ((rd_T28 l1 x7_2).f1) ((rd_T28 l1 x7_2).f2) ((rd_T28 l1 x7_2).f3.f0) ((rd_T28 l1 x7_2).f3.f1) ((rd_T28 l1 x7_2).f4) ((rd_T28 l1 x7_2).f5) t358 t359 t360 t361 t362 t363 t364 _ A22.out).mono ?_
                 rintro e w28 ⟨rfl, hb⟩
                 refine ⟨_, rfl, ?_⟩
                 have n0_ := Aside0.mk (Kd.R_below (by exact HO_6.out) hb)
                 have n1_ := Aside0.mk (Kd.R_below (by exact HO_348001.out) hb)
                 have n2_ := Aside0.mk (blk_below (g := gb347) (o := .cells #[.int .i64 (wrap64 (Int.tmod a0 16)), u348001] 34 (0, 0)) (by exact BK347.out) hb)
                 have n3_ := Aside0.mk (below_step (by repeat (first | (with_reducible first | exact HB.out | refine below_set ?_ GE347.out))) hb)
                 clear HO_6
                 clear HO_348001
                 clear BK347
                 clear HB
                 have HO_6 := n0_
                 have HO_348001 := n1_
                 have BK347 := n2_
                 have HB := n3_
                 clear n0_ n1_ n2_ n3_
                 (try clear hb)
                 (try clear hb2)
                 (try clear hk)
                 (try clear hi)
                 refine hK.out _ _ ⟨(blk_cell BK347.out 0).trans rfl, (blk_cell BK347.out 1).trans rfl, ((HB.out.cell (World.block_lt_of_cell? w _ hw357_0)).trans hw357_0), ((HB.out.cell (World.block_lt_of_cell? w _ hw357_1)).trans hw357_1), ((HB.out.cell (World.block_lt_of_cell? w _ hw357_2)).trans hw357_2), ((HB.out.cell (World.block_lt_of_cell? w _ hw357_3)).trans hw357_3), ((HB.out.cell (World.block_lt_of_cell? w _ hw357_4)).trans hw357_4), ((HB.out.cell (World.block_lt_of_cell? w _ hw357_5)).trans hw357_5), ((HB.out.cell (World.block_lt_of_cell? w _ hw357_6)).trans hw357_6)⟩ (fun hHeld => ?_)
                 clear hK K
                 refine norm_ (a' := ?_) ?_ ?_
                 rotate_left
                 · show Act.put _ (some 43) _ = _
                   simp only [Act.put, List.setIfInBounds_toArray, List.set_cons_zero, List.set_cons_succ, i64_w, i32_w]
                   rfl
                 refine one_ (i := 7) (N := some 44) #[true, true, true, true, true, true, true, true, false, false, false] rfl rfl (one_of HT_.out (by kernel_rfl)) (by decide) (fun K hK => ?_)
                 refine value_ (w1 := ?_) (v := ?_) (by rfl) rfl ?_ ?_
                 rotate_left 2
                 · go_simp
                   constructor
                   · rfl
                   · rfl
                 refine hK.out _ _ ⟨(blk_cell (blk_alloc BK347.out _) 0).trans rfl, (blk_cell (blk_alloc BK347.out _) 1).trans rfl, (World.cell?_alloc_lt _ _ _ (World.block_lt_of_cell? _ _ (((HB.out.cell (World.block_lt_of_cell? w _ hw357_0)).trans hw357_0)))).trans (((HB.out.cell (World.block_lt_of_cell? w _ hw357_0)).trans hw357_0)), (World.cell?_alloc_lt _ _ _ (World.block_lt_of_cell? _ _ (((HB.out.cell (World.block_lt_of_cell? w _ hw357_1)).trans hw357_1)))).trans (((HB.out.cell (World.block_lt_of_cell? w _ hw357_1)).trans hw357_1)), (World.cell?_alloc_lt _ _ _ (World.block_lt_of_cell? _ _ (((HB.out.cell (World.block_lt_of_cell? w _ hw357_2)).trans hw357_2)))).trans (((HB.out.cell (World.block_lt_of_cell? w _ hw357_2)).trans hw357_2)), (World.cell?_alloc_lt _ _ _ (World.block_lt_of_cell? _ _ (((HB.out.cell (World.block_lt_of_cell? w _ hw357_3)).trans hw357_3)))).trans (((HB.out.cell (World.block_lt_of_cell? w _ hw357_3)).trans hw357_3)), (World.cell?_alloc_lt _ _ _ (World.block_lt_of_cell? _ _ (((HB.out.cell (World.block_lt_of_cell? w _ hw357_4)).trans hw357_4)))).trans (((HB.out.cell (World.block_lt_of_cell? w _ hw357_4)).trans hw357_4)), (World.cell?_alloc_lt _ _ _ (World.block_lt_of_cell? _ _ (((HB.out.cell (World.block_lt_of_cell? w _ hw357_5)).trans hw357_5)))).trans (((HB.out.cell (World.block_lt_of_cell? w _ hw357_5)).trans hw357_5)), (World.cell?_alloc_lt _ _ _ (World.block_lt_of_cell? _ _ (((HB.out.cell (World.block_lt_of_cell? w _ hw357_6)).trans hw357_6)))).trans (((HB.out.cell (World.block_lt_of_cell? w _ hw357_6)).trans hw357_6))⟩ (fun hHeld => ?_)
                 clear hK K
                 refine norm_ (a' := ?_) ?_ ?_
                 rotate_left
                 · show Act.put _ (some 44) _ = _
                   simp only [Act.put, List.setIfInBounds_toArray, List.set_cons_zero, List.set_cons_succ, i64_w, i32_w]
                   rfl
                 refine one_ (i := 8) (N := some 45) #[true, true, true, true, true, true, true, true, true, false, false] rfl rfl (one_of HT_.out (by kernel_rfl)) (by decide) (fun K hK => ?_)
                 refine Kd.R_append_step k28 (w0 := w) w.heap.size (by rfl) (.tmp 38) (.tmp 44) 32 28 (.agg #[(.int .u8 0), (.int .u64 0), (.int .i64 0), (.int .u32 0), (.int .u8 0), (.int .u16 0), (.int .u16 0)]) 40 rfl Try.underlying32 info28 rfl (by decide) (by omega) u348001 x348001_2 (⟨t358, t359, t360, (⟨t361, t362⟩ : S25), t363, t364⟩ : S28) [.int .u8 t358, .int .u64 t359, .int .i64 t360, .int .u32 t361, .int .u8 t362, .int .u16 t363, .int .u16 t364] (fun _ => True) (fun _ => False) rfl rfl ?aP (fun _ hk => hk.elim) ?aF ?aO ?aB ?aS ?aL ?_
                 (case aP => exact k28_mkM _ _ _ (⟨t358, t359, t360, (⟨t361, t362⟩ : S25), t363, t364⟩ : S28))
                 (case aB => exact (by repeat (first | (with_reducible first | exact HB.out | refine below_set ?_ GE347.out))))
                 (case aF => exact (fun _ _ => trivial))
                 (case aO => exact (by exact HO_348001.out))
                 (case aS => exact (below_size (by repeat (first | (with_reducible first | exact HB.out | refine below_set ?_ GE347.out)))))
                 (case aL => have := LMc23.out; omega)
                 intro v366 w29 ho hb hg hat
                 rw [← Ny365.out] at ho
                 have n0_ := Aside0.mk (Kd.R_over' (by exact HO_6.out) (Kd.R_typed (by exact HO_348001.out)) (by decide) hg)
                 have n1_ := Aside0.mk (blk_grown (g := gb347) (o := .cells #[.int .i64 (wrap64 (Int.tmod a0 16)), u348001] 34 (0, 0)) (by exact BK347.out) hg (Kd.R_ne HO_348001.out BK347.out (by decide)))
                 have n2_ := Aside0.mk (hb)
                 have n3_ := Aside0.mk (ho)
                 clear HO_6
                 clear BK347
                 clear HB
                 clear HO_348001
                 have HO_6 := n0_
                 have BK347 := n1_
                 have HB := n2_
                 have HO367 := n3_
                 clear n0_ n1_ n2_ n3_
                 clear ho hb hg hat
                 obtain ⟨Ao30, co30, eo30⟩ := Kd.R_slice HO367.out
                 (first | subst eo30)
                 refine hK.out _ _ ⟨(blk_cell BK347.out 0).trans rfl, (blk_cell BK347.out 1).trans rfl, ((HB.out.cell (World.block_lt_of_cell? w _ hw357_0)).trans hw357_0), ((HB.out.cell (World.block_lt_of_cell? w _ hw357_1)).trans hw357_1), ((HB.out.cell (World.block_lt_of_cell? w _ hw357_2)).trans hw357_2), ((HB.out.cell (World.block_lt_of_cell? w _ hw357_3)).trans hw357_3), ((HB.out.cell (World.block_lt_of_cell? w _ hw357_4)).trans hw357_4), ((HB.out.cell (World.block_lt_of_cell? w _ hw357_5)).trans hw357_5), ((HB.out.cell (World.block_lt_of_cell? w _ hw357_6)).trans hw357_6)⟩ (fun hHeld => ?_)
                 clear hK K
                 refine norm_ (a' := ?_) ?_ ?_
                 rotate_left
                 · show Act.put _ (some 45) _ = _
                   simp only [Act.put, List.setIfInBounds_toArray, List.set_cons_zero, List.set_cons_succ, i64_w, i32_w]
                   rfl
                 refine pure_ (i := 9) (N := some 46) (v := ?_) (a' := ?_) #[true, true, true, true, true, true, true, true, true, true, false] rfl rfl (any_of HT_.out (by kernel_rfl)) (fun _ _ _ h => h) (Or.inl ⟨by rfl, ?_⟩) ?_ ?_
                 rotate_left
                 · intro w'
                   go_simp
                   with_reducible rfl
                 rotate_left
                 · simp only [Act.put, List.setIfInBounds_toArray, List.set_cons_zero, List.set_cons_succ, i64_w, i32_w]
                   rfl
                 refine last_ (i := 10) (N := none) #[true, true, true, true, true, true, true, true, true, true, true] rfl rfl (one_of HT_.out (by kernel_rfl)) (by decide) (fun K hK => ?_)
                 have hs31 : w29.cell? ⟨gb347, 1, none⟩ = some (u348001) := (blk_cell BK347.out 1).trans rfl
                 have hfs31 := blk_frozen BK347.out 1
                 refine skip_ (w1 := ?_) (by rfl) rfl ?_ ?_
                 rotate_left
                 · go_simp
                   rfl
                 refine hK.out _ _ ?_
                 clear hK K
                 refine done_ (done_of HT_.out (by kernel_rfl)) ?_
                 have p368 : 0 ≤ (x7_2 : Int) := of_decide_eq_true (by first | (with_reducible assumption))
                 have q368 : x7_2 < (l1.length : Int) := of_decide_eq_true (by first | (with_reducible assumption))
                 obtain ⟨ad368, e368, hx368_0, hx368_1, hx368_2, hx368_3, hx368_4, hx368_5, hx368_6⟩ := at_T28 HR1.out x7_2 p368 q368
                 obtain rfl : ad357 = ad368 := (by injection e368)
                 have hn368_0 : ad357.block ≠ gb347 := Nat.ne_of_lt (Nat.lt_of_lt_of_le (by have := World.block_lt_of_cell? _ _ hx368_0; first | rwa [add_block] at this) GW347.out)
                 replace hx368_0 := (HB.out.cell (World.block_lt_of_cell? w _ hx368_0)).trans hx368_0
                 replace hx368_1 := (HB.out.cell (World.block_lt_of_cell? w _ hx368_1)).trans hx368_1
                 replace hx368_2 := (HB.out.cell (World.block_lt_of_cell? w _ hx368_2)).trans hx368_2
                 replace hx368_3 := (HB.out.cell (World.block_lt_of_cell? w _ hx368_3)).trans hx368_3
                 replace hx368_4 := (HB.out.cell (World.block_lt_of_cell? w _ hx368_4)).trans hx368_4
                 replace hx368_5 := (HB.out.cell (World.block_lt_of_cell? w _ hx368_5)).trans hx368_5
                 replace hx368_6 := (HB.out.cell (World.block_lt_of_cell? w _ hx368_6)).trans hx368_6
                 replace hx368_0 := (cell_far (p := ⟨gb347, 1, none⟩) (by first | (rw [add_block]; exact hn368_0) | exact hn368_0) (.slice Ao30 y365.length co30)).trans hx368_0
                 replace hx368_1 := (cell_far (p := ⟨gb347, 1, none⟩) (by first | (rw [add_block]; exact hn368_0) | exact hn368_0) (.slice Ao30 y365.length co30)).trans hx368_1
                 replace hx368_2 := (cell_far (p := ⟨gb347, 1, none⟩) (by first | (rw [add_block]; exact hn368_0) | exact hn368_0) (.slice Ao30 y365.length co30)).trans hx368_2
                 replace hx368_3 := (cell_far (p := ⟨gb347, 1, none⟩) (by first | (rw [add_block]; exact hn368_0) | exact hn368_0) (.slice Ao30 y365.length co30)).trans hx368_3
                 replace hx368_4 := (cell_far (p := ⟨gb347, 1, none⟩) (by first | (rw [add_block]; exact hn368_0) | exact hn368_0) (.slice Ao30 y365.length co30)).trans hx368_4
                 replace hx368_5 := (cell_far (p := ⟨gb347, 1, none⟩) (by first | (rw [add_block]; exact hn368_0) | exact hn368_0) (.slice Ao30 y365.length co30)).trans hx368_5
                 replace hx368_6 := (cell_far (p := ⟨gb347, 1, none⟩) (by first | (rw [add_block]; exact hn368_0) | exact hn368_0) (.slice Ao30 y365.length co30)).trans hx368_6
                 clear hn368_0
                 replace p368 := eq_true p368
                 replace q368 := eq_true q368
                 try go_wp2_with (first | ((with_reducible refine gate_callee (f := 8) rfl ?_); refine goesL_ (some 52) rfl rfl Try.func8 (by kernel_rfl) rfl #[.agg #[.int .u8 ((rd_T28 l1 x7_2).f0), .int .u64 ((rd_T28 l1 x7_2).f1), .int .i64 ((rd_T28 l1 x7_2).f2), .int .u32 ((rd_T28 l1 x7_2).f3.f0), .int .u8 ((rd_T28 l1 x7_2).f3.f1), .int .u16 ((rd_T28 l1 x7_2).f4), .int .u16 ((rd_T28 l1 x7_2).f5)]] rfl (by (try simp only [List.map_toArray, List.map_cons, List.map_nil]); first | rfl | (refine qa_arr ?_; (repeat' (first | rfl | refine qa_cons ?_ ?_ | refine qa_int ?_ | refine qa_agg ?_ | refine qa_arr ?_ | omega)); done)) ?_; (with_reducible refine (milestonelaw13_near.calls k2 ((rd_T28 l1 x7_2).f0) ((rd_T28 l1 x7_2).f1) ((rd_T28 l1 x7_2).f2) ((rd_T28 l1 x7_2).f3.f0) ((rd_T28 l1 x7_2).f3.f1) ((rd_T28 l1 x7_2).f4) ((rd_T28 l1 x7_2).f5) t369 t370 t371 t372 t373 t374 t375 _ A24.out).mono ?_); rintro e w32 ⟨rfl, hb⟩; refine ⟨_, rfl, ?_⟩; have n0_ := Aside0.mk (Kd.R_below (by exact (Kd.R_mono (Kd.R_far (p := ⟨gb347, 1, none⟩) (Kd.R_types HO_6.out BK347.out (by decide)) (fun _ hk => hk.2) (.slice Ao30 y365.length co30)) (fun _ h_ => h_.1))) hb); have n1_ := Aside0.mk (Kd.R_below (by exact (Kd.R_mono (Kd.R_far (p := ⟨gb347, 1, none⟩) (Kd.R_types HO367.out BK347.out (by decide)) (fun _ hk => hk.2) (.slice Ao30 y365.length co30)) (fun _ h_ => h_.1))) hb); have n2_ := Aside0.mk (blk_below (g := gb347) (o := .cells #[.int .i64 (wrap64 (Int.tmod a0 16)), .slice Ao30 y365.length co30] 34 (0, 0)) (by refine blk_put (cs := #[.int .i64 (wrap64 (Int.tmod a0 16)), u348001]) ?_ 1 _ rfl; exact BK347.out) hb); have n3_ := Aside0.mk (below_step (by repeat (first | (with_reducible first | exact HB.out | refine below_set ?_ GE347.out))) hb); clear HO_6; clear HO367; clear BK347; clear HB; have HO_6 := n0_; have HO367 := n1_; have BK347 := n2_; have HB := n3_; clear n0_ n1_ n2_ n3_; (try clear hb); (try clear hb2); (try clear hk); (try clear hi)) | ((with_reducible refine gate_callee (f := 11) rfl ?_); refine goesL_ (some 53) rfl rfl Try.func11 (by kernel_rfl) rfl #[.agg #[.int .u8 t369, .int .u64 t370, .int .i64 t371, .int .u32 t372, .int .u8 t373, .int .u16 t374, .int .u16 t375]] rfl (by (try simp only [List.map_toArray, List.map_cons, List.map_nil]); first | rfl | (refine qa_arr ?_; (repeat' (first | rfl | refine qa_cons ?_ ?_ | refine qa_int ?_ | refine qa_agg ?_ | refine qa_arr ?_ | omega)); done)) ?_; (with_reducible refine (milestonelaw13_bytes.calls k2 t369 t370 t371 t372 t373 t374 t375 t376 _ A25.out).mono ?_); rintro e w33 ⟨v377, rfl, ho0, hb⟩; refine ⟨_, rfl, ?_⟩; have n0_ := Aside0.mk (Kd.R_elder' (by exact HO_6.out) (Kd.R_base ho0) hb); have n1_ := Aside0.mk (Kd.R_below (by exact HO367.out) hb); have n2_ := Aside0.mk (Kd.R_lower (Kd.R_new' ho0 (Kd.R_lt (by exact HO_6.out))) (below_size (by repeat (first | (with_reducible first | exact HB.out | refine below_set ?_ GE347.out))))); have n3_ := Aside0.mk (blk_below (g := gb347) (o := .cells #[.int .i64 (wrap64 (Int.tmod a0 16)), .slice Ao30 y365.length co30] 34 (0, 0)) (by exact BK347.out) hb); have n4_ := Aside0.mk (below_step (by repeat (first | (with_reducible first | exact HB.out | refine below_set ?_ GE347.out))) hb); clear HO_6; clear HO367; clear BK347; clear HB; have HO_6 := n0_; have HO367 := n1_; have HO378 := n2_; have BK347 := n3_; have HB := n4_; clear n0_ n1_ n2_ n3_ n4_; (try clear hb); (try clear hb2); (try clear hk); (try clear hi); (try clear ho0); obtain ⟨Ao35, co35, eo35⟩ := Kd.R_slice HO378.out; subst eo35) | ((with_reducible refine gate_builtin (b := .append) (xs := #[.tmp 47, .tmp 53]) rfl ?_); (try (refine gate_guard (by rfl) ?_; dsimp only)); at_builtin; refine Kd.R_append_rows (Kd.int .u8) (w0 := w) w.heap.size rfl (.tmp 47) (.tmp 53) 30 5 (.int .u8 0) 1 rfl Try.underlying30 info5 rfl (by decide) (by omega) u6 x6_2 t376 _ _ _ (fun k_ => some k_ ≠ (.slice Ao35 t376.length co35 : Value).ownBlock) (fun _ => False) rfl rfl ?aO ?aR (fun _ _ h => h) (fun _ h => h.elim) ?aF ?aB ?aS ?aL ?_; (case aR => repeat (first | exact (Kd.R_reads' HO378.out).2.2 | (with_reducible refine Kd.C_drew ?_))); (case aB => exact (by repeat (first | (with_reducible first | exact HB.out | refine below_set ?_ GE347.out)))); (case aF => exact (fun k_ hk => Kd.fresh' (Kd.R_lt (by exact HO378.out)) k_ hk)); (case aO => exact (by exact Kd.R_mono HO_6.out (fun _ hk => hk.2))); (case aS => exact (below_size (by repeat (first | (with_reducible first | exact HB.out | refine below_set ?_ GE347.out))))); (case aL => have := LMc26.out; omega); intro v380 w34 ho hb hg hat; rw [← Ny379.out] at ho; have n0_ := Aside0.mk (blk_grown (g := gb347) (o := .cells #[.int .i64 (wrap64 (Int.tmod a0 16)), .slice Ao30 y365.length co30] 34 (0, 0)) (by exact BK347.out) hg (Kd.R_ne HO_6.out BK347.out (by decide))); have n1_ := Aside0.mk (Kd.R_over' (by exact HO367.out) (Kd.R_typed (by exact HO_6.out)) (by decide) hg); have n2_ := Aside0.mk (Kd.R_after (ok := (fun _ => True)) (by exact HO378.out) hg hat); have n3_ := Aside0.mk (hb); have n4_ := Aside0.mk (ho); clear BK347; clear HO367; clear HO378; clear HB; clear HO_6; have BK347 := n0_; have HO367 := n1_; have HO378 := n2_; have HB := n3_; have HO381 := n4_; clear n0_ n1_ n2_ n3_ n4_; clear ho hb hg hat))
                 go_roundg k2
                 case measure => have := HJ2.out; have := HK2.out; omega
                 case rel => exact ⟨(y379), (wrap64 (x7_2 + 1)), (y365), (.slice Ao30 y365.length co30), (by first | rfl | (refine qa_int ?_; simp <;> omega)), H', ⟨by have := HJ2.out; have := HK2.out; omega⟩, ⟨by exact Kd.R_mono HO381.out (fun _ hk => trivial)⟩, ⟨by exact HO367.out⟩, ⟨by exact BK347.out⟩, ⟨by repeat (first | (with_reducible first | exact HB.out | refine below_set ?_ GE347.out))⟩⟩
               · rw [if_neg c26] at H
                 exact absurd H (by simp)
             · rw [if_neg c23] at H
               exact absurd H (by simp)
           · rw [if_neg c21] at H
             exact absurd H (by simp)
         · rw [if_neg c20] at H
           have c20b0 : decide (x7_2 < (l1.length : Int)) = false := decide_eq_false c20
           clear c20
           replace H := Option.bind_eq_some_iff.mp H
           obtain ⟨t382, A360, H⟩ := H
           replace H : ((message_Decode.f k2 t382).bind fun bt385 => ((milestonelaw13_packet.f k2 x6_2).bind fun t392 => (if (strOfNums t382).toList = (strOfNums t392).toList then (if bt385.2.2.2 = 0 then (if bt385.2.2.1 = 0 then (if bt385.1 = (wrap64 (Int.tmod a0 16)) then (milestonelaw13_MessageBytes.j2 k2 l1 ((bt385.2.1.length : Int) != (l1.length : Int)) bt385.1 bt385.2.1) else (milestonelaw13_MessageBytes.j2 k2 l1 true bt385.1 bt385.2.1)) else (milestonelaw13_MessageBytes.j2 k2 l1 true bt385.1 bt385.2.1)) else (milestonelaw13_MessageBytes.j2 k2 l1 true bt385.1 bt385.2.1)) else (milestonelaw13_MessageBytes.j2 k2 l1 true bt385.1 bt385.2.1)))) = some r := H
           have A36 := Aside0.mk A360
           clear A360
           replace H := Option.bind_eq_some_iff.mp H
           obtain ⟨⟨t385, t386, t389, t390⟩, A370, H⟩ := H
           replace H : ((milestonelaw13_packet.f k2 x6_2).bind fun t392 => (if (strOfNums t382).toList = (strOfNums t392).toList then (if t390 = 0 then (if t389 = 0 then (if t385 = (wrap64 (Int.tmod a0 16)) then (milestonelaw13_MessageBytes.j2 k2 l1 ((t386.length : Int) != (l1.length : Int)) t385 t386) else (milestonelaw13_MessageBytes.j2 k2 l1 true t385 t386)) else (milestonelaw13_MessageBytes.j2 k2 l1 true t385 t386)) else (milestonelaw13_MessageBytes.j2 k2 l1 true t385 t386)) else (milestonelaw13_MessageBytes.j2 k2 l1 true t385 t386))) = some r := H
           have A37 := Aside0.mk A370
           clear A370
           have HC38 := Aside0.mk H
           clear H
           have hcz39_0 : wr.cell? ⟨gb347, 0, none⟩ = some (.int .i64 (wrap64 (Int.tmod a0 16))) := (blk_cell BK347.out 0).trans rfl
           have hcz39_1 : wr.cell? ⟨gb347, 1, none⟩ = some (u348001) := (blk_cell BK347.out 1).trans rfl
           have hfz39_0 := blk_frozen BK347.out 0
           have hfz39_1 := blk_frozen BK347.out 1
           obtain ⟨Ao40, co40, eo40⟩ := Kd.R_slice HO_348001.out
           subst eo40
           go_upto_region 12 with (first | ((with_reducible refine gate_callee (f := 9) rfl ?_); refine goesL_ (some 56) rfl rfl Try.func9 (by kernel_rfl) rfl #[.agg #[.int .i64 (wrap64 (Int.tmod a0 16)), .slice Ao40 x348001_2.length co40]] rfl (by (try simp only [List.map_toArray, List.map_cons, List.map_nil]); first | rfl | (refine qa_arr ?_; (repeat' (first | rfl | refine qa_cons ?_ ?_ | refine qa_int ?_ | refine qa_agg ?_ | refine qa_arr ?_ | omega)); done)) ?_; (with_reducible refine (message_Encode.calls k2 (wrap64 (Int.tmod a0 16)) _ _ x348001_2 t382 _ ?side1 ?side2 A36.out).mono ?_); (case side1 => repeat (first | exact (Kd.R_reads' HO_348001.out).2.2 | (with_reducible refine Kd.C_drew ?_))); (case side2 => exact (Kd.R_reads' HO_348001.out).2.1); rintro e w41 ⟨v383, rfl, ho0, hb⟩; refine ⟨_, rfl, ?_⟩; have n0_ := Aside0.mk (Kd.R_elder' (by exact HO_6.out) (Kd.R_base ho0) hb); have n1_ := Aside0.mk (Kd.R_below (by exact HO_348001.out) hb); have n2_ := Aside0.mk (Kd.R_lower (Kd.R_new' ho0 (Kd.R_lt (by exact HO_6.out))) (below_size (by repeat (first | (with_reducible first | exact HB.out | refine below_set ?_ GE347.out))))); have n3_ := Aside0.mk (blk_below (g := gb347) (o := .cells #[.int .i64 (wrap64 (Int.tmod a0 16)), .slice Ao40 x348001_2.length co40] 34 (0, 0)) (by exact BK347.out) hb); have n4_ := Aside0.mk (below_step (by repeat (first | (with_reducible first | exact HB.out | refine below_set ?_ GE347.out))) hb); clear HO_6; clear HO_348001; clear BK347; clear HB; have HO_6 := n0_; have HO_348001 := n1_; have HO384 := n2_; have BK347 := n3_; have HB := n4_; clear n0_ n1_ n2_ n3_ n4_; (try clear hb); (try clear hb2); (try clear hk); (try clear hi); (try clear ho0); obtain ⟨Ao42, co42, eo42⟩ := Kd.R_slice HO384.out; subst eo42) | ((with_reducible refine gate_callee (f := 16) rfl ?_); refine goesL_ (some 59) rfl rfl Try.func16 (by kernel_rfl) rfl #[.slice Ao42 t382.length co42] rfl (by (try simp only [List.map_toArray, List.map_cons, List.map_nil]); first | rfl | (refine qa_arr ?_; (repeat' (first | rfl | refine qa_cons ?_ ?_ | refine qa_int ?_ | refine qa_agg ?_ | refine qa_arr ?_ | omega)); done)) ?_; (with_reducible refine (message_Decode.calls k2 _ _ t382 t385 t386 t389 t390 _ ?side1 ?side2 A37.out).mono ?_); (case side1 => repeat (first | exact (Kd.R_reads' HO384.out).2.2 | (with_reducible refine Kd.C_drew ?_))); (case side2 => exact (Kd.R_reads' HO384.out).2.1); rintro e w43 ⟨v387, rfl, ho0, hb⟩; refine ⟨_, rfl, ?_⟩; have n0_ := Aside0.mk (Kd.R_below (by exact HO_6.out) hb); have n1_ := Aside0.mk (Kd.R_elder' (by exact HO_348001.out) (Kd.R_base ho0) hb); have n2_ := Aside0.mk (Kd.R_below (by exact HO384.out) hb); have n3_ := Aside0.mk (Kd.R_lower (Kd.R_new' ho0 (Kd.R_lt (by exact HO_348001.out))) (below_size (by repeat (first | (with_reducible first | exact HB.out | refine below_set ?_ GE347.out))))); have n4_ := Aside0.mk (blk_below (g := gb347) (o := .cells #[.int .i64 (wrap64 (Int.tmod a0 16)), .slice Ao40 x348001_2.length co40] 34 (0, 0)) (by exact BK347.out) hb); have n5_ := Aside0.mk (below_step (by repeat (first | (with_reducible first | exact HB.out | refine below_set ?_ GE347.out))) hb); clear HO_6; clear HO_348001; clear HO384; clear BK347; clear HB; have HO_6 := n0_; have HO_348001 := n1_; have HO384 := n2_; have HO388 := n3_; have BK347 := n4_; have HB := n5_; clear n0_ n1_ n2_ n3_ n4_ n5_; (try clear hb); (try clear hb2); (try clear hk); (try clear hi); (try clear ho0)) | ((with_reducible refine gate_dst (N := 9) rfl ?_); (try (refine gate_guard (by rfl) ?_; dsimp only)); refine box_event ?hg (N := 9) ?hd (cs := #[.int .i64 0, .slice none 0 0]) (t := 34) ?hr ?_; (case hd => rfl); (case hg => rfl); (case hr => first | (go_simp; done)); intro gb391 hg w44 hbox hb; have n0_ := Aside0.mk (Kd.R_below (by exact HO_6.out) hb); have n1_ := Aside0.mk (Kd.R_below (by exact HO_348001.out) hb); have n2_ := Aside0.mk (Kd.R_below (by exact HO384.out) hb); have n3_ := Aside0.mk (Kd.R_below (by exact HO388.out) hb); have n4_ := Aside0.mk (blk_below (g := gb347) (o := .cells #[.int .i64 (wrap64 (Int.tmod a0 16)), .slice Ao40 x348001_2.length co40] 34 (0, 0)) (by exact BK347.out) hb); have n5_ := Aside0.mk (below_step (by repeat (first | (with_reducible first | exact HB.out | refine below_set ?_ GE347.out))) hb); have n6_ := Aside0.mk (hbox); have n7_ := Aside0.mk ((by rw [hg]; exact (below_size (by repeat (first | (with_reducible first | exact HB.out | refine below_set ?_ GE347.out)))) : w.heap.size ≤ gb391)); have n8_ := Aside0.mk ((by rw [hg]; exact (below_size (by repeat (first | (with_reducible first | exact HB.out | refine below_set ?_ GE347.out)))) : w.heap.size ≤ gb391)); have n9_ := Aside0.mk ((by rw [hg]; exact Nat.ne_of_lt (blk_lt (g := gb347) (o := .cells #[.int .i64 (wrap64 (Int.tmod a0 16)), .slice Ao40 x348001_2.length co40] 34 (0, 0)) (by exact BK347.out)) : gb347 ≠ gb391)); have n10_ := Aside0.mk ((by rw [hg]; exact Nat.ne_of_gt (blk_lt (g := gb347) (o := .cells #[.int .i64 (wrap64 (Int.tmod a0 16)), .slice Ao40 x348001_2.length co40] 34 (0, 0)) (by exact BK347.out)) : gb391 ≠ gb347)); clear HO_6; clear HO_348001; clear HO384; clear HO388; clear BK347; clear HB; have HO_6 := n0_; have HO_348001 := n1_; have HO384 := n2_; have HO388 := n3_; have BK347 := n4_; have HB := n5_; have BK391 := n6_; have GW391 := n7_; have GE391 := n8_; have NB347_391 := n9_; have NB391_347 := n10_; clear n0_ n1_ n2_ n3_ n4_ n5_ n6_ n7_ n8_ n9_ n10_; clear hb hbox hg; have hnb45 := NB391_347.out; have hnc45 := NB347_391.out; have hcz46_0 : w44.cell? ⟨gb391, 0, none⟩ = some (.int .i64 0) := (blk_cell BK391.out 0).trans rfl; have hcz46_1 : w44.cell? ⟨gb391, 1, none⟩ = some (.slice none 0 0) := (blk_cell BK391.out 1).trans rfl; have hfz46_0 := blk_frozen BK391.out 0; have hfz46_1 := blk_frozen BK391.out 1; obtain ⟨Ao47, co47, eo47⟩ := Kd.R_slice HO388.out; subst eo47))
           (try simp only [Act.put, List.setIfInBounds_toArray, List.set_cons_zero, List.set_cons_succ])
           go_cut [91] (fun v91 wc => ∃ (kq : Nat) (x91_37 : Bool), v91 = .bool x91_37 ∧ Aside0 (milestonelaw13_MessageBytes.j2 kq l1 x91_37 t385 t386 = some r) ∧ Aside0 (kq ≤ k2) ∧ Aside0 (Kd.R k28 28 wc w.heap.size (fun k_ => some k_ ≠ ((.slice Ao47 t386.length co47) : Value).ownBlock) (.slice Ao40 x348001_2.length co40) x348001_2) ∧ Aside0 (Kd.R k28 28 wc w.heap.size (fun k_ => some k_ ≠ ((.slice Ao40 x348001_2.length co40) : Value).ownBlock) (.slice Ao47 t386.length co47) t386) ∧ Aside0 (wc.heap[gb347]? = some (.cells #[.int .i64 (wrap64 (Int.tmod a0 16)), (.slice Ao40 x348001_2.length co40)] 34 (0, 0))) ∧ Aside0 (wc.heap[gb391]? = some (.cells #[.int .i64 t385, (.slice Ao47 t386.length co47)] 34 (0, 0))) ∧ Aside0 (Below w.heap.size w wc))
           case first =>
            have H := HC38.out
            clear HC38
            replace H := Option.bind_eq_some_iff.mp H
            obtain ⟨t392, A480, H⟩ := H
            replace H : (if (strOfNums t382).toList = (strOfNums t392).toList then (if t390 = 0 then (if t389 = 0 then (if t385 = (wrap64 (Int.tmod a0 16)) then (milestonelaw13_MessageBytes.j2 k2 l1 ((t386.length : Int) != (l1.length : Int)) t385 t386) else (milestonelaw13_MessageBytes.j2 k2 l1 true t385 t386)) else (milestonelaw13_MessageBytes.j2 k2 l1 true t385 t386)) else (milestonelaw13_MessageBytes.j2 k2 l1 true t385 t386)) else (milestonelaw13_MessageBytes.j2 k2 l1 true t385 t386)) = some r := H
            have A48 := Aside0.mk A480
            clear A480
            by_cases c49 : (strOfNums t382).toList = (strOfNums t392).toList
            · rw [if_pos c49] at H
              have c49b0 : ((strOfNums t382).toList == (strOfNums t392).toList) = true := beq_iff_eq.mpr c49
              have c49b1 : ((strOfNums t382).toList != (strOfNums t392).toList) = false := bne_eq_false_iff_eq.mpr c49
              clear c49
              (first | skip)
              by_cases c50 : t390 = 0
              · rw [if_pos c50] at H
                have c50b0 : (t390 == 0) = true := beq_iff_eq.mpr c50
                have c50b1 : (t390 != 0) = false := bne_eq_false_iff_eq.mpr c50
                clear c50
                by_cases c51 : t389 = 0
                · rw [if_pos c51] at H
                  have c51b0 : (t389 == 0) = true := beq_iff_eq.mpr c51
                  have c51b1 : (t389 != 0) = false := bne_eq_false_iff_eq.mpr c51
                  clear c51
                  by_cases c52 : t385 = (wrap64 (Int.tmod a0 16))
                  · rw [if_pos c52] at H
                    have c52b0 : (t385 == (wrap64 (Int.tmod a0 16))) = true := beq_iff_eq.mpr c52
                    have c52b1 : (t385 != (wrap64 (Int.tmod a0 16))) = false := bne_eq_false_iff_eq.mpr c52
                    clear c52
                    have H' := Aside0.mk H
                    clear H
                    try go_wp2
                    have n0_ : Aside0 (Kd.R (Kd.int .u8) 5 ((w44.setCell ⟨gb391, 0, none⟩ (.int .i64 t385)).setCell ⟨gb391, 1, none⟩ (.slice Ao47 t386.length co47)) w.heap.size (fun k_ => some k_ ≠ (.slice Ao42 t382.length co42 : Value).ownBlock) u6 x6_2) := ⟨by exact Kd.R_mono (Kd.R_far (p := ⟨gb391, 1, none⟩) (Kd.R_far (p := ⟨gb391, 0, none⟩) (Kd.R_types HO_6.out BK391.out (by decide)) (fun _ hk => hk.2) (.int .i64 t385)) (fun _ hk => hk.2) (.slice Ao47 t386.length co47)) (fun _ hk => hk.1.2)⟩
                    have n1_ : Aside0 (Kd.R k28 28 ((w44.setCell ⟨gb391, 0, none⟩ (.int .i64 t385)).setCell ⟨gb391, 1, none⟩ (.slice Ao47 t386.length co47)) w.heap.size (fun k_ => some k_ ≠ (.slice Ao47 t386.length co47 : Value).ownBlock) (.slice Ao40 x348001_2.length co40) x348001_2) := ⟨by exact Kd.R_mono (Kd.R_far (p := ⟨gb391, 1, none⟩) (Kd.R_far (p := ⟨gb391, 0, none⟩) (Kd.R_types HO_348001.out BK391.out (by decide)) (fun _ hk => hk.2) (.int .i64 t385)) (fun _ hk => hk.2) (.slice Ao47 t386.length co47)) (fun _ hk => hk.1.2)⟩
                    have n2_ : Aside0 (Kd.R (Kd.int .u8) 5 ((w44.setCell ⟨gb391, 0, none⟩ (.int .i64 t385)).setCell ⟨gb391, 1, none⟩ (.slice Ao47 t386.length co47)) w.heap.size (fun k_ => some k_ ≠ (u6 : Value).ownBlock) (.slice Ao42 t382.length co42) t382) := ⟨by exact Kd.R_mono (Kd.R_far (p := ⟨gb391, 1, none⟩) (Kd.R_far (p := ⟨gb391, 0, none⟩) (Kd.R_types HO384.out BK391.out (by decide)) (fun _ hk => hk.2) (.int .i64 t385)) (fun _ hk => hk.2) (.slice Ao47 t386.length co47)) (fun _ hk => hk.1.2)⟩
                    have n3_ : Aside0 (Kd.R k28 28 ((w44.setCell ⟨gb391, 0, none⟩ (.int .i64 t385)).setCell ⟨gb391, 1, none⟩ (.slice Ao47 t386.length co47)) w.heap.size (fun k_ => some k_ ≠ (.slice Ao40 x348001_2.length co40 : Value).ownBlock) (.slice Ao47 t386.length co47) t386) := ⟨by exact Kd.R_mono (Kd.R_far (p := ⟨gb391, 1, none⟩) (Kd.R_far (p := ⟨gb391, 0, none⟩) (Kd.R_types HO388.out BK391.out (by decide)) (fun _ hk => hk.2) (.int .i64 t385)) (fun _ hk => hk.2) (.slice Ao47 t386.length co47)) (fun _ hk => hk.1.2)⟩
                    have n4_ : Aside0 (((w44.setCell ⟨gb391, 0, none⟩ (.int .i64 t385)).setCell ⟨gb391, 1, none⟩ (.slice Ao47 t386.length co47)).heap[gb347]? = some (.cells #[.int .i64 (wrap64 (Int.tmod a0 16)), .slice Ao40 x348001_2.length co40] 34 (0, 0))) := ⟨by refine blk_far ?_ NB347_391.out _; refine blk_far ?_ NB347_391.out _; exact BK347.out⟩
                    have n5_ : Aside0 (((w44.setCell ⟨gb391, 0, none⟩ (.int .i64 t385)).setCell ⟨gb391, 1, none⟩ (.slice Ao47 t386.length co47)).heap[gb391]? = some (.cells #[.int .i64 t385, .slice Ao47 t386.length co47] 34 (0, 0))) := ⟨by refine blk_put (cs := #[.int .i64 t385, .slice none 0 0]) ?_ 1 _ rfl; refine blk_put (cs := #[.int .i64 0, .slice none 0 0]) ?_ 0 _ rfl; exact BK391.out⟩
                    have n6_ : Aside0 (Below w.heap.size w ((w44.setCell ⟨gb391, 0, none⟩ (.int .i64 t385)).setCell ⟨gb391, 1, none⟩ (.slice Ao47 t386.length co47))) := ⟨by repeat (first | (with_reducible first | exact HB.out | refine below_set ?_ GE391.out))⟩
                    (try clear HO_6)
                    (try clear HO_348001)
                    (try clear HO384)
                    (try clear HO388)
                    (try clear BK347)
                    (try clear BK391)
                    (try clear HB)
                    generalize ((w44.setCell ⟨gb391, 0, none⟩ (.int .i64 t385)).setCell ⟨gb391, 1, none⟩ (.slice Ao47 t386.length co47)) = w53 at n0_ n1_ n2_ n3_ n4_ n5_ n6_ ⊢
                    have HO_6 := n0_
                    have HO_348001 := n1_
                    have HO384 := n2_
                    have HO388 := n3_
                    have BK347 := n4_
                    have BK391 := n5_
                    have HB := n6_
                    clear n0_ n1_ n2_ n3_ n4_ n5_ n6_
                    have n0_ := Aside0.mk (Kd.R_drew HO_6.out)
                    have n1_ := Aside0.mk (Kd.R_drew HO_348001.out)
                    have n2_ := Aside0.mk (Kd.R_drew HO384.out)
                    have n3_ := Aside0.mk (Kd.R_drew HO388.out)
                    have n4_ := Aside0.mk (blk_drew BK347.out)
                    have n5_ := Aside0.mk (blk_drew BK391.out)
                    have n6_ := Aside0.mk (below_drew1 HB.out)
                    clear HO_6
                    clear HO_348001
                    clear HO384
                    clear HO388
                    clear BK347
                    clear BK391
                    clear HB
                    have HO_6 := n0_
                    have HO_348001 := n1_
                    have HO384 := n2_
                    have HO388 := n3_
                    have BK347 := n4_
                    have BK391 := n5_
                    have HB := n6_
                    clear n0_ n1_ n2_ n3_ n4_ n5_ n6_
                    obtain ⟨Ao55, co55, eo55⟩ := Kd.R_slice HO_6.out
                    (first | subst eo55)
                    refine start_ (n := 29) (S := fun w' => w'.cell? ⟨gb391, 0, none⟩ = some (.int .i64 t385) ∧ w'.cell? ⟨gb391, 1, none⟩ = some (.slice Ao47 t386.length co47) ∧ w'.cell? ⟨gb347, 0, none⟩ = some (.int .i64 (wrap64 (Int.tmod a0 16))) ∧ w'.cell? ⟨gb347, 1, none⟩ = some (.slice Ao40 x348001_2.length co40) ∧ (convert 30 9 (.slice Ao42 t382.length co42)).run Try.prog w' = .ok (.string (strOfNums t382)) w') (ds := []) #[false, false, false, false, false, false, false, false, false, false, false, false, false, false, false, false, false, false, false, false, false, false, false, false, false, false, false, false, false] (by kernel_rfl) rfl rfl ⟨(blk_cell BK391.out 0).trans rfl, (blk_cell BK391.out 1).trans rfl, (blk_cell BK347.out 0).trans rfl, (blk_cell BK347.out 1).trans rfl, (own_string (P := Try.prog) Try.underlying30 Try.underlying5 Try.underlying9 (Kd.own_of_R HO384.out))⟩ (fun hHeld => ?_); refine with_tabW milestonelaw13_MessageBytes.tab12 milestonelaw13_MessageBytes.bits12 (fun HT_ HW_ => ?_)
                    generalize w53.drew = w54 at HO_6 HO_348001 HO384 HO388 BK347 BK391 HB hHeld ⊢
                    refine pure_ (i := 0) (N := some 63) (v := ?_) (a' := ?_) #[true, false, false, false, false, false, false, false, false, false, false, false, false, false, false, false, false, false, false, false, false, false, false, false, false, false, false, false, false] rfl rfl (any_of HT_.out (by kernel_rfl)) (fun _ _ _ h => h) (Or.inl ⟨by rfl, ?_⟩) ?_ ?_
                    rotate_left
                    · intro w'
                      go_simp
                      with_reducible rfl
                    rotate_left
                    · simp only [Act.put, List.setIfInBounds_toArray, List.set_cons_zero, List.set_cons_succ, i64_w, i32_w]
                      rfl
                    refine pure_ (i := 2) (N := some 65) (v := ?_) (a' := ?_) #[true, false, true, false, false, false, false, false, false, false, false, false, false, false, false, false, false, false, false, false, false, false, false, false, false, false, false, false, false] rfl rfl (any_of HT_.out (by kernel_rfl)) (fun _ _ _ h => h) (Or.inl ⟨by rfl, ?_⟩) ?_ ?_
                    rotate_left
                    · intro w'
                      go_simp
                      with_reducible rfl
                    rotate_left
                    · simp only [Act.put, List.setIfInBounds_toArray, List.set_cons_zero, List.set_cons_succ, i64_w, i32_w]
                      rfl
                    refine take_ (i := 1) (N := some 64) (v := ?_) (a' := ?_) #[true, true, true, false, false, false, false, false, false, false, false, false, false, false, false, false, false, false, false, false, false, false, false, false, false, false, false, false, false] rfl rfl (take_ofW HT_.out HW_.out (by kernel_rfl)) (fun _ _ _ h => h) (Or.inl ⟨by rfl, ?_⟩) hHeld ?_ ?_
                    rotate_left
                    · rintro w' ⟨s0, s1, s2, s3, s4⟩
                      go_simp
                      with_reducible rfl
                    rotate_left
                    · simp only [Act.put, List.setIfInBounds_toArray, List.set_cons_zero, List.set_cons_succ, i64_w, i32_w]
                      rfl
                    refine one_ (i := 3) (N := some 66) #[true, true, true, true, false, false, false, false, false, false, false, false, false, false, false, false, false, false, false, false, false, false, false, false, false, false, false, false, false] rfl rfl (one_of HT_.out (by kernel_rfl)) (by decide) (fun K hK => ?_)
                    refine goes_ Try.func14 (by kernel_rfl) rfl #[.slice Ao55 x6_2.length co55] (by rfl) rfl rfl (by (try simp only [List.map_toArray, List.map_cons, List.map_nil]); first | rfl) ?_
                    with_reducible refine (milestonelaw13_packet.calls k2 _ _ x6_2 t392 _ ?side1 ?side2 A48.out).mono ?_
                    (case side1 => repeat (first | exact (Kd.R_reads' HO_6.out).2.2 | (with_reducible refine Kd.C_drew ?_)))
                    (case side2 => exact (Kd.R_reads' HO_6.out).2.1)
                    rintro e w56 ⟨v393, rfl, ho0, hb⟩
                    refine ⟨_, rfl, ?_⟩
                    have n0_ := Aside0.mk (Kd.R_elder' (by exact HO_6.out) (Kd.R_base ho0) hb)
                    have n1_ := Aside0.mk (Kd.R_below (by exact HO_348001.out) hb)
                    have n2_ := Aside0.mk (Kd.R_elder' (by exact HO384.out) (Kd.R_base ho0) hb)
                    have n3_ := Aside0.mk (Kd.R_below (by exact HO388.out) hb)
                    have n4_ := Aside0.mk (Kd.R_lower (Kd.R_new' (Kd.R_new' ho0 (Kd.R_lt (by exact HO_6.out))) (Kd.R_lt (by exact HO384.out))) (below_size (by repeat (first | (with_reducible first | exact HB.out | refine below_set ?_ GE391.out)))))
                    have n5_ := Aside0.mk (blk_below (g := gb347) (o := .cells #[.int .i64 (wrap64 (Int.tmod a0 16)), .slice Ao40 x348001_2.length co40] 34 (0, 0)) (by exact BK347.out) hb)
                    have n6_ := Aside0.mk (blk_below (g := gb391) (o := .cells #[.int .i64 t385, .slice Ao47 t386.length co47] 34 (0, 0)) (by exact BK391.out) hb)
                    have n7_ := Aside0.mk (below_step (by repeat (first | (with_reducible first | exact HB.out | refine below_set ?_ GE391.out))) hb)
                    clear HO_6
                    clear HO_348001
                    clear HO384
                    clear HO388
                    clear BK347
                    clear BK391
                    clear HB
                    have HO_6 := n0_
                    have HO_348001 := n1_
                    have HO384 := n2_
                    have HO388 := n3_
                    have HO394 := n4_
                    have BK347 := n5_
                    have BK391 := n6_
                    have HB := n7_
                    clear n0_ n1_ n2_ n3_ n4_ n5_ n6_ n7_
                    (try clear hb)
                    (try clear hb2)
                    (try clear hk)
                    (try clear hi)
                    (try clear ho0)
                    refine hK.out _ _ ⟨(blk_cell BK391.out 0).trans rfl, (blk_cell BK391.out 1).trans rfl, (blk_cell BK347.out 0).trans rfl, (blk_cell BK347.out 1).trans rfl, (own_string (P := Try.prog) Try.underlying30 Try.underlying5 Try.underlying9 (Kd.own_of_R HO384.out))⟩ (fun hHeld => ?_)
                    clear hK K
                    refine norm_ (a' := ?_) ?_ ?_
                    rotate_left
                    · show Act.put _ (some 66) _ = _
                      simp only [Act.put, List.setIfInBounds_toArray, List.set_cons_zero, List.set_cons_succ, i64_w, i32_w]
                      rfl
                    refine one_ (i := 4) (N := some 67) #[true, true, true, true, true, false, false, false, false, false, false, false, false, false, false, false, false, false, false, false, false, false, false, false, false, false, false, false, false] rfl rfl (one_of HT_.out (by kernel_rfl)) (by decide) (fun K hK => ?_)
                    have hcv57 := own_string (P := Try.prog) Try.underlying30 Try.underlying5 Try.underlying9 (Kd.own_of_R HO394.out)
                    refine value_ (w1 := ?_) (v := ?_) (by rfl) rfl ?_ ?_
                    rotate_left 2
                    · go_simp
                      constructor
                      · rfl
                      · rfl
                    clear hcv57
                    refine hK.out _ _ ⟨(blk_cell BK391.out 0).trans rfl, (blk_cell BK391.out 1).trans rfl, (blk_cell BK347.out 0).trans rfl, (blk_cell BK347.out 1).trans rfl, (own_string (P := Try.prog) Try.underlying30 Try.underlying5 Try.underlying9 (Kd.own_of_R HO384.out))⟩ (fun hHeld => ?_)
                    clear hK K
                    refine norm_ (a' := ?_) ?_ ?_
                    rotate_left
                    · show Act.put _ (some 67) _ = _
                      simp only [Act.put, List.setIfInBounds_toArray, List.set_cons_zero, List.set_cons_succ, i64_w, i32_w]
                      rfl
                    refine pure_ (i := 5) (N := some 68) (v := ?_) (a' := ?_) #[true, true, true, true, true, true, false, false, false, false, false, false, false, false, false, false, false, false, false, false, false, false, false, false, false, false, false, false, false] rfl rfl (any_of HT_.out (by kernel_rfl)) (fun _ _ _ h => h) (Or.inl ⟨by rfl, ?_⟩) ?_ ?_
                    rotate_left
                    · intro w'
                      go_simp
                      with_reducible rfl
                    rotate_left
                    · simp only [Act.put, List.setIfInBounds_toArray, List.set_cons_zero, List.set_cons_succ, i64_w, i32_w]
                      rfl
                    refine pure_ (i := 6) (N := some 69) (v := ?_) (a' := ?_) #[true, true, true, true, true, true, true, false, false, false, false, false, false, false, false, false, false, false, false, false, false, false, false, false, false, false, false, false, false] rfl rfl (any_of HT_.out (by kernel_rfl)) (fun _ _ _ h => h) (Or.inl ⟨by rfl, ?_⟩) ?_ ?_
                    rotate_left
                    · intro w'
                      go_simp
                      with_reducible rfl
                    rotate_left
                    · simp only [Act.put, List.setIfInBounds_toArray, List.set_cons_zero, List.set_cons_succ, i64_w, i32_w]
                      rfl
                    refine pure_ (i := 7) (N := some 70) (v := ?_) (a' := ?_) #[true, true, true, true, true, true, true, true, false, false, false, false, false, false, false, false, false, false, false, false, false, false, false, false, false, false, false, false, false] rfl rfl (any_of HT_.out (by kernel_rfl)) (fun _ _ _ h => h) (Or.inl ⟨by rfl, ?_⟩) ?_ ?_
                    rotate_left
                    · intro w'
                      go_simp
                      with_reducible rfl
                    rotate_left
                    · simp only [Act.put, List.setIfInBounds_toArray, List.set_cons_zero, List.set_cons_succ, i64_w, i32_w]
                      rfl
                    refine pure_ (i := 8) (N := some 71) (v := ?_) (a' := ?_) #[true, true, true, true, true, true, true, true, true, false, false, false, false, false, false, false, false, false, false, false, false, false, false, false, false, false, false, false, false] rfl rfl (any_of HT_.out (by kernel_rfl)) (fun _ _ _ h => h) (Or.inl ⟨by rfl, ?_⟩) ?_ ?_
                    rotate_left
                    · intro w'
                      go_simp
                      with_reducible rfl
                    rotate_left
                    · simp only [Act.put, List.setIfInBounds_toArray, List.set_cons_zero, List.set_cons_succ, i64_w, i32_w]
                      rfl
                    refine pure_ (i := 9) (N := some 72) (v := ?_) (a' := ?_) #[true, true, true, true, true, true, true, true, true, true, false, false, false, false, false, false, false, false, false, false, false, false, false, false, false, false, false, false, false] rfl rfl (any_of HT_.out (by kernel_rfl)) (fun _ _ _ h => h) (Or.inl ⟨by rfl, ?_⟩) ?_ ?_
                    rotate_left
                    · intro w'
                      go_simp
                      with_reducible rfl
                    rotate_left
                    · simp only [Act.put, List.setIfInBounds_toArray, List.set_cons_zero, List.set_cons_succ, i64_w, i32_w]
                      rfl
                    refine pure_ (i := 10) (N := some 73) (v := ?_) (a' := ?_) #[true, true, true, true, true, true, true, true, true, true, true, false, false, false, false, false, false, false, false, false, false, false, false, false, false, false, false, false, false] rfl rfl (any_of HT_.out (by kernel_rfl)) (fun _ _ _ h => h) (Or.inl ⟨by rfl, ?_⟩) ?_ ?_
                    rotate_left
                    · intro w'
                      go_simp
                      with_reducible rfl
                    rotate_left
                    · simp only [Act.put, List.setIfInBounds_toArray, List.set_cons_zero, List.set_cons_succ, i64_w, i32_w]
                      rfl
                    refine pure_ (i := 11) (N := some 74) (v := ?_) (a' := ?_) #[true, true, true, true, true, true, true, true, true, true, true, true, false, false, false, false, false, false, false, false, false, false, false, false, false, false, false, false, false] rfl rfl (any_of HT_.out (by kernel_rfl)) (fun _ _ _ h => h) (Or.inl ⟨by rfl, ?_⟩) ?_ ?_
                    rotate_left
                    · intro w'
                      go_simp
                      with_reducible rfl
                    rotate_left
                    · simp only [Act.put, List.setIfInBounds_toArray, List.set_cons_zero, List.set_cons_succ, i64_w, i32_w]
                      rfl
                    refine pure_ (i := 12) (N := some 75) (v := ?_) (a' := ?_) #[true, true, true, true, true, true, true, true, true, true, true, true, true, false, false, false, false, false, false, false, false, false, false, false, false, false, false, false, false] rfl rfl (any_of HT_.out (by kernel_rfl)) (fun _ _ _ h => h) (Or.inl ⟨by rfl, ?_⟩) ?_ ?_
                    rotate_left
                    · intro w'
                      go_simp
                      with_reducible rfl
                    rotate_left
                    · simp only [Act.put, List.setIfInBounds_toArray, List.set_cons_zero, List.set_cons_succ, i64_w, i32_w]
                      rfl
                    refine pure_ (i := 13) (N := some 76) (v := ?_) (a' := ?_) #[true, true, true, true, true, true, true, true, true, true, true, true, true, true, false, false, false, false, false, false, false, false, false, false, false, false, false, false, false] rfl rfl (any_of HT_.out (by kernel_rfl)) (fun _ _ _ h => h) (Or.inl ⟨by rfl, ?_⟩) ?_ ?_
                    rotate_left
                    · intro w'
                      go_simp
                      with_reducible rfl
                    rotate_left
                    · simp only [Act.put, List.setIfInBounds_toArray, List.set_cons_zero, List.set_cons_succ, i64_w, i32_w]
                      rfl
                    refine pure_ (i := 14) (N := some 77) (v := ?_) (a' := ?_) #[true, true, true, true, true, true, true, true, true, true, true, true, true, true, true, false, false, false, false, false, false, false, false, false, false, false, false, false, false] rfl rfl (any_of HT_.out (by kernel_rfl)) (fun _ _ _ h => h) (Or.inl ⟨by rfl, ?_⟩) ?_ ?_
                    rotate_left
                    · intro w'
                      go_simp
                      with_reducible rfl
                    rotate_left
                    · simp only [Act.put, List.setIfInBounds_toArray, List.set_cons_zero, List.set_cons_succ, i64_w, i32_w]
                      rfl
                    refine pure_ (i := 15) (N := some 78) (v := ?_) (a' := ?_) #[true, true, true, true, true, true, true, true, true, true, true, true, true, true, true, true, false, false, false, false, false, false, false, false, false, false, false, false, false] rfl rfl (any_of HT_.out (by kernel_rfl)) (fun _ _ _ h => h) (Or.inl ⟨by rfl, ?_⟩) ?_ ?_
                    rotate_left
                    · intro w'
                      go_simp
                      with_reducible rfl
                    rotate_left
                    · simp only [Act.put, List.setIfInBounds_toArray, List.set_cons_zero, List.set_cons_succ, i64_w, i32_w]
                      rfl
                    refine pure_ (i := 17) (N := some 80) (v := ?_) (a' := ?_) #[true, true, true, true, true, true, true, true, true, true, true, true, true, true, true, true, false, true, false, false, false, false, false, false, false, false, false, false, false] rfl rfl (any_of HT_.out (by kernel_rfl)) (fun _ _ _ h => h) (Or.inl ⟨by rfl, ?_⟩) ?_ ?_
                    rotate_left
                    · intro w'
                      go_simp
                      with_reducible rfl
                    rotate_left
                    · simp only [Act.put, List.setIfInBounds_toArray, List.set_cons_zero, List.set_cons_succ, i64_w, i32_w]
                      rfl
                    refine take_ (i := 16) (N := some 79) (v := ?_) (a' := ?_) #[true, true, true, true, true, true, true, true, true, true, true, true, true, true, true, true, true, true, false, false, false, false, false, false, false, false, false, false, false] rfl rfl (take_ofW HT_.out HW_.out (by kernel_rfl)) (fun _ _ _ h => h) (Or.inl ⟨by rfl, ?_⟩) hHeld ?_ ?_
                    rotate_left
                    · rintro w' ⟨s0, s1, s2, s3, s4⟩
                      go_simp
                      with_reducible rfl
                    rotate_left
                    · simp only [Act.put, List.setIfInBounds_toArray, List.set_cons_zero, List.set_cons_succ, i64_w, i32_w]
                      rfl
                    refine take_ (i := 18) (N := some 81) (v := ?_) (a' := ?_) #[true, true, true, true, true, true, true, true, true, true, true, true, true, true, true, true, true, true, true, false, false, false, false, false, false, false, false, false, false] rfl rfl (take_ofW HT_.out HW_.out (by kernel_rfl)) (fun _ _ _ h => h) (Or.inl ⟨by rfl, ?_⟩) hHeld ?_ ?_
                    rotate_left
                    · rintro w' ⟨s0, s1, s2, s3, s4⟩
                      go_simp
                      with_reducible rfl
                    rotate_left
                    · simp only [Act.put, List.setIfInBounds_toArray, List.set_cons_zero, List.set_cons_succ, i64_w, i32_w]
                      rfl
                    refine pure_ (i := 19) (N := some 82) (v := ?_) (a' := ?_) #[true, true, true, true, true, true, true, true, true, true, true, true, true, true, true, true, true, true, true, true, false, false, false, false, false, false, false, false, false] rfl rfl (any_of HT_.out (by kernel_rfl)) (fun _ _ _ h => h) (Or.inl ⟨by rfl, ?_⟩) ?_ ?_
                    rotate_left
                    · intro w'
                      go_simp
                      with_reducible rfl
                    rotate_left
                    · simp only [Act.put, List.setIfInBounds_toArray, List.set_cons_zero, List.set_cons_succ, i64_w, i32_w]
                      rfl
                    refine pure_ (i := 20) (N := some 83) (v := ?_) (a' := ?_) #[true, true, true, true, true, true, true, true, true, true, true, true, true, true, true, true, true, true, true, true, true, false, false, false, false, false, false, false, false] rfl rfl (any_of HT_.out (by kernel_rfl)) (fun _ _ _ h => h) (Or.inl ⟨by rfl, ?_⟩) ?_ ?_
                    rotate_left
                    · intro w'
                      go_simp
                      with_reducible rfl
                    rotate_left
                    · simp only [Act.put, List.setIfInBounds_toArray, List.set_cons_zero, List.set_cons_succ, i64_w, i32_w]
                      rfl
                    refine pure_ (i := 21) (N := some 84) (v := ?_) (a' := ?_) #[true, true, true, true, true, true, true, true, true, true, true, true, true, true, true, true, true, true, true, true, true, true, false, false, false, false, false, false, false] rfl rfl (any_of HT_.out (by kernel_rfl)) (fun _ _ _ h => h) (Or.inl ⟨by rfl, ?_⟩) ?_ ?_
                    rotate_left
                    · intro w'
                      go_simp
                      with_reducible rfl
                    rotate_left
                    · simp only [Act.put, List.setIfInBounds_toArray, List.set_cons_zero, List.set_cons_succ, i64_w, i32_w]
                      rfl
                    refine pure_ (i := 22) (N := some 85) (v := ?_) (a' := ?_) #[true, true, true, true, true, true, true, true, true, true, true, true, true, true, true, true, true, true, true, true, true, true, true, false, false, false, false, false, false] rfl rfl (any_of HT_.out (by kernel_rfl)) (fun _ _ _ h => h) (Or.inl ⟨by rfl, ?_⟩) ?_ ?_
                    rotate_left
                    · intro w'
                      go_simp
                      with_reducible rfl
                    rotate_left
                    · simp only [Act.put, List.setIfInBounds_toArray, List.set_cons_zero, List.set_cons_succ, i64_w, i32_w]
                      rfl
                    refine pure_ (i := 25) (N := some 88) (v := ?_) (a' := ?_) #[true, true, true, true, true, true, true, true, true, true, true, true, true, true, true, true, true, true, true, true, true, true, true, false, false, true, false, false, false] rfl rfl (any_of HT_.out (by kernel_rfl)) (fun _ _ _ h => h) (Or.inl ⟨by rfl, ?_⟩) ?_ ?_
                    rotate_left
                    · intro w'
                      go_simp
                      with_reducible rfl
                    rotate_left
                    · simp only [Act.put, List.setIfInBounds_toArray, List.set_cons_zero, List.set_cons_succ, i64_w, i32_w]
                      rfl
                    refine pure_ (i := 26) (N := some 89) (v := ?_) (a' := ?_) #[true, true, true, true, true, true, true, true, true, true, true, true, true, true, true, true, true, true, true, true, true, true, true, false, false, true, true, false, false] rfl rfl (any_of HT_.out (by kernel_rfl)) (fun _ _ _ h => h) (Or.inl ⟨by rfl, ?_⟩) ?_ ?_
                    rotate_left
                    · intro w'
                      go_simp
                      with_reducible rfl
                    rotate_left
                    · simp only [Act.put, List.setIfInBounds_toArray, List.set_cons_zero, List.set_cons_succ, i64_w, i32_w]
                      rfl
                    refine take_ (i := 23) (N := some 86) (v := ?_) (a' := ?_) #[true, true, true, true, true, true, true, true, true, true, true, true, true, true, true, true, true, true, true, true, true, true, true, true, false, true, true, false, false] rfl rfl (take_ofW HT_.out HW_.out (by kernel_rfl)) (fun _ _ _ h => h) (Or.inl ⟨by rfl, ?_⟩) hHeld ?_ ?_
                    rotate_left
                    · rintro w' ⟨s0, s1, s2, s3, s4⟩
                      go_simp
                      with_reducible rfl
                    rotate_left
                    · simp only [Act.put, List.setIfInBounds_toArray, List.set_cons_zero, List.set_cons_succ, i64_w, i32_w]
                      rfl
                    refine pure_ (i := 24) (N := some 87) (v := ?_) (a' := ?_) #[true, true, true, true, true, true, true, true, true, true, true, true, true, true, true, true, true, true, true, true, true, true, true, true, true, true, true, false, false] rfl rfl (any_of HT_.out (by kernel_rfl)) (fun _ _ _ h => h) (Or.inl ⟨by rfl, ?_⟩) ?_ ?_
                    rotate_left
                    · intro w'
                      go_simp
                      with_reducible rfl
                    rotate_left
                    · simp only [Act.put, List.setIfInBounds_toArray, List.set_cons_zero, List.set_cons_succ, i64_w, i32_w]
                      rfl
                    refine pure_ (i := 27) (N := some 90) (v := ?_) (a' := ?_) #[true, true, true, true, true, true, true, true, true, true, true, true, true, true, true, true, true, true, true, true, true, true, true, true, true, true, true, true, false] rfl rfl (any_of HT_.out (by kernel_rfl)) (fun _ _ _ h => h) (Or.inl ⟨by rfl, ?_⟩) ?_ ?_
                    rotate_left
                    · intro w'
                      go_simp
                      with_reducible rfl
                    rotate_left
                    · simp only [Act.put, List.setIfInBounds_toArray, List.set_cons_zero, List.set_cons_succ, i64_w, i32_w]
                      rfl
                    refine pure_ (i := 28) (N := some 91) (v := ?_) (a' := ?_) #[true, true, true, true, true, true, true, true, true, true, true, true, true, true, true, true, true, true, true, true, true, true, true, true, true, true, true, true, true] rfl rfl (any_of HT_.out (by kernel_rfl)) (fun _ _ _ h => h) (Or.inl ⟨by rfl, ?_⟩) ?_ ?_
                    rotate_left
                    · intro w'
                      go_simp
                      with_reducible rfl
                    rotate_left
                    · simp only [Act.put, List.setIfInBounds_toArray, List.set_cons_zero, List.set_cons_succ, i64_w, i32_w]
                      rfl
                    refine done_ (done_of HT_.out (by kernel_rfl)) ?_
                    try go_wp2
                    go_meet
                    case rel => exact ⟨_, (((t386.length : Int) != (l1.length : Int))), (by first | rfl | (refine qa_int ?_; simp <;> omega)), H', ⟨by have := HJ2.out; have := HK2.out; first | omega⟩, ⟨by exact HO_348001.out⟩, ⟨by exact HO388.out⟩, ⟨by exact BK347.out⟩, ⟨by exact BK391.out⟩, ⟨by repeat (first | (with_reducible first | exact HB.out | refine below_set ?_ GE391.out))⟩⟩
                  · rw [if_neg c52] at H
                    have c52b0 : (t385 == (wrap64 (Int.tmod a0 16))) = false := beq_eq_false_iff_ne.mpr c52
                    have c52b1 : (t385 != (wrap64 (Int.tmod a0 16))) = true := bne_iff_ne.mpr c52
                    have H' := Aside0.mk H
                    clear H
                    try go_wp2
                    have n0_ : Aside0 (Kd.R (Kd.int .u8) 5 ((w44.setCell ⟨gb391, 0, none⟩ (.int .i64 t385)).setCell ⟨gb391, 1, none⟩ (.slice Ao47 t386.length co47)) w.heap.size (fun k_ => some k_ ≠ (.slice Ao42 t382.length co42 : Value).ownBlock) u6 x6_2) := ⟨by exact Kd.R_mono (Kd.R_far (p := ⟨gb391, 1, none⟩) (Kd.R_far (p := ⟨gb391, 0, none⟩) (Kd.R_types HO_6.out BK391.out (by decide)) (fun _ hk => hk.2) (.int .i64 t385)) (fun _ hk => hk.2) (.slice Ao47 t386.length co47)) (fun _ hk => hk.1.2)⟩
                    have n1_ : Aside0 (Kd.R k28 28 ((w44.setCell ⟨gb391, 0, none⟩ (.int .i64 t385)).setCell ⟨gb391, 1, none⟩ (.slice Ao47 t386.length co47)) w.heap.size (fun k_ => some k_ ≠ (.slice Ao47 t386.length co47 : Value).ownBlock) (.slice Ao40 x348001_2.length co40) x348001_2) := ⟨by exact Kd.R_mono (Kd.R_far (p := ⟨gb391, 1, none⟩) (Kd.R_far (p := ⟨gb391, 0, none⟩) (Kd.R_types HO_348001.out BK391.out (by decide)) (fun _ hk => hk.2) (.int .i64 t385)) (fun _ hk => hk.2) (.slice Ao47 t386.length co47)) (fun _ hk => hk.1.2)⟩
                    have n2_ : Aside0 (Kd.R (Kd.int .u8) 5 ((w44.setCell ⟨gb391, 0, none⟩ (.int .i64 t385)).setCell ⟨gb391, 1, none⟩ (.slice Ao47 t386.length co47)) w.heap.size (fun k_ => some k_ ≠ (u6 : Value).ownBlock) (.slice Ao42 t382.length co42) t382) := ⟨by exact Kd.R_mono (Kd.R_far (p := ⟨gb391, 1, none⟩) (Kd.R_far (p := ⟨gb391, 0, none⟩) (Kd.R_types HO384.out BK391.out (by decide)) (fun _ hk => hk.2) (.int .i64 t385)) (fun _ hk => hk.2) (.slice Ao47 t386.length co47)) (fun _ hk => hk.1.2)⟩
                    have n3_ : Aside0 (Kd.R k28 28 ((w44.setCell ⟨gb391, 0, none⟩ (.int .i64 t385)).setCell ⟨gb391, 1, none⟩ (.slice Ao47 t386.length co47)) w.heap.size (fun k_ => some k_ ≠ (.slice Ao40 x348001_2.length co40 : Value).ownBlock) (.slice Ao47 t386.length co47) t386) := ⟨by exact Kd.R_mono (Kd.R_far (p := ⟨gb391, 1, none⟩) (Kd.R_far (p := ⟨gb391, 0, none⟩) (Kd.R_types HO388.out BK391.out (by decide)) (fun _ hk => hk.2) (.int .i64 t385)) (fun _ hk => hk.2) (.slice Ao47 t386.length co47)) (fun _ hk => hk.1.2)⟩
                    have n4_ : Aside0 (((w44.setCell ⟨gb391, 0, none⟩ (.int .i64 t385)).setCell ⟨gb391, 1, none⟩ (.slice Ao47 t386.length co47)).heap[gb347]? = some (.cells #[.int .i64 (wrap64 (Int.tmod a0 16)), .slice Ao40 x348001_2.length co40] 34 (0, 0))) := ⟨by refine blk_far ?_ NB347_391.out _; refine blk_far ?_ NB347_391.out _; exact BK347.out⟩
                    have n5_ : Aside0 (((w44.setCell ⟨gb391, 0, none⟩ (.int .i64 t385)).setCell ⟨gb391, 1, none⟩ (.slice Ao47 t386.length co47)).heap[gb391]? = some (.cells #[.int .i64 t385, .slice Ao47 t386.length co47] 34 (0, 0))) := ⟨by refine blk_put (cs := #[.int .i64 t385, .slice none 0 0]) ?_ 1 _ rfl; refine blk_put (cs := #[.int .i64 0, .slice none 0 0]) ?_ 0 _ rfl; exact BK391.out⟩
                    have n6_ : Aside0 (Below w.heap.size w ((w44.setCell ⟨gb391, 0, none⟩ (.int .i64 t385)).setCell ⟨gb391, 1, none⟩ (.slice Ao47 t386.length co47))) := ⟨by repeat (first | (with_reducible first | exact HB.out | refine below_set ?_ GE391.out))⟩
                    (try clear HO_6)
                    (try clear HO_348001)
                    (try clear HO384)
                    (try clear HO388)
                    (try clear BK347)
                    (try clear BK391)
                    (try clear HB)
                    generalize ((w44.setCell ⟨gb391, 0, none⟩ (.int .i64 t385)).setCell ⟨gb391, 1, none⟩ (.slice Ao47 t386.length co47)) = w58 at n0_ n1_ n2_ n3_ n4_ n5_ n6_ ⊢
                    have HO_6 := n0_
                    have HO_348001 := n1_
                    have HO384 := n2_
                    have HO388 := n3_
                    have BK347 := n4_
                    have BK391 := n5_
                    have HB := n6_
                    clear n0_ n1_ n2_ n3_ n4_ n5_ n6_
                    have n0_ := Aside0.mk (Kd.R_drew HO_6.out)
                    have n1_ := Aside0.mk (Kd.R_drew HO_348001.out)
                    have n2_ := Aside0.mk (Kd.R_drew HO384.out)
                    have n3_ := Aside0.mk (Kd.R_drew HO388.out)
                    have n4_ := Aside0.mk (blk_drew BK347.out)
                    have n5_ := Aside0.mk (blk_drew BK391.out)
                    have n6_ := Aside0.mk (below_drew1 HB.out)
                    clear HO_6
                    clear HO_348001
                    clear HO384
                    clear HO388
                    clear BK347
                    clear BK391
                    clear HB
                    have HO_6 := n0_
                    have HO_348001 := n1_
                    have HO384 := n2_
                    have HO388 := n3_
                    have BK347 := n4_
                    have BK391 := n5_
                    have HB := n6_
                    clear n0_ n1_ n2_ n3_ n4_ n5_ n6_
                    obtain ⟨Ao60, co60, eo60⟩ := Kd.R_slice HO_6.out
                    (first | subst eo60)
                    refine start_ (n := 29) (S := fun w' => w'.cell? ⟨gb391, 0, none⟩ = some (.int .i64 t385) ∧ w'.cell? ⟨gb391, 1, none⟩ = some (.slice Ao47 t386.length co47) ∧ w'.cell? ⟨gb347, 0, none⟩ = some (.int .i64 (wrap64 (Int.tmod a0 16))) ∧ w'.cell? ⟨gb347, 1, none⟩ = some (.slice Ao40 x348001_2.length co40) ∧ (convert 30 9 (.slice Ao42 t382.length co42)).run Try.prog w' = .ok (.string (strOfNums t382)) w') (ds := []) #[false, false, false, false, false, false, false, false, false, false, false, false, false, false, false, false, false, false, false, false, false, false, false, false, false, false, false, false, false] (by kernel_rfl) rfl rfl ⟨(blk_cell BK391.out 0).trans rfl, (blk_cell BK391.out 1).trans rfl, (blk_cell BK347.out 0).trans rfl, (blk_cell BK347.out 1).trans rfl, (own_string (P := Try.prog) Try.underlying30 Try.underlying5 Try.underlying9 (Kd.own_of_R HO384.out))⟩ (fun hHeld => ?_); refine with_tabW milestonelaw13_MessageBytes.tab12 milestonelaw13_MessageBytes.bits12 (fun HT_ HW_ => ?_)
                    generalize w58.drew = w59 at HO_6 HO_348001 HO384 HO388 BK347 BK391 HB hHeld ⊢
                    refine pure_ (i := 0) (N := some 63) (v := ?_) (a' := ?_) #[true, false, false, false, false, false, false, false, false, false, false, false, false, false, false, false, false, false, false, false, false, false, false, false, false, false, false, false, false] rfl rfl (any_of HT_.out (by kernel_rfl)) (fun _ _ _ h => h) (Or.inl ⟨by rfl, ?_⟩) ?_ ?_
                    rotate_left
                    · intro w'
                      go_simp
                      with_reducible rfl
                    rotate_left
                    · simp only [Act.put, List.setIfInBounds_toArray, List.set_cons_zero, List.set_cons_succ, i64_w, i32_w]
                      rfl
                    refine pure_ (i := 2) (N := some 65) (v := ?_) (a' := ?_) #[true, false, true, false, false, false, false, false, false, false, false, false, false, false, false, false, false, false, false, false, false, false, false, false, false, false, false, false, false] rfl rfl (any_of HT_.out (by kernel_rfl)) (fun _ _ _ h => h) (Or.inl ⟨by rfl, ?_⟩) ?_ ?_
                    rotate_left
                    · intro w'
                      go_simp
                      with_reducible rfl
                    rotate_left
                    · simp only [Act.put, List.setIfInBounds_toArray, List.set_cons_zero, List.set_cons_succ, i64_w, i32_w]
                      rfl
                    refine take_ (i := 1) (N := some 64) (v := ?_) (a' := ?_) #[true, true, true, false, false, false, false, false, false, false, false, false, false, false, false, false, false, false, false, false, false, false, false, false, false, false, false, false, false] rfl rfl (take_ofW HT_.out HW_.out (by kernel_rfl)) (fun _ _ _ h => h) (Or.inl ⟨by rfl, ?_⟩) hHeld ?_ ?_
                    rotate_left
                    · rintro w' ⟨s0, s1, s2, s3, s4⟩
                      go_simp
                      with_reducible rfl
                    rotate_left
                    · simp only [Act.put, List.setIfInBounds_toArray, List.set_cons_zero, List.set_cons_succ, i64_w, i32_w]
                      rfl
                    refine one_ (i := 3) (N := some 66) #[true, true, true, true, false, false, false, false, false, false, false, false, false, false, false, false, false, false, false, false, false, false, false, false, false, false, false, false, false] rfl rfl (one_of HT_.out (by kernel_rfl)) (by decide) (fun K hK => ?_)
                    refine goes_ Try.func14 (by kernel_rfl) rfl #[.slice Ao60 x6_2.length co60] (by rfl) rfl rfl (by (try simp only [List.map_toArray, List.map_cons, List.map_nil]); first | rfl) ?_
                    with_reducible refine (milestonelaw13_packet.calls k2 _ _ x6_2 t392 _ ?side1 ?side2 A48.out).mono ?_
                    (case side1 => repeat (first | exact (Kd.R_reads' HO_6.out).2.2 | (with_reducible refine Kd.C_drew ?_)))
                    (case side2 => exact (Kd.R_reads' HO_6.out).2.1)
                    rintro e w61 ⟨v393, rfl, ho0, hb⟩
                    refine ⟨_, rfl, ?_⟩
                    have n0_ := Aside0.mk (Kd.R_elder' (by exact HO_6.out) (Kd.R_base ho0) hb)
                    have n1_ := Aside0.mk (Kd.R_below (by exact HO_348001.out) hb)
                    have n2_ := Aside0.mk (Kd.R_elder' (by exact HO384.out) (Kd.R_base ho0) hb)
                    have n3_ := Aside0.mk (Kd.R_below (by exact HO388.out) hb)
                    have n4_ := Aside0.mk (Kd.R_lower (Kd.R_new' (Kd.R_new' ho0 (Kd.R_lt (by exact HO_6.out))) (Kd.R_lt (by exact HO384.out))) (below_size (by repeat (first | (with_reducible first | exact HB.out | refine below_set ?_ GE391.out)))))
                    have n5_ := Aside0.mk (blk_below (g := gb347) (o := .cells #[.int .i64 (wrap64 (Int.tmod a0 16)), .slice Ao40 x348001_2.length co40] 34 (0, 0)) (by exact BK347.out) hb)
                    have n6_ := Aside0.mk (blk_below (g := gb391) (o := .cells #[.int .i64 t385, .slice Ao47 t386.length co47] 34 (0, 0)) (by exact BK391.out) hb)
                    have n7_ := Aside0.mk (below_step (by repeat (first | (with_reducible first | exact HB.out | refine below_set ?_ GE391.out))) hb)
                    clear HO_6
                    clear HO_348001
                    clear HO384
                    clear HO388
                    clear BK347
                    clear BK391
                    clear HB
                    have HO_6 := n0_
                    have HO_348001 := n1_
                    have HO384 := n2_
                    have HO388 := n3_
                    have HO394 := n4_
                    have BK347 := n5_
                    have BK391 := n6_
                    have HB := n7_
                    clear n0_ n1_ n2_ n3_ n4_ n5_ n6_ n7_
                    (try clear hb)
                    (try clear hb2)
                    (try clear hk)
                    (try clear hi)
                    (try clear ho0)
                    refine hK.out _ _ ⟨(blk_cell BK391.out 0).trans rfl, (blk_cell BK391.out 1).trans rfl, (blk_cell BK347.out 0).trans rfl, (blk_cell BK347.out 1).trans rfl, (own_string (P := Try.prog) Try.underlying30 Try.underlying5 Try.underlying9 (Kd.own_of_R HO384.out))⟩ (fun hHeld => ?_)
                    clear hK K
                    refine norm_ (a' := ?_) ?_ ?_
                    rotate_left
                    · show Act.put _ (some 66) _ = _
                      simp only [Act.put, List.setIfInBounds_toArray, List.set_cons_zero, List.set_cons_succ, i64_w, i32_w]
                      rfl
                    refine one_ (i := 4) (N := some 67) #[true, true, true, true, true, false, false, false, false, false, false, false, false, false, false, false, false, false, false, false, false, false, false, false, false, false, false, false, false] rfl rfl (one_of HT_.out (by kernel_rfl)) (by decide) (fun K hK => ?_)
                    have hcv62 := own_string (P := Try.prog) Try.underlying30 Try.underlying5 Try.underlying9 (Kd.own_of_R HO394.out)
                    refine value_ (w1 := ?_) (v := ?_) (by rfl) rfl ?_ ?_
                    rotate_left 2
                    · go_simp
                      constructor
                      · rfl
                      · rfl
                    clear hcv62
                    refine hK.out _ _ ⟨(blk_cell BK391.out 0).trans rfl, (blk_cell BK391.out 1).trans rfl, (blk_cell BK347.out 0).trans rfl, (blk_cell BK347.out 1).trans rfl, (own_string (P := Try.prog) Try.underlying30 Try.underlying5 Try.underlying9 (Kd.own_of_R HO384.out))⟩ (fun hHeld => ?_)
                    clear hK K
                    refine norm_ (a' := ?_) ?_ ?_
                    rotate_left
                    · show Act.put _ (some 67) _ = _
                      simp only [Act.put, List.setIfInBounds_toArray, List.set_cons_zero, List.set_cons_succ, i64_w, i32_w]
                      rfl
                    refine pure_ (i := 5) (N := some 68) (v := ?_) (a' := ?_) #[true, true, true, true, true, true, false, false, false, false, false, false, false, false, false, false, false, false, false, false, false, false, false, false, false, false, false, false, false] rfl rfl (any_of HT_.out (by kernel_rfl)) (fun _ _ _ h => h) (Or.inl ⟨by rfl, ?_⟩) ?_ ?_
                    rotate_left
                    · intro w'
                      go_simp
                      with_reducible rfl
                    rotate_left
                    · simp only [Act.put, List.setIfInBounds_toArray, List.set_cons_zero, List.set_cons_succ, i64_w, i32_w]
                      rfl
                    refine pure_ (i := 6) (N := some 69) (v := ?_) (a' := ?_) #[true, true, true, true, true, true, true, false, false, false, false, false, false, false, false, false, false, false, false, false, false, false, false, false, false, false, false, false, false] rfl rfl (any_of HT_.out (by kernel_rfl)) (fun _ _ _ h => h) (Or.inl ⟨by rfl, ?_⟩) ?_ ?_
                    rotate_left
                    · intro w'
                      go_simp
                      with_reducible rfl
                    rotate_left
                    · simp only [Act.put, List.setIfInBounds_toArray, List.set_cons_zero, List.set_cons_succ, i64_w, i32_w]
                      rfl
                    refine pure_ (i := 7) (N := some 70) (v := ?_) (a' := ?_) #[true, true, true, true, true, true, true, true, false, false, false, false, false, false, false, false, false, false, false, false, false, false, false, false, false, false, false, false, false] rfl rfl (any_of HT_.out (by kernel_rfl)) (fun _ _ _ h => h) (Or.inl ⟨by rfl, ?_⟩) ?_ ?_
                    rotate_left
                    · intro w'
                      go_simp
                      with_reducible rfl
                    rotate_left
                    · simp only [Act.put, List.setIfInBounds_toArray, List.set_cons_zero, List.set_cons_succ, i64_w, i32_w]
                      rfl
                    refine pure_ (i := 8) (N := some 71) (v := ?_) (a' := ?_) #[true, true, true, true, true, true, true, true, true, false, false, false, false, false, false, false, false, false, false, false, false, false, false, false, false, false, false, false, false] rfl rfl (any_of HT_.out (by kernel_rfl)) (fun _ _ _ h => h) (Or.inl ⟨by rfl, ?_⟩) ?_ ?_
                    rotate_left
                    · intro w'
                      go_simp
                      with_reducible rfl
                    rotate_left
                    · simp only [Act.put, List.setIfInBounds_toArray, List.set_cons_zero, List.set_cons_succ, i64_w, i32_w]
                      rfl
                    refine pure_ (i := 9) (N := some 72) (v := ?_) (a' := ?_) #[true, true, true, true, true, true, true, true, true, true, false, false, false, false, false, false, false, false, false, false, false, false, false, false, false, false, false, false, false] rfl rfl (any_of HT_.out (by kernel_rfl)) (fun _ _ _ h => h) (Or.inl ⟨by rfl, ?_⟩) ?_ ?_
                    rotate_left
                    · intro w'
                      go_simp
                      with_reducible rfl
                    rotate_left
                    · simp only [Act.put, List.setIfInBounds_toArray, List.set_cons_zero, List.set_cons_succ, i64_w, i32_w]
                      rfl
                    refine pure_ (i := 10) (N := some 73) (v := ?_) (a' := ?_) #[true, true, true, true, true, true, true, true, true, true, true, false, false, false, false, false, false, false, false, false, false, false, false, false, false, false, false, false, false] rfl rfl (any_of HT_.out (by kernel_rfl)) (fun _ _ _ h => h) (Or.inl ⟨by rfl, ?_⟩) ?_ ?_
                    rotate_left
                    · intro w'
                      go_simp
                      with_reducible rfl
                    rotate_left
                    · simp only [Act.put, List.setIfInBounds_toArray, List.set_cons_zero, List.set_cons_succ, i64_w, i32_w]
                      rfl
                    refine pure_ (i := 11) (N := some 74) (v := ?_) (a' := ?_) #[true, true, true, true, true, true, true, true, true, true, true, true, false, false, false, false, false, false, false, false, false, false, false, false, false, false, false, false, false] rfl rfl (any_of HT_.out (by kernel_rfl)) (fun _ _ _ h => h) (Or.inl ⟨by rfl, ?_⟩) ?_ ?_
                    rotate_left
                    · intro w'
                      go_simp
                      with_reducible rfl
                    rotate_left
                    · simp only [Act.put, List.setIfInBounds_toArray, List.set_cons_zero, List.set_cons_succ, i64_w, i32_w]
                      rfl
                    refine pure_ (i := 12) (N := some 75) (v := ?_) (a' := ?_) #[true, true, true, true, true, true, true, true, true, true, true, true, true, false, false, false, false, false, false, false, false, false, false, false, false, false, false, false, false] rfl rfl (any_of HT_.out (by kernel_rfl)) (fun _ _ _ h => h) (Or.inl ⟨by rfl, ?_⟩) ?_ ?_
                    rotate_left
                    · intro w'
                      go_simp
                      with_reducible rfl
                    rotate_left
                    · simp only [Act.put, List.setIfInBounds_toArray, List.set_cons_zero, List.set_cons_succ, i64_w, i32_w]
                      rfl
                    refine pure_ (i := 13) (N := some 76) (v := ?_) (a' := ?_) #[true, true, true, true, true, true, true, true, true, true, true, true, true, true, false, false, false, false, false, false, false, false, false, false, false, false, false, false, false] rfl rfl (any_of HT_.out (by kernel_rfl)) (fun _ _ _ h => h) (Or.inl ⟨by rfl, ?_⟩) ?_ ?_
                    rotate_left
                    · intro w'
                      go_simp
                      with_reducible rfl
                    rotate_left
                    · simp only [Act.put, List.setIfInBounds_toArray, List.set_cons_zero, List.set_cons_succ, i64_w, i32_w]
                      rfl
                    refine pure_ (i := 14) (N := some 77) (v := ?_) (a' := ?_) #[true, true, true, true, true, true, true, true, true, true, true, true, true, true, true, false, false, false, false, false, false, false, false, false, false, false, false, false, false] rfl rfl (any_of HT_.out (by kernel_rfl)) (fun _ _ _ h => h) (Or.inl ⟨by rfl, ?_⟩) ?_ ?_
                    rotate_left
                    · intro w'
                      go_simp
                      with_reducible rfl
                    rotate_left
                    · simp only [Act.put, List.setIfInBounds_toArray, List.set_cons_zero, List.set_cons_succ, i64_w, i32_w]
                      rfl
                    refine pure_ (i := 15) (N := some 78) (v := ?_) (a' := ?_) #[true, true, true, true, true, true, true, true, true, true, true, true, true, true, true, true, false, false, false, false, false, false, false, false, false, false, false, false, false] rfl rfl (any_of HT_.out (by kernel_rfl)) (fun _ _ _ h => h) (Or.inl ⟨by rfl, ?_⟩) ?_ ?_
                    rotate_left
                    · intro w'
                      go_simp
                      with_reducible rfl
                    rotate_left
                    · simp only [Act.put, List.setIfInBounds_toArray, List.set_cons_zero, List.set_cons_succ, i64_w, i32_w]
                      rfl
                    refine pure_ (i := 17) (N := some 80) (v := ?_) (a' := ?_) #[true, true, true, true, true, true, true, true, true, true, true, true, true, true, true, true, false, true, false, false, false, false, false, false, false, false, false, false, false] rfl rfl (any_of HT_.out (by kernel_rfl)) (fun _ _ _ h => h) (Or.inl ⟨by rfl, ?_⟩) ?_ ?_
                    rotate_left
                    · intro w'
                      go_simp
                      with_reducible rfl
                    rotate_left
                    · simp only [Act.put, List.setIfInBounds_toArray, List.set_cons_zero, List.set_cons_succ, i64_w, i32_w]
                      rfl
                    refine take_ (i := 16) (N := some 79) (v := ?_) (a' := ?_) #[true, true, true, true, true, true, true, true, true, true, true, true, true, true, true, true, true, true, false, false, false, false, false, false, false, false, false, false, false] rfl rfl (take_ofW HT_.out HW_.out (by kernel_rfl)) (fun _ _ _ h => h) (Or.inl ⟨by rfl, ?_⟩) hHeld ?_ ?_
                    rotate_left
                    · rintro w' ⟨s0, s1, s2, s3, s4⟩
                      go_simp
                      with_reducible rfl
                    rotate_left
                    · simp only [Act.put, List.setIfInBounds_toArray, List.set_cons_zero, List.set_cons_succ, i64_w, i32_w]
                      rfl
                    refine take_ (i := 18) (N := some 81) (v := ?_) (a' := ?_) #[true, true, true, true, true, true, true, true, true, true, true, true, true, true, true, true, true, true, true, false, false, false, false, false, false, false, false, false, false] rfl rfl (take_ofW HT_.out HW_.out (by kernel_rfl)) (fun _ _ _ h => h) (Or.inl ⟨by rfl, ?_⟩) hHeld ?_ ?_
                    rotate_left
                    · rintro w' ⟨s0, s1, s2, s3, s4⟩
                      go_simp
                      with_reducible rfl
                    rotate_left
                    · simp only [Act.put, List.setIfInBounds_toArray, List.set_cons_zero, List.set_cons_succ, i64_w, i32_w]
                      rfl
                    refine pure_ (i := 19) (N := some 82) (v := ?_) (a' := ?_) #[true, true, true, true, true, true, true, true, true, true, true, true, true, true, true, true, true, true, true, true, false, false, false, false, false, false, false, false, false] rfl rfl (any_of HT_.out (by kernel_rfl)) (fun _ _ _ h => h) (Or.inl ⟨by rfl, ?_⟩) ?_ ?_
                    rotate_left
                    · intro w'
                      go_simp
                      with_reducible rfl
                    rotate_left
                    · simp only [Act.put, List.setIfInBounds_toArray, List.set_cons_zero, List.set_cons_succ, i64_w, i32_w]
                      rfl
                    refine pure_ (i := 20) (N := some 83) (v := ?_) (a' := ?_) #[true, true, true, true, true, true, true, true, true, true, true, true, true, true, true, true, true, true, true, true, true, false, false, false, false, false, false, false, false] rfl rfl (any_of HT_.out (by kernel_rfl)) (fun _ _ _ h => h) (Or.inl ⟨by rfl, ?_⟩) ?_ ?_
                    rotate_left
                    · intro w'
                      go_simp
                      with_reducible rfl
                    rotate_left
                    · simp only [Act.put, List.setIfInBounds_toArray, List.set_cons_zero, List.set_cons_succ, i64_w, i32_w]
                      rfl
                    refine pure_ (i := 21) (N := some 84) (v := ?_) (a' := ?_) #[true, true, true, true, true, true, true, true, true, true, true, true, true, true, true, true, true, true, true, true, true, true, false, false, false, false, false, false, false] rfl rfl (any_of HT_.out (by kernel_rfl)) (fun _ _ _ h => h) (Or.inl ⟨by rfl, ?_⟩) ?_ ?_
                    rotate_left
                    · intro w'
                      go_simp
                      with_reducible rfl
                    rotate_left
                    · simp only [Act.put, List.setIfInBounds_toArray, List.set_cons_zero, List.set_cons_succ, i64_w, i32_w]
                      rfl
                    refine pure_ (i := 22) (N := some 85) (v := undef) (a' := ?_) #[true, true, true, true, true, true, true, true, true, true, true, true, true, true, true, true, true, true, true, true, true, true, true, false, false, false, false, false, false] rfl rfl (any_of HT_.out (by kernel_rfl)) (fun _ _ _ h => h) (Or.inr ⟨by rfl, rfl⟩) ?_ ?_
                    rotate_left
                    · simp only [Act.put, List.setIfInBounds_toArray, List.set_cons_zero, List.set_cons_succ, i64_w, i32_w]
                      rfl
                    refine pure_ (i := 23) (N := some 86) (v := undef) (a' := ?_) #[true, true, true, true, true, true, true, true, true, true, true, true, true, true, true, true, true, true, true, true, true, true, true, true, false, false, false, false, false] rfl rfl (any_of HT_.out (by kernel_rfl)) (fun _ _ _ h => h) (Or.inr ⟨by rfl, rfl⟩) ?_ ?_
                    rotate_left
                    · simp only [Act.put, List.setIfInBounds_toArray, List.set_cons_zero, List.set_cons_succ, i64_w, i32_w]
                      rfl
                    refine pure_ (i := 24) (N := some 87) (v := undef) (a' := ?_) #[true, true, true, true, true, true, true, true, true, true, true, true, true, true, true, true, true, true, true, true, true, true, true, true, true, false, false, false, false] rfl rfl (any_of HT_.out (by kernel_rfl)) (fun _ _ _ h => h) (Or.inr ⟨by rfl, rfl⟩) ?_ ?_
                    rotate_left
                    · simp only [Act.put, List.setIfInBounds_toArray, List.set_cons_zero, List.set_cons_succ, i64_w, i32_w]
                      rfl
                    refine pure_ (i := 25) (N := some 88) (v := undef) (a' := ?_) #[true, true, true, true, true, true, true, true, true, true, true, true, true, true, true, true, true, true, true, true, true, true, true, true, true, true, false, false, false] rfl rfl (any_of HT_.out (by kernel_rfl)) (fun _ _ _ h => h) (Or.inr ⟨by rfl, rfl⟩) ?_ ?_
                    rotate_left
                    · simp only [Act.put, List.setIfInBounds_toArray, List.set_cons_zero, List.set_cons_succ, i64_w, i32_w]
                      rfl
                    refine pure_ (i := 26) (N := some 89) (v := undef) (a' := ?_) #[true, true, true, true, true, true, true, true, true, true, true, true, true, true, true, true, true, true, true, true, true, true, true, true, true, true, true, false, false] rfl rfl (any_of HT_.out (by kernel_rfl)) (fun _ _ _ h => h) (Or.inr ⟨by rfl, rfl⟩) ?_ ?_
                    rotate_left
                    · simp only [Act.put, List.setIfInBounds_toArray, List.set_cons_zero, List.set_cons_succ, i64_w, i32_w]
                      rfl
                    refine pure_ (i := 27) (N := some 90) (v := undef) (a' := ?_) #[true, true, true, true, true, true, true, true, true, true, true, true, true, true, true, true, true, true, true, true, true, true, true, true, true, true, true, true, false] rfl rfl (any_of HT_.out (by kernel_rfl)) (fun _ _ _ h => h) (Or.inr ⟨by rfl, rfl⟩) ?_ ?_
                    rotate_left
                    · simp only [Act.put, List.setIfInBounds_toArray, List.set_cons_zero, List.set_cons_succ, i64_w, i32_w]
                      rfl
                    refine pure_ (i := 28) (N := some 91) (v := ?_) (a' := ?_) #[true, true, true, true, true, true, true, true, true, true, true, true, true, true, true, true, true, true, true, true, true, true, true, true, true, true, true, true, true] rfl rfl (any_of HT_.out (by kernel_rfl)) (fun _ _ _ h => h) (Or.inl ⟨by rfl, ?_⟩) ?_ ?_
                    rotate_left
                    · intro w'
                      go_simp
                      with_reducible rfl
                    rotate_left
                    · simp only [Act.put, List.setIfInBounds_toArray, List.set_cons_zero, List.set_cons_succ, i64_w, i32_w]
                      rfl
                    refine done_ (done_of HT_.out (by kernel_rfl)) ?_
                    try go_wp2
                    go_meet
                    case rel => exact ⟨_, (true), (by first | rfl | (refine qa_int ?_; simp <;> omega)), H', ⟨by have := HJ2.out; have := HK2.out; first | omega⟩, ⟨by exact HO_348001.out⟩, ⟨by exact HO388.out⟩, ⟨by exact BK347.out⟩, ⟨by exact BK391.out⟩, ⟨by repeat (first | (with_reducible first | exact HB.out | refine below_set ?_ GE391.out))⟩⟩
                · rw [if_neg c51] at H
                  have c51b0 : (t389 == 0) = false := beq_eq_false_iff_ne.mpr c51
                  have c51b1 : (t389 != 0) = true := bne_iff_ne.mpr c51
                  have H' := Aside0.mk H
                  clear H
                  try go_wp2
                  have n0_ : Aside0 (Kd.R (Kd.int .u8) 5 ((w44.setCell ⟨gb391, 0, none⟩ (.int .i64 t385)).setCell ⟨gb391, 1, none⟩ (.slice Ao47 t386.length co47)) w.heap.size (fun k_ => some k_ ≠ (.slice Ao42 t382.length co42 : Value).ownBlock) u6 x6_2) := ⟨by exact Kd.R_mono (Kd.R_far (p := ⟨gb391, 1, none⟩) (Kd.R_far (p := ⟨gb391, 0, none⟩) (Kd.R_types HO_6.out BK391.out (by decide)) (fun _ hk => hk.2) (.int .i64 t385)) (fun _ hk => hk.2) (.slice Ao47 t386.length co47)) (fun _ hk => hk.1.2)⟩
                  have n1_ : Aside0 (Kd.R k28 28 ((w44.setCell ⟨gb391, 0, none⟩ (.int .i64 t385)).setCell ⟨gb391, 1, none⟩ (.slice Ao47 t386.length co47)) w.heap.size (fun k_ => some k_ ≠ (.slice Ao47 t386.length co47 : Value).ownBlock) (.slice Ao40 x348001_2.length co40) x348001_2) := ⟨by exact Kd.R_mono (Kd.R_far (p := ⟨gb391, 1, none⟩) (Kd.R_far (p := ⟨gb391, 0, none⟩) (Kd.R_types HO_348001.out BK391.out (by decide)) (fun _ hk => hk.2) (.int .i64 t385)) (fun _ hk => hk.2) (.slice Ao47 t386.length co47)) (fun _ hk => hk.1.2)⟩
                  have n2_ : Aside0 (Kd.R (Kd.int .u8) 5 ((w44.setCell ⟨gb391, 0, none⟩ (.int .i64 t385)).setCell ⟨gb391, 1, none⟩ (.slice Ao47 t386.length co47)) w.heap.size (fun k_ => some k_ ≠ (u6 : Value).ownBlock) (.slice Ao42 t382.length co42) t382) := ⟨by exact Kd.R_mono (Kd.R_far (p := ⟨gb391, 1, none⟩) (Kd.R_far (p := ⟨gb391, 0, none⟩) (Kd.R_types HO384.out BK391.out (by decide)) (fun _ hk => hk.2) (.int .i64 t385)) (fun _ hk => hk.2) (.slice Ao47 t386.length co47)) (fun _ hk => hk.1.2)⟩
                  have n3_ : Aside0 (Kd.R k28 28 ((w44.setCell ⟨gb391, 0, none⟩ (.int .i64 t385)).setCell ⟨gb391, 1, none⟩ (.slice Ao47 t386.length co47)) w.heap.size (fun k_ => some k_ ≠ (.slice Ao40 x348001_2.length co40 : Value).ownBlock) (.slice Ao47 t386.length co47) t386) := ⟨by exact Kd.R_mono (Kd.R_far (p := ⟨gb391, 1, none⟩) (Kd.R_far (p := ⟨gb391, 0, none⟩) (Kd.R_types HO388.out BK391.out (by decide)) (fun _ hk => hk.2) (.int .i64 t385)) (fun _ hk => hk.2) (.slice Ao47 t386.length co47)) (fun _ hk => hk.1.2)⟩
                  have n4_ : Aside0 (((w44.setCell ⟨gb391, 0, none⟩ (.int .i64 t385)).setCell ⟨gb391, 1, none⟩ (.slice Ao47 t386.length co47)).heap[gb347]? = some (.cells #[.int .i64 (wrap64 (Int.tmod a0 16)), .slice Ao40 x348001_2.length co40] 34 (0, 0))) := ⟨by refine blk_far ?_ NB347_391.out _; refine blk_far ?_ NB347_391.out _; exact BK347.out⟩
                  have n5_ : Aside0 (((w44.setCell ⟨gb391, 0, none⟩ (.int .i64 t385)).setCell ⟨gb391, 1, none⟩ (.slice Ao47 t386.length co47)).heap[gb391]? = some (.cells #[.int .i64 t385, .slice Ao47 t386.length co47] 34 (0, 0))) := ⟨by refine blk_put (cs := #[.int .i64 t385, .slice none 0 0]) ?_ 1 _ rfl; refine blk_put (cs := #[.int .i64 0, .slice none 0 0]) ?_ 0 _ rfl; exact BK391.out⟩
                  have n6_ : Aside0 (Below w.heap.size w ((w44.setCell ⟨gb391, 0, none⟩ (.int .i64 t385)).setCell ⟨gb391, 1, none⟩ (.slice Ao47 t386.length co47))) := ⟨by repeat (first | (with_reducible first | exact HB.out | refine below_set ?_ GE391.out))⟩
                  (try clear HO_6)
                  (try clear HO_348001)
                  (try clear HO384)
                  (try clear HO388)
                  (try clear BK347)
                  (try clear BK391)
                  (try clear HB)
                  generalize ((w44.setCell ⟨gb391, 0, none⟩ (.int .i64 t385)).setCell ⟨gb391, 1, none⟩ (.slice Ao47 t386.length co47)) = w63 at n0_ n1_ n2_ n3_ n4_ n5_ n6_ ⊢
                  have HO_6 := n0_
                  have HO_348001 := n1_
                  have HO384 := n2_
                  have HO388 := n3_
                  have BK347 := n4_
                  have BK391 := n5_
                  have HB := n6_
                  clear n0_ n1_ n2_ n3_ n4_ n5_ n6_
                  have n0_ := Aside0.mk (Kd.R_drew HO_6.out)
                  have n1_ := Aside0.mk (Kd.R_drew HO_348001.out)
                  have n2_ := Aside0.mk (Kd.R_drew HO384.out)
                  have n3_ := Aside0.mk (Kd.R_drew HO388.out)
                  have n4_ := Aside0.mk (blk_drew BK347.out)
                  have n5_ := Aside0.mk (blk_drew BK391.out)
                  have n6_ := Aside0.mk (below_drew1 HB.out)
                  clear HO_6
                  clear HO_348001
                  clear HO384
                  clear HO388
                  clear BK347
                  clear BK391
                  clear HB
                  have HO_6 := n0_
                  have HO_348001 := n1_
                  have HO384 := n2_
                  have HO388 := n3_
                  have BK347 := n4_
                  have BK391 := n5_
                  have HB := n6_
                  clear n0_ n1_ n2_ n3_ n4_ n5_ n6_
                  obtain ⟨Ao65, co65, eo65⟩ := Kd.R_slice HO_6.out
                  (first | subst eo65)
                  refine start_ (n := 29) (S := fun w' => (convert 30 9 (.slice Ao42 t382.length co42)).run Try.prog w' = .ok (.string (strOfNums t382)) w') (ds := []) #[false, false, false, false, false, false, false, false, false, false, false, false, false, false, false, false, false, false, false, false, false, false, false, false, false, false, false, false, false] (by kernel_rfl) rfl rfl ((own_string (P := Try.prog) Try.underlying30 Try.underlying5 Try.underlying9 (Kd.own_of_R HO384.out))) (fun hHeld => ?_); refine with_tabW milestonelaw13_MessageBytes.tab12 milestonelaw13_MessageBytes.bits12 (fun HT_ HW_ => ?_)
                  generalize w63.drew = w64 at HO_6 HO_348001 HO384 HO388 BK347 BK391 HB hHeld ⊢
                  refine pure_ (i := 0) (N := some 63) (v := ?_) (a' := ?_) #[true, false, false, false, false, false, false, false, false, false, false, false, false, false, false, false, false, false, false, false, false, false, false, false, false, false, false, false, false] rfl rfl (any_of HT_.out (by kernel_rfl)) (fun _ _ _ h => h) (Or.inl ⟨by rfl, ?_⟩) ?_ ?_
                  rotate_left
                  · intro w'
                    go_simp
                    with_reducible rfl
                  rotate_left
                  · simp only [Act.put, List.setIfInBounds_toArray, List.set_cons_zero, List.set_cons_succ, i64_w, i32_w]
                    rfl
                  refine pure_ (i := 2) (N := some 65) (v := ?_) (a' := ?_) #[true, false, true, false, false, false, false, false, false, false, false, false, false, false, false, false, false, false, false, false, false, false, false, false, false, false, false, false, false] rfl rfl (any_of HT_.out (by kernel_rfl)) (fun _ _ _ h => h) (Or.inl ⟨by rfl, ?_⟩) ?_ ?_
                  rotate_left
                  · intro w'
                    go_simp
                    with_reducible rfl
                  rotate_left
                  · simp only [Act.put, List.setIfInBounds_toArray, List.set_cons_zero, List.set_cons_succ, i64_w, i32_w]
                    rfl
                  refine take_ (i := 1) (N := some 64) (v := ?_) (a' := ?_) #[true, true, true, false, false, false, false, false, false, false, false, false, false, false, false, false, false, false, false, false, false, false, false, false, false, false, false, false, false] rfl rfl (take_ofW HT_.out HW_.out (by kernel_rfl)) (fun _ _ _ h => h) (Or.inl ⟨by rfl, ?_⟩) hHeld ?_ ?_
                  rotate_left
                  · intro w' s0
                    go_simp
                    with_reducible rfl
                  rotate_left
                  · simp only [Act.put, List.setIfInBounds_toArray, List.set_cons_zero, List.set_cons_succ, i64_w, i32_w]
                    rfl
                  refine one_ (i := 3) (N := some 66) #[true, true, true, true, false, false, false, false, false, false, false, false, false, false, false, false, false, false, false, false, false, false, false, false, false, false, false, false, false] rfl rfl (one_of HT_.out (by kernel_rfl)) (by decide) (fun K hK => ?_)
                  refine goes_ Try.func14 (by kernel_rfl) rfl #[.slice Ao65 x6_2.length co65] (by rfl) rfl rfl (by (try simp only [List.map_toArray, List.map_cons, List.map_nil]); first | rfl) ?_
                  with_reducible refine (milestonelaw13_packet.calls k2 _ _ x6_2 t392 _ ?side1 ?side2 A48.out).mono ?_
                  (case side1 => repeat (first | exact (Kd.R_reads' HO_6.out).2.2 | (with_reducible refine Kd.C_drew ?_)))
                  (case side2 => exact (Kd.R_reads' HO_6.out).2.1)
                  rintro e w66 ⟨v393, rfl, ho0, hb⟩
                  refine ⟨_, rfl, ?_⟩
                  have n0_ := Aside0.mk (Kd.R_elder' (by exact HO_6.out) (Kd.R_base ho0) hb)
                  have n1_ := Aside0.mk (Kd.R_below (by exact HO_348001.out) hb)
                  have n2_ := Aside0.mk (Kd.R_elder' (by exact HO384.out) (Kd.R_base ho0) hb)
                  have n3_ := Aside0.mk (Kd.R_below (by exact HO388.out) hb)
                  have n4_ := Aside0.mk (Kd.R_lower (Kd.R_new' (Kd.R_new' ho0 (Kd.R_lt (by exact HO_6.out))) (Kd.R_lt (by exact HO384.out))) (below_size (by repeat (first | (with_reducible first | exact HB.out | refine below_set ?_ GE391.out)))))
                  have n5_ := Aside0.mk (blk_below (g := gb347) (o := .cells #[.int .i64 (wrap64 (Int.tmod a0 16)), .slice Ao40 x348001_2.length co40] 34 (0, 0)) (by exact BK347.out) hb)
                  have n6_ := Aside0.mk (blk_below (g := gb391) (o := .cells #[.int .i64 t385, .slice Ao47 t386.length co47] 34 (0, 0)) (by exact BK391.out) hb)
                  have n7_ := Aside0.mk (below_step (by repeat (first | (with_reducible first | exact HB.out | refine below_set ?_ GE391.out))) hb)
                  clear HO_6
                  clear HO_348001
                  clear HO384
                  clear HO388
                  clear BK347
                  clear BK391
                  clear HB
                  have HO_6 := n0_
                  have HO_348001 := n1_
                  have HO384 := n2_
                  have HO388 := n3_
                  have HO394 := n4_
                  have BK347 := n5_
                  have BK391 := n6_
                  have HB := n7_
                  clear n0_ n1_ n2_ n3_ n4_ n5_ n6_ n7_
                  (try clear hb)
                  (try clear hb2)
                  (try clear hk)
                  (try clear hi)
                  (try clear ho0)
                  refine hK.out _ _ ((own_string (P := Try.prog) Try.underlying30 Try.underlying5 Try.underlying9 (Kd.own_of_R HO384.out))) (fun hHeld => ?_)
                  clear hK K
                  refine norm_ (a' := ?_) ?_ ?_
                  rotate_left
                  · show Act.put _ (some 66) _ = _
                    simp only [Act.put, List.setIfInBounds_toArray, List.set_cons_zero, List.set_cons_succ, i64_w, i32_w]
                    rfl
                  refine one_ (i := 4) (N := some 67) #[true, true, true, true, true, false, false, false, false, false, false, false, false, false, false, false, false, false, false, false, false, false, false, false, false, false, false, false, false] rfl rfl (one_of HT_.out (by kernel_rfl)) (by decide) (fun K hK => ?_)
                  have hcv67 := own_string (P := Try.prog) Try.underlying30 Try.underlying5 Try.underlying9 (Kd.own_of_R HO394.out)
                  refine value_ (w1 := ?_) (v := ?_) (by rfl) rfl ?_ ?_
                  rotate_left 2
                  · go_simp
                    constructor
                    · rfl
                    · rfl
                  clear hcv67
                  refine hK.out _ _ ((own_string (P := Try.prog) Try.underlying30 Try.underlying5 Try.underlying9 (Kd.own_of_R HO384.out))) (fun hHeld => ?_)
                  clear hK K
                  refine norm_ (a' := ?_) ?_ ?_
                  rotate_left
                  · show Act.put _ (some 67) _ = _
                    simp only [Act.put, List.setIfInBounds_toArray, List.set_cons_zero, List.set_cons_succ, i64_w, i32_w]
                    rfl
                  refine pure_ (i := 5) (N := some 68) (v := ?_) (a' := ?_) #[true, true, true, true, true, true, false, false, false, false, false, false, false, false, false, false, false, false, false, false, false, false, false, false, false, false, false, false, false] rfl rfl (any_of HT_.out (by kernel_rfl)) (fun _ _ _ h => h) (Or.inl ⟨by rfl, ?_⟩) ?_ ?_
                  rotate_left
                  · intro w'
                    go_simp
                    with_reducible rfl
                  rotate_left
                  · simp only [Act.put, List.setIfInBounds_toArray, List.set_cons_zero, List.set_cons_succ, i64_w, i32_w]
                    rfl
                  refine pure_ (i := 6) (N := some 69) (v := ?_) (a' := ?_) #[true, true, true, true, true, true, true, false, false, false, false, false, false, false, false, false, false, false, false, false, false, false, false, false, false, false, false, false, false] rfl rfl (any_of HT_.out (by kernel_rfl)) (fun _ _ _ h => h) (Or.inl ⟨by rfl, ?_⟩) ?_ ?_
                  rotate_left
                  · intro w'
                    go_simp
                    with_reducible rfl
                  rotate_left
                  · simp only [Act.put, List.setIfInBounds_toArray, List.set_cons_zero, List.set_cons_succ, i64_w, i32_w]
                    rfl
                  refine pure_ (i := 7) (N := some 70) (v := ?_) (a' := ?_) #[true, true, true, true, true, true, true, true, false, false, false, false, false, false, false, false, false, false, false, false, false, false, false, false, false, false, false, false, false] rfl rfl (any_of HT_.out (by kernel_rfl)) (fun _ _ _ h => h) (Or.inl ⟨by rfl, ?_⟩) ?_ ?_
                  rotate_left
                  · intro w'
                    go_simp
                    with_reducible rfl
                  rotate_left
                  · simp only [Act.put, List.setIfInBounds_toArray, List.set_cons_zero, List.set_cons_succ, i64_w, i32_w]
                    rfl
                  refine pure_ (i := 8) (N := some 71) (v := ?_) (a' := ?_) #[true, true, true, true, true, true, true, true, true, false, false, false, false, false, false, false, false, false, false, false, false, false, false, false, false, false, false, false, false] rfl rfl (any_of HT_.out (by kernel_rfl)) (fun _ _ _ h => h) (Or.inl ⟨by rfl, ?_⟩) ?_ ?_
                  rotate_left
                  · intro w'
                    go_simp
                    with_reducible rfl
                  rotate_left
                  · simp only [Act.put, List.setIfInBounds_toArray, List.set_cons_zero, List.set_cons_succ, i64_w, i32_w]
                    rfl
                  refine pure_ (i := 9) (N := some 72) (v := ?_) (a' := ?_) #[true, true, true, true, true, true, true, true, true, true, false, false, false, false, false, false, false, false, false, false, false, false, false, false, false, false, false, false, false] rfl rfl (any_of HT_.out (by kernel_rfl)) (fun _ _ _ h => h) (Or.inl ⟨by rfl, ?_⟩) ?_ ?_
                  rotate_left
                  · intro w'
                    go_simp
                    with_reducible rfl
                  rotate_left
                  · simp only [Act.put, List.setIfInBounds_toArray, List.set_cons_zero, List.set_cons_succ, i64_w, i32_w]
                    rfl
                  refine pure_ (i := 10) (N := some 73) (v := ?_) (a' := ?_) #[true, true, true, true, true, true, true, true, true, true, true, false, false, false, false, false, false, false, false, false, false, false, false, false, false, false, false, false, false] rfl rfl (any_of HT_.out (by kernel_rfl)) (fun _ _ _ h => h) (Or.inl ⟨by rfl, ?_⟩) ?_ ?_
                  rotate_left
                  · intro w'
                    go_simp
                    with_reducible rfl
                  rotate_left
                  · simp only [Act.put, List.setIfInBounds_toArray, List.set_cons_zero, List.set_cons_succ, i64_w, i32_w]
                    rfl
                  refine pure_ (i := 11) (N := some 74) (v := ?_) (a' := ?_) #[true, true, true, true, true, true, true, true, true, true, true, true, false, false, false, false, false, false, false, false, false, false, false, false, false, false, false, false, false] rfl rfl (any_of HT_.out (by kernel_rfl)) (fun _ _ _ h => h) (Or.inl ⟨by rfl, ?_⟩) ?_ ?_
                  rotate_left
                  · intro w'
                    go_simp
                    with_reducible rfl
                  rotate_left
                  · simp only [Act.put, List.setIfInBounds_toArray, List.set_cons_zero, List.set_cons_succ, i64_w, i32_w]
                    rfl
                  refine pure_ (i := 12) (N := some 75) (v := ?_) (a' := ?_) #[true, true, true, true, true, true, true, true, true, true, true, true, true, false, false, false, false, false, false, false, false, false, false, false, false, false, false, false, false] rfl rfl (any_of HT_.out (by kernel_rfl)) (fun _ _ _ h => h) (Or.inl ⟨by rfl, ?_⟩) ?_ ?_
                  rotate_left
                  · intro w'
                    go_simp
                    with_reducible rfl
                  rotate_left
                  · simp only [Act.put, List.setIfInBounds_toArray, List.set_cons_zero, List.set_cons_succ, i64_w, i32_w]
                    rfl
                  refine pure_ (i := 13) (N := some 76) (v := ?_) (a' := ?_) #[true, true, true, true, true, true, true, true, true, true, true, true, true, true, false, false, false, false, false, false, false, false, false, false, false, false, false, false, false] rfl rfl (any_of HT_.out (by kernel_rfl)) (fun _ _ _ h => h) (Or.inl ⟨by rfl, ?_⟩) ?_ ?_
                  rotate_left
                  · intro w'
                    go_simp
                    with_reducible rfl
                  rotate_left
                  · simp only [Act.put, List.setIfInBounds_toArray, List.set_cons_zero, List.set_cons_succ, i64_w, i32_w]
                    rfl
                  refine pure_ (i := 14) (N := some 77) (v := ?_) (a' := ?_) #[true, true, true, true, true, true, true, true, true, true, true, true, true, true, true, false, false, false, false, false, false, false, false, false, false, false, false, false, false] rfl rfl (any_of HT_.out (by kernel_rfl)) (fun _ _ _ h => h) (Or.inl ⟨by rfl, ?_⟩) ?_ ?_
                  rotate_left
                  · intro w'
                    go_simp
                    with_reducible rfl
                  rotate_left
                  · simp only [Act.put, List.setIfInBounds_toArray, List.set_cons_zero, List.set_cons_succ, i64_w, i32_w]
                    rfl
                  refine pure_ (i := 15) (N := some 78) (v := undef) (a' := ?_) #[true, true, true, true, true, true, true, true, true, true, true, true, true, true, true, true, false, false, false, false, false, false, false, false, false, false, false, false, false] rfl rfl (any_of HT_.out (by kernel_rfl)) (fun _ _ _ h => h) (Or.inr ⟨by rfl, rfl⟩) ?_ ?_
                  rotate_left
                  · simp only [Act.put, List.setIfInBounds_toArray, List.set_cons_zero, List.set_cons_succ, i64_w, i32_w]
                    rfl
                  refine pure_ (i := 16) (N := some 79) (v := undef) (a' := ?_) #[true, true, true, true, true, true, true, true, true, true, true, true, true, true, true, true, true, false, false, false, false, false, false, false, false, false, false, false, false] rfl rfl (any_of HT_.out (by kernel_rfl)) (fun _ _ _ h => h) (Or.inr ⟨by rfl, rfl⟩) ?_ ?_
                  rotate_left
                  · simp only [Act.put, List.setIfInBounds_toArray, List.set_cons_zero, List.set_cons_succ, i64_w, i32_w]
                    rfl
                  refine pure_ (i := 17) (N := some 80) (v := undef) (a' := ?_) #[true, true, true, true, true, true, true, true, true, true, true, true, true, true, true, true, true, true, false, false, false, false, false, false, false, false, false, false, false] rfl rfl (any_of HT_.out (by kernel_rfl)) (fun _ _ _ h => h) (Or.inr ⟨by rfl, rfl⟩) ?_ ?_
                  rotate_left
                  · simp only [Act.put, List.setIfInBounds_toArray, List.set_cons_zero, List.set_cons_succ, i64_w, i32_w]
                    rfl
                  refine pure_ (i := 18) (N := some 81) (v := undef) (a' := ?_) #[true, true, true, true, true, true, true, true, true, true, true, true, true, true, true, true, true, true, true, false, false, false, false, false, false, false, false, false, false] rfl rfl (any_of HT_.out (by kernel_rfl)) (fun _ _ _ h => h) (Or.inr ⟨by rfl, rfl⟩) ?_ ?_
                  rotate_left
                  · simp only [Act.put, List.setIfInBounds_toArray, List.set_cons_zero, List.set_cons_succ, i64_w, i32_w]
                    rfl
                  refine pure_ (i := 19) (N := some 82) (v := undef) (a' := ?_) #[true, true, true, true, true, true, true, true, true, true, true, true, true, true, true, true, true, true, true, true, false, false, false, false, false, false, false, false, false] rfl rfl (any_of HT_.out (by kernel_rfl)) (fun _ _ _ h => h) (Or.inr ⟨by rfl, rfl⟩) ?_ ?_
                  rotate_left
                  · simp only [Act.put, List.setIfInBounds_toArray, List.set_cons_zero, List.set_cons_succ, i64_w, i32_w]
                    rfl
                  refine pure_ (i := 20) (N := some 83) (v := ?_) (a' := ?_) #[true, true, true, true, true, true, true, true, true, true, true, true, true, true, true, true, true, true, true, true, true, false, false, false, false, false, false, false, false] rfl rfl (any_of HT_.out (by kernel_rfl)) (fun _ _ _ h => h) (Or.inl ⟨by rfl, ?_⟩) ?_ ?_
                  rotate_left
                  · intro w'
                    go_simp
                    with_reducible rfl
                  rotate_left
                  · simp only [Act.put, List.setIfInBounds_toArray, List.set_cons_zero, List.set_cons_succ, i64_w, i32_w]
                    rfl
                  refine pure_ (i := 21) (N := some 84) (v := ?_) (a' := ?_) #[true, true, true, true, true, true, true, true, true, true, true, true, true, true, true, true, true, true, true, true, true, true, false, false, false, false, false, false, false] rfl rfl (any_of HT_.out (by kernel_rfl)) (fun _ _ _ h => h) (Or.inl ⟨by rfl, ?_⟩) ?_ ?_
                  rotate_left
                  · intro w'
                    go_simp
                    with_reducible rfl
                  rotate_left
                  · simp only [Act.put, List.setIfInBounds_toArray, List.set_cons_zero, List.set_cons_succ, i64_w, i32_w]
                    rfl
                  refine pure_ (i := 22) (N := some 85) (v := undef) (a' := ?_) #[true, true, true, true, true, true, true, true, true, true, true, true, true, true, true, true, true, true, true, true, true, true, true, false, false, false, false, false, false] rfl rfl (any_of HT_.out (by kernel_rfl)) (fun _ _ _ h => h) (Or.inr ⟨by rfl, rfl⟩) ?_ ?_
                  rotate_left
                  · simp only [Act.put, List.setIfInBounds_toArray, List.set_cons_zero, List.set_cons_succ, i64_w, i32_w]
                    rfl
                  refine pure_ (i := 23) (N := some 86) (v := undef) (a' := ?_) #[true, true, true, true, true, true, true, true, true, true, true, true, true, true, true, true, true, true, true, true, true, true, true, true, false, false, false, false, false] rfl rfl (any_of HT_.out (by kernel_rfl)) (fun _ _ _ h => h) (Or.inr ⟨by rfl, rfl⟩) ?_ ?_
                  rotate_left
                  · simp only [Act.put, List.setIfInBounds_toArray, List.set_cons_zero, List.set_cons_succ, i64_w, i32_w]
                    rfl
                  refine pure_ (i := 24) (N := some 87) (v := undef) (a' := ?_) #[true, true, true, true, true, true, true, true, true, true, true, true, true, true, true, true, true, true, true, true, true, true, true, true, true, false, false, false, false] rfl rfl (any_of HT_.out (by kernel_rfl)) (fun _ _ _ h => h) (Or.inr ⟨by rfl, rfl⟩) ?_ ?_
                  rotate_left
                  · simp only [Act.put, List.setIfInBounds_toArray, List.set_cons_zero, List.set_cons_succ, i64_w, i32_w]
                    rfl
                  refine pure_ (i := 25) (N := some 88) (v := undef) (a' := ?_) #[true, true, true, true, true, true, true, true, true, true, true, true, true, true, true, true, true, true, true, true, true, true, true, true, true, true, false, false, false] rfl rfl (any_of HT_.out (by kernel_rfl)) (fun _ _ _ h => h) (Or.inr ⟨by rfl, rfl⟩) ?_ ?_
                  rotate_left
                  · simp only [Act.put, List.setIfInBounds_toArray, List.set_cons_zero, List.set_cons_succ, i64_w, i32_w]
                    rfl
                  refine pure_ (i := 26) (N := some 89) (v := undef) (a' := ?_) #[true, true, true, true, true, true, true, true, true, true, true, true, true, true, true, true, true, true, true, true, true, true, true, true, true, true, true, false, false] rfl rfl (any_of HT_.out (by kernel_rfl)) (fun _ _ _ h => h) (Or.inr ⟨by rfl, rfl⟩) ?_ ?_
                  rotate_left
                  · simp only [Act.put, List.setIfInBounds_toArray, List.set_cons_zero, List.set_cons_succ, i64_w, i32_w]
                    rfl
                  refine pure_ (i := 27) (N := some 90) (v := undef) (a' := ?_) #[true, true, true, true, true, true, true, true, true, true, true, true, true, true, true, true, true, true, true, true, true, true, true, true, true, true, true, true, false] rfl rfl (any_of HT_.out (by kernel_rfl)) (fun _ _ _ h => h) (Or.inr ⟨by rfl, rfl⟩) ?_ ?_
                  rotate_left
                  · simp only [Act.put, List.setIfInBounds_toArray, List.set_cons_zero, List.set_cons_succ, i64_w, i32_w]
                    rfl
                  refine pure_ (i := 28) (N := some 91) (v := ?_) (a' := ?_) #[true, true, true, true, true, true, true, true, true, true, true, true, true, true, true, true, true, true, true, true, true, true, true, true, true, true, true, true, true] rfl rfl (any_of HT_.out (by kernel_rfl)) (fun _ _ _ h => h) (Or.inl ⟨by rfl, ?_⟩) ?_ ?_
                  rotate_left
                  · intro w'
                    go_simp
                    with_reducible rfl
                  rotate_left
                  · simp only [Act.put, List.setIfInBounds_toArray, List.set_cons_zero, List.set_cons_succ, i64_w, i32_w]
                    rfl
                  refine done_ (done_of HT_.out (by kernel_rfl)) ?_
                  try go_wp2
                  go_meet
                  case rel => exact ⟨_, (true), (by first | rfl | (refine qa_int ?_; simp <;> omega)), H', ⟨by have := HJ2.out; have := HK2.out; first | omega⟩, ⟨by exact HO_348001.out⟩, ⟨by exact HO388.out⟩, ⟨by exact BK347.out⟩, ⟨by exact BK391.out⟩, ⟨by repeat (first | (with_reducible first | exact HB.out | refine below_set ?_ GE391.out))⟩⟩
              · rw [if_neg c50] at H
                have c50b0 : (t390 == 0) = false := beq_eq_false_iff_ne.mpr c50
                have c50b1 : (t390 != 0) = true := bne_iff_ne.mpr c50
                have H' := Aside0.mk H
                clear H
                try go_wp2
                have n0_ : Aside0 (Kd.R (Kd.int .u8) 5 ((w44.setCell ⟨gb391, 0, none⟩ (.int .i64 t385)).setCell ⟨gb391, 1, none⟩ (.slice Ao47 t386.length co47)) w.heap.size (fun k_ => some k_ ≠ (.slice Ao42 t382.length co42 : Value).ownBlock) u6 x6_2) := ⟨by exact Kd.R_mono (Kd.R_far (p := ⟨gb391, 1, none⟩) (Kd.R_far (p := ⟨gb391, 0, none⟩) (Kd.R_types HO_6.out BK391.out (by decide)) (fun _ hk => hk.2) (.int .i64 t385)) (fun _ hk => hk.2) (.slice Ao47 t386.length co47)) (fun _ hk => hk.1.2)⟩
                have n1_ : Aside0 (Kd.R k28 28 ((w44.setCell ⟨gb391, 0, none⟩ (.int .i64 t385)).setCell ⟨gb391, 1, none⟩ (.slice Ao47 t386.length co47)) w.heap.size (fun k_ => some k_ ≠ (.slice Ao47 t386.length co47 : Value).ownBlock) (.slice Ao40 x348001_2.length co40) x348001_2) := ⟨by exact Kd.R_mono (Kd.R_far (p := ⟨gb391, 1, none⟩) (Kd.R_far (p := ⟨gb391, 0, none⟩) (Kd.R_types HO_348001.out BK391.out (by decide)) (fun _ hk => hk.2) (.int .i64 t385)) (fun _ hk => hk.2) (.slice Ao47 t386.length co47)) (fun _ hk => hk.1.2)⟩
                have n2_ : Aside0 (Kd.R (Kd.int .u8) 5 ((w44.setCell ⟨gb391, 0, none⟩ (.int .i64 t385)).setCell ⟨gb391, 1, none⟩ (.slice Ao47 t386.length co47)) w.heap.size (fun k_ => some k_ ≠ (u6 : Value).ownBlock) (.slice Ao42 t382.length co42) t382) := ⟨by exact Kd.R_mono (Kd.R_far (p := ⟨gb391, 1, none⟩) (Kd.R_far (p := ⟨gb391, 0, none⟩) (Kd.R_types HO384.out BK391.out (by decide)) (fun _ hk => hk.2) (.int .i64 t385)) (fun _ hk => hk.2) (.slice Ao47 t386.length co47)) (fun _ hk => hk.1.2)⟩
                have n3_ : Aside0 (Kd.R k28 28 ((w44.setCell ⟨gb391, 0, none⟩ (.int .i64 t385)).setCell ⟨gb391, 1, none⟩ (.slice Ao47 t386.length co47)) w.heap.size (fun k_ => some k_ ≠ (.slice Ao40 x348001_2.length co40 : Value).ownBlock) (.slice Ao47 t386.length co47) t386) := ⟨by exact Kd.R_mono (Kd.R_far (p := ⟨gb391, 1, none⟩) (Kd.R_far (p := ⟨gb391, 0, none⟩) (Kd.R_types HO388.out BK391.out (by decide)) (fun _ hk => hk.2) (.int .i64 t385)) (fun _ hk => hk.2) (.slice Ao47 t386.length co47)) (fun _ hk => hk.1.2)⟩
                have n4_ : Aside0 (((w44.setCell ⟨gb391, 0, none⟩ (.int .i64 t385)).setCell ⟨gb391, 1, none⟩ (.slice Ao47 t386.length co47)).heap[gb347]? = some (.cells #[.int .i64 (wrap64 (Int.tmod a0 16)), .slice Ao40 x348001_2.length co40] 34 (0, 0))) := ⟨by refine blk_far ?_ NB347_391.out _; refine blk_far ?_ NB347_391.out _; exact BK347.out⟩
                have n5_ : Aside0 (((w44.setCell ⟨gb391, 0, none⟩ (.int .i64 t385)).setCell ⟨gb391, 1, none⟩ (.slice Ao47 t386.length co47)).heap[gb391]? = some (.cells #[.int .i64 t385, .slice Ao47 t386.length co47] 34 (0, 0))) := ⟨by refine blk_put (cs := #[.int .i64 t385, .slice none 0 0]) ?_ 1 _ rfl; refine blk_put (cs := #[.int .i64 0, .slice none 0 0]) ?_ 0 _ rfl; exact BK391.out⟩
                have n6_ : Aside0 (Below w.heap.size w ((w44.setCell ⟨gb391, 0, none⟩ (.int .i64 t385)).setCell ⟨gb391, 1, none⟩ (.slice Ao47 t386.length co47))) := ⟨by repeat (first | (with_reducible first | exact HB.out | refine below_set ?_ GE391.out))⟩
                (try clear HO_6)
                (try clear HO_348001)
                (try clear HO384)
                (try clear HO388)
                (try clear BK347)
                (try clear BK391)
                (try clear HB)
                generalize ((w44.setCell ⟨gb391, 0, none⟩ (.int .i64 t385)).setCell ⟨gb391, 1, none⟩ (.slice Ao47 t386.length co47)) = w68 at n0_ n1_ n2_ n3_ n4_ n5_ n6_ ⊢
                have HO_6 := n0_
                have HO_348001 := n1_
                have HO384 := n2_
                have HO388 := n3_
                have BK347 := n4_
                have BK391 := n5_
                have HB := n6_
                clear n0_ n1_ n2_ n3_ n4_ n5_ n6_
                have n0_ := Aside0.mk (Kd.R_drew HO_6.out)
                have n1_ := Aside0.mk (Kd.R_drew HO_348001.out)
                have n2_ := Aside0.mk (Kd.R_drew HO384.out)
                have n3_ := Aside0.mk (Kd.R_drew HO388.out)
                have n4_ := Aside0.mk (blk_drew BK347.out)
                have n5_ := Aside0.mk (blk_drew BK391.out)
                have n6_ := Aside0.mk (below_drew1 HB.out)
                clear HO_6
                clear HO_348001
                clear HO384
                clear HO388
                clear BK347
                clear BK391
                clear HB
                have HO_6 := n0_
                have HO_348001 := n1_
                have HO384 := n2_
                have HO388 := n3_
                have BK347 := n4_
                have BK391 := n5_
                have HB := n6_
                clear n0_ n1_ n2_ n3_ n4_ n5_ n6_
                obtain ⟨Ao70, co70, eo70⟩ := Kd.R_slice HO_6.out
                (first | subst eo70)
                refine start_ (n := 29) (S := fun w' => (convert 30 9 (.slice Ao42 t382.length co42)).run Try.prog w' = .ok (.string (strOfNums t382)) w') (ds := []) #[false, false, false, false, false, false, false, false, false, false, false, false, false, false, false, false, false, false, false, false, false, false, false, false, false, false, false, false, false] (by kernel_rfl) rfl rfl ((own_string (P := Try.prog) Try.underlying30 Try.underlying5 Try.underlying9 (Kd.own_of_R HO384.out))) (fun hHeld => ?_); refine with_tabW milestonelaw13_MessageBytes.tab12 milestonelaw13_MessageBytes.bits12 (fun HT_ HW_ => ?_)
                generalize w68.drew = w69 at HO_6 HO_348001 HO384 HO388 BK347 BK391 HB hHeld ⊢
                refine pure_ (i := 0) (N := some 63) (v := ?_) (a' := ?_) #[true, false, false, false, false, false, false, false, false, false, false, false, false, false, false, false, false, false, false, false, false, false, false, false, false, false, false, false, false] rfl rfl (any_of HT_.out (by kernel_rfl)) (fun _ _ _ h => h) (Or.inl ⟨by rfl, ?_⟩) ?_ ?_
                rotate_left
                · intro w'
                  go_simp
                  with_reducible rfl
                rotate_left
                · simp only [Act.put, List.setIfInBounds_toArray, List.set_cons_zero, List.set_cons_succ, i64_w, i32_w]
                  rfl
                refine pure_ (i := 2) (N := some 65) (v := ?_) (a' := ?_) #[true, false, true, false, false, false, false, false, false, false, false, false, false, false, false, false, false, false, false, false, false, false, false, false, false, false, false, false, false] rfl rfl (any_of HT_.out (by kernel_rfl)) (fun _ _ _ h => h) (Or.inl ⟨by rfl, ?_⟩) ?_ ?_
                rotate_left
                · intro w'
                  go_simp
                  with_reducible rfl
                rotate_left
                · simp only [Act.put, List.setIfInBounds_toArray, List.set_cons_zero, List.set_cons_succ, i64_w, i32_w]
                  rfl
                refine take_ (i := 1) (N := some 64) (v := ?_) (a' := ?_) #[true, true, true, false, false, false, false, false, false, false, false, false, false, false, false, false, false, false, false, false, false, false, false, false, false, false, false, false, false] rfl rfl (take_ofW HT_.out HW_.out (by kernel_rfl)) (fun _ _ _ h => h) (Or.inl ⟨by rfl, ?_⟩) hHeld ?_ ?_
                rotate_left
                · intro w' s0
                  go_simp
                  with_reducible rfl
                rotate_left
                · simp only [Act.put, List.setIfInBounds_toArray, List.set_cons_zero, List.set_cons_succ, i64_w, i32_w]
                  rfl
                refine one_ (i := 3) (N := some 66) #[true, true, true, true, false, false, false, false, false, false, false, false, false, false, false, false, false, false, false, false, false, false, false, false, false, false, false, false, false] rfl rfl (one_of HT_.out (by kernel_rfl)) (by decide) (fun K hK => ?_)
                refine goes_ Try.func14 (by kernel_rfl) rfl #[.slice Ao70 x6_2.length co70] (by rfl) rfl rfl (by (try simp only [List.map_toArray, List.map_cons, List.map_nil]); first | rfl) ?_
                with_reducible refine (milestonelaw13_packet.calls k2 _ _ x6_2 t392 _ ?side1 ?side2 A48.out).mono ?_
                (case side1 => repeat (first | exact (Kd.R_reads' HO_6.out).2.2 | (with_reducible refine Kd.C_drew ?_)))
                (case side2 => exact (Kd.R_reads' HO_6.out).2.1)
                rintro e w71 ⟨v393, rfl, ho0, hb⟩
                refine ⟨_, rfl, ?_⟩
                have n0_ := Aside0.mk (Kd.R_elder' (by exact HO_6.out) (Kd.R_base ho0) hb)
                have n1_ := Aside0.mk (Kd.R_below (by exact HO_348001.out) hb)
                have n2_ := Aside0.mk (Kd.R_elder' (by exact HO384.out) (Kd.R_base ho0) hb)
                have n3_ := Aside0.mk (Kd.R_below (by exact HO388.out) hb)
                have n4_ := Aside0.mk (Kd.R_lower (Kd.R_new' (Kd.R_new' ho0 (Kd.R_lt (by exact HO_6.out))) (Kd.R_lt (by exact HO384.out))) (below_size (by repeat (first | (with_reducible first | exact HB.out | refine below_set ?_ GE391.out)))))
                have n5_ := Aside0.mk (blk_below (g := gb347) (o := .cells #[.int .i64 (wrap64 (Int.tmod a0 16)), .slice Ao40 x348001_2.length co40] 34 (0, 0)) (by exact BK347.out) hb)
                have n6_ := Aside0.mk (blk_below (g := gb391) (o := .cells #[.int .i64 t385, .slice Ao47 t386.length co47] 34 (0, 0)) (by exact BK391.out) hb)
                have n7_ := Aside0.mk (below_step (by repeat (first | (with_reducible first | exact HB.out | refine below_set ?_ GE391.out))) hb)
                clear HO_6
                clear HO_348001
                clear HO384
                clear HO388
                clear BK347
                clear BK391
                clear HB
                have HO_6 := n0_
                have HO_348001 := n1_
                have HO384 := n2_
                have HO388 := n3_
                have HO394 := n4_
                have BK347 := n5_
                have BK391 := n6_
                have HB := n7_
                clear n0_ n1_ n2_ n3_ n4_ n5_ n6_ n7_
                (try clear hb)
                (try clear hb2)
                (try clear hk)
                (try clear hi)
                (try clear ho0)
                refine hK.out _ _ ((own_string (P := Try.prog) Try.underlying30 Try.underlying5 Try.underlying9 (Kd.own_of_R HO384.out))) (fun hHeld => ?_)
                clear hK K
                refine norm_ (a' := ?_) ?_ ?_
                rotate_left
                · show Act.put _ (some 66) _ = _
                  simp only [Act.put, List.setIfInBounds_toArray, List.set_cons_zero, List.set_cons_succ, i64_w, i32_w]
                  rfl
                refine one_ (i := 4) (N := some 67) #[true, true, true, true, true, false, false, false, false, false, false, false, false, false, false, false, false, false, false, false, false, false, false, false, false, false, false, false, false] rfl rfl (one_of HT_.out (by kernel_rfl)) (by decide) (fun K hK => ?_)
                have hcv72 := own_string (P := Try.prog) Try.underlying30 Try.underlying5 Try.underlying9 (Kd.own_of_R HO394.out)
                refine value_ (w1 := ?_) (v := ?_) (by rfl) rfl ?_ ?_
                rotate_left 2
                · go_simp
                  constructor
                  · rfl
                  · rfl
                clear hcv72
                refine hK.out _ _ ((own_string (P := Try.prog) Try.underlying30 Try.underlying5 Try.underlying9 (Kd.own_of_R HO384.out))) (fun hHeld => ?_)
                clear hK K
                refine norm_ (a' := ?_) ?_ ?_
                rotate_left
                · show Act.put _ (some 67) _ = _
                  simp only [Act.put, List.setIfInBounds_toArray, List.set_cons_zero, List.set_cons_succ, i64_w, i32_w]
                  rfl
                refine pure_ (i := 5) (N := some 68) (v := ?_) (a' := ?_) #[true, true, true, true, true, true, false, false, false, false, false, false, false, false, false, false, false, false, false, false, false, false, false, false, false, false, false, false, false] rfl rfl (any_of HT_.out (by kernel_rfl)) (fun _ _ _ h => h) (Or.inl ⟨by rfl, ?_⟩) ?_ ?_
                rotate_left
                · intro w'
                  go_simp
                  with_reducible rfl
                rotate_left
                · simp only [Act.put, List.setIfInBounds_toArray, List.set_cons_zero, List.set_cons_succ, i64_w, i32_w]
                  rfl
                refine pure_ (i := 6) (N := some 69) (v := ?_) (a' := ?_) #[true, true, true, true, true, true, true, false, false, false, false, false, false, false, false, false, false, false, false, false, false, false, false, false, false, false, false, false, false] rfl rfl (any_of HT_.out (by kernel_rfl)) (fun _ _ _ h => h) (Or.inl ⟨by rfl, ?_⟩) ?_ ?_
                rotate_left
                · intro w'
                  go_simp
                  with_reducible rfl
                rotate_left
                · simp only [Act.put, List.setIfInBounds_toArray, List.set_cons_zero, List.set_cons_succ, i64_w, i32_w]
                  rfl
                refine pure_ (i := 7) (N := some 70) (v := ?_) (a' := ?_) #[true, true, true, true, true, true, true, true, false, false, false, false, false, false, false, false, false, false, false, false, false, false, false, false, false, false, false, false, false] rfl rfl (any_of HT_.out (by kernel_rfl)) (fun _ _ _ h => h) (Or.inl ⟨by rfl, ?_⟩) ?_ ?_
                rotate_left
                · intro w'
                  go_simp
                  with_reducible rfl
                rotate_left
                · simp only [Act.put, List.setIfInBounds_toArray, List.set_cons_zero, List.set_cons_succ, i64_w, i32_w]
                  rfl
                refine pure_ (i := 8) (N := some 71) (v := ?_) (a' := ?_) #[true, true, true, true, true, true, true, true, true, false, false, false, false, false, false, false, false, false, false, false, false, false, false, false, false, false, false, false, false] rfl rfl (any_of HT_.out (by kernel_rfl)) (fun _ _ _ h => h) (Or.inl ⟨by rfl, ?_⟩) ?_ ?_
                rotate_left
                · intro w'
                  go_simp
                  with_reducible rfl
                rotate_left
                · simp only [Act.put, List.setIfInBounds_toArray, List.set_cons_zero, List.set_cons_succ, i64_w, i32_w]
                  rfl
                refine pure_ (i := 9) (N := some 72) (v := ?_) (a' := ?_) #[true, true, true, true, true, true, true, true, true, true, false, false, false, false, false, false, false, false, false, false, false, false, false, false, false, false, false, false, false] rfl rfl (any_of HT_.out (by kernel_rfl)) (fun _ _ _ h => h) (Or.inl ⟨by rfl, ?_⟩) ?_ ?_
                rotate_left
                · intro w'
                  go_simp
                  with_reducible rfl
                rotate_left
                · simp only [Act.put, List.setIfInBounds_toArray, List.set_cons_zero, List.set_cons_succ, i64_w, i32_w]
                  rfl
                refine pure_ (i := 10) (N := some 73) (v := ?_) (a' := ?_) #[true, true, true, true, true, true, true, true, true, true, true, false, false, false, false, false, false, false, false, false, false, false, false, false, false, false, false, false, false] rfl rfl (any_of HT_.out (by kernel_rfl)) (fun _ _ _ h => h) (Or.inl ⟨by rfl, ?_⟩) ?_ ?_
                rotate_left
                · intro w'
                  go_simp
                  with_reducible rfl
                rotate_left
                · simp only [Act.put, List.setIfInBounds_toArray, List.set_cons_zero, List.set_cons_succ, i64_w, i32_w]
                  rfl
                refine pure_ (i := 11) (N := some 74) (v := undef) (a' := ?_) #[true, true, true, true, true, true, true, true, true, true, true, true, false, false, false, false, false, false, false, false, false, false, false, false, false, false, false, false, false] rfl rfl (any_of HT_.out (by kernel_rfl)) (fun _ _ _ h => h) (Or.inr ⟨by rfl, rfl⟩) ?_ ?_
                rotate_left
                · simp only [Act.put, List.setIfInBounds_toArray, List.set_cons_zero, List.set_cons_succ, i64_w, i32_w]
                  rfl
                refine pure_ (i := 12) (N := some 75) (v := undef) (a' := ?_) #[true, true, true, true, true, true, true, true, true, true, true, true, true, false, false, false, false, false, false, false, false, false, false, false, false, false, false, false, false] rfl rfl (any_of HT_.out (by kernel_rfl)) (fun _ _ _ h => h) (Or.inr ⟨by rfl, rfl⟩) ?_ ?_
                rotate_left
                · simp only [Act.put, List.setIfInBounds_toArray, List.set_cons_zero, List.set_cons_succ, i64_w, i32_w]
                  rfl
                refine pure_ (i := 13) (N := some 76) (v := ?_) (a' := ?_) #[true, true, true, true, true, true, true, true, true, true, true, true, true, true, false, false, false, false, false, false, false, false, false, false, false, false, false, false, false] rfl rfl (any_of HT_.out (by kernel_rfl)) (fun _ _ _ h => h) (Or.inl ⟨by rfl, ?_⟩) ?_ ?_
                rotate_left
                · intro w'
                  go_simp
                  with_reducible rfl
                rotate_left
                · simp only [Act.put, List.setIfInBounds_toArray, List.set_cons_zero, List.set_cons_succ, i64_w, i32_w]
                  rfl
                refine pure_ (i := 14) (N := some 77) (v := ?_) (a' := ?_) #[true, true, true, true, true, true, true, true, true, true, true, true, true, true, true, false, false, false, false, false, false, false, false, false, false, false, false, false, false] rfl rfl (any_of HT_.out (by kernel_rfl)) (fun _ _ _ h => h) (Or.inl ⟨by rfl, ?_⟩) ?_ ?_
                rotate_left
                · intro w'
                  go_simp
                  with_reducible rfl
                rotate_left
                · simp only [Act.put, List.setIfInBounds_toArray, List.set_cons_zero, List.set_cons_succ, i64_w, i32_w]
                  rfl
                refine pure_ (i := 15) (N := some 78) (v := undef) (a' := ?_) #[true, true, true, true, true, true, true, true, true, true, true, true, true, true, true, true, false, false, false, false, false, false, false, false, false, false, false, false, false] rfl rfl (any_of HT_.out (by kernel_rfl)) (fun _ _ _ h => h) (Or.inr ⟨by rfl, rfl⟩) ?_ ?_
                rotate_left
                · simp only [Act.put, List.setIfInBounds_toArray, List.set_cons_zero, List.set_cons_succ, i64_w, i32_w]
                  rfl
                refine pure_ (i := 16) (N := some 79) (v := undef) (a' := ?_) #[true, true, true, true, true, true, true, true, true, true, true, true, true, true, true, true, true, false, false, false, false, false, false, false, false, false, false, false, false] rfl rfl (any_of HT_.out (by kernel_rfl)) (fun _ _ _ h => h) (Or.inr ⟨by rfl, rfl⟩) ?_ ?_
                rotate_left
                · simp only [Act.put, List.setIfInBounds_toArray, List.set_cons_zero, List.set_cons_succ, i64_w, i32_w]
                  rfl
                refine pure_ (i := 17) (N := some 80) (v := undef) (a' := ?_) #[true, true, true, true, true, true, true, true, true, true, true, true, true, true, true, true, true, true, false, false, false, false, false, false, false, false, false, false, false] rfl rfl (any_of HT_.out (by kernel_rfl)) (fun _ _ _ h => h) (Or.inr ⟨by rfl, rfl⟩) ?_ ?_
                rotate_left
                · simp only [Act.put, List.setIfInBounds_toArray, List.set_cons_zero, List.set_cons_succ, i64_w, i32_w]
                  rfl
                refine pure_ (i := 18) (N := some 81) (v := undef) (a' := ?_) #[true, true, true, true, true, true, true, true, true, true, true, true, true, true, true, true, true, true, true, false, false, false, false, false, false, false, false, false, false] rfl rfl (any_of HT_.out (by kernel_rfl)) (fun _ _ _ h => h) (Or.inr ⟨by rfl, rfl⟩) ?_ ?_
                rotate_left
                · simp only [Act.put, List.setIfInBounds_toArray, List.set_cons_zero, List.set_cons_succ, i64_w, i32_w]
                  rfl
                refine pure_ (i := 19) (N := some 82) (v := undef) (a' := ?_) #[true, true, true, true, true, true, true, true, true, true, true, true, true, true, true, true, true, true, true, true, false, false, false, false, false, false, false, false, false] rfl rfl (any_of HT_.out (by kernel_rfl)) (fun _ _ _ h => h) (Or.inr ⟨by rfl, rfl⟩) ?_ ?_
                rotate_left
                · simp only [Act.put, List.setIfInBounds_toArray, List.set_cons_zero, List.set_cons_succ, i64_w, i32_w]
                  rfl
                refine pure_ (i := 20) (N := some 83) (v := ?_) (a' := ?_) #[true, true, true, true, true, true, true, true, true, true, true, true, true, true, true, true, true, true, true, true, true, false, false, false, false, false, false, false, false] rfl rfl (any_of HT_.out (by kernel_rfl)) (fun _ _ _ h => h) (Or.inl ⟨by rfl, ?_⟩) ?_ ?_
                rotate_left
                · intro w'
                  go_simp
                  with_reducible rfl
                rotate_left
                · simp only [Act.put, List.setIfInBounds_toArray, List.set_cons_zero, List.set_cons_succ, i64_w, i32_w]
                  rfl
                refine pure_ (i := 21) (N := some 84) (v := ?_) (a' := ?_) #[true, true, true, true, true, true, true, true, true, true, true, true, true, true, true, true, true, true, true, true, true, true, false, false, false, false, false, false, false] rfl rfl (any_of HT_.out (by kernel_rfl)) (fun _ _ _ h => h) (Or.inl ⟨by rfl, ?_⟩) ?_ ?_
                rotate_left
                · intro w'
                  go_simp
                  with_reducible rfl
                rotate_left
                · simp only [Act.put, List.setIfInBounds_toArray, List.set_cons_zero, List.set_cons_succ, i64_w, i32_w]
                  rfl
                refine pure_ (i := 22) (N := some 85) (v := undef) (a' := ?_) #[true, true, true, true, true, true, true, true, true, true, true, true, true, true, true, true, true, true, true, true, true, true, true, false, false, false, false, false, false] rfl rfl (any_of HT_.out (by kernel_rfl)) (fun _ _ _ h => h) (Or.inr ⟨by rfl, rfl⟩) ?_ ?_
                rotate_left
                · simp only [Act.put, List.setIfInBounds_toArray, List.set_cons_zero, List.set_cons_succ, i64_w, i32_w]
                  rfl
                refine pure_ (i := 23) (N := some 86) (v := undef) (a' := ?_) #[true, true, true, true, true, true, true, true, true, true, true, true, true, true, true, true, true, true, true, true, true, true, true, true, false, false, false, false, false] rfl rfl (any_of HT_.out (by kernel_rfl)) (fun _ _ _ h => h) (Or.inr ⟨by rfl, rfl⟩) ?_ ?_
                rotate_left
                · simp only [Act.put, List.setIfInBounds_toArray, List.set_cons_zero, List.set_cons_succ, i64_w, i32_w]
                  rfl
                refine pure_ (i := 24) (N := some 87) (v := undef) (a' := ?_) #[true, true, true, true, true, true, true, true, true, true, true, true, true, true, true, true, true, true, true, true, true, true, true, true, true, false, false, false, false] rfl rfl (any_of HT_.out (by kernel_rfl)) (fun _ _ _ h => h) (Or.inr ⟨by rfl, rfl⟩) ?_ ?_
                rotate_left
                · simp only [Act.put, List.setIfInBounds_toArray, List.set_cons_zero, List.set_cons_succ, i64_w, i32_w]
                  rfl
                refine pure_ (i := 25) (N := some 88) (v := undef) (a' := ?_) #[true, true, true, true, true, true, true, true, true, true, true, true, true, true, true, true, true, true, true, true, true, true, true, true, true, true, false, false, false] rfl rfl (any_of HT_.out (by kernel_rfl)) (fun _ _ _ h => h) (Or.inr ⟨by rfl, rfl⟩) ?_ ?_
                rotate_left
                · simp only [Act.put, List.setIfInBounds_toArray, List.set_cons_zero, List.set_cons_succ, i64_w, i32_w]
                  rfl
                refine pure_ (i := 26) (N := some 89) (v := undef) (a' := ?_) #[true, true, true, true, true, true, true, true, true, true, true, true, true, true, true, true, true, true, true, true, true, true, true, true, true, true, true, false, false] rfl rfl (any_of HT_.out (by kernel_rfl)) (fun _ _ _ h => h) (Or.inr ⟨by rfl, rfl⟩) ?_ ?_
                rotate_left
                · simp only [Act.put, List.setIfInBounds_toArray, List.set_cons_zero, List.set_cons_succ, i64_w, i32_w]
                  rfl
                refine pure_ (i := 27) (N := some 90) (v := undef) (a' := ?_) #[true, true, true, true, true, true, true, true, true, true, true, true, true, true, true, true, true, true, true, true, true, true, true, true, true, true, true, true, false] rfl rfl (any_of HT_.out (by kernel_rfl)) (fun _ _ _ h => h) (Or.inr ⟨by rfl, rfl⟩) ?_ ?_
                rotate_left
                · simp only [Act.put, List.setIfInBounds_toArray, List.set_cons_zero, List.set_cons_succ, i64_w, i32_w]
                  rfl
                refine pure_ (i := 28) (N := some 91) (v := ?_) (a' := ?_) #[true, true, true, true, true, true, true, true, true, true, true, true, true, true, true, true, true, true, true, true, true, true, true, true, true, true, true, true, true] rfl rfl (any_of HT_.out (by kernel_rfl)) (fun _ _ _ h => h) (Or.inl ⟨by rfl, ?_⟩) ?_ ?_
                rotate_left
                · intro w'
                  go_simp
                  with_reducible rfl
                rotate_left
                · simp only [Act.put, List.setIfInBounds_toArray, List.set_cons_zero, List.set_cons_succ, i64_w, i32_w]
                  rfl
                refine done_ (done_of HT_.out (by kernel_rfl)) ?_
                try go_wp2
                go_meet
                case rel => exact ⟨_, (true), (by first | rfl | (refine qa_int ?_; simp <;> omega)), H', ⟨by have := HJ2.out; have := HK2.out; first | omega⟩, ⟨by exact HO_348001.out⟩, ⟨by exact HO388.out⟩, ⟨by exact BK347.out⟩, ⟨by exact BK391.out⟩, ⟨by repeat (first | (with_reducible first | exact HB.out | refine below_set ?_ GE391.out))⟩⟩
            · rw [if_neg c49] at H
              have c49b0 : ((strOfNums t382).toList == (strOfNums t392).toList) = false := beq_eq_false_iff_ne.mpr c49
              have c49b1 : ((strOfNums t382).toList != (strOfNums t392).toList) = true := bne_iff_ne.mpr c49
              (first | skip)
              have H' := Aside0.mk H
              clear H
              try go_wp2
              have n0_ : Aside0 (Kd.R (Kd.int .u8) 5 ((w44.setCell ⟨gb391, 0, none⟩ (.int .i64 t385)).setCell ⟨gb391, 1, none⟩ (.slice Ao47 t386.length co47)) w.heap.size (fun k_ => some k_ ≠ (.slice Ao42 t382.length co42 : Value).ownBlock) u6 x6_2) := ⟨by exact Kd.R_mono (Kd.R_far (p := ⟨gb391, 1, none⟩) (Kd.R_far (p := ⟨gb391, 0, none⟩) (Kd.R_types HO_6.out BK391.out (by decide)) (fun _ hk => hk.2) (.int .i64 t385)) (fun _ hk => hk.2) (.slice Ao47 t386.length co47)) (fun _ hk => hk.1.2)⟩
              have n1_ : Aside0 (Kd.R k28 28 ((w44.setCell ⟨gb391, 0, none⟩ (.int .i64 t385)).setCell ⟨gb391, 1, none⟩ (.slice Ao47 t386.length co47)) w.heap.size (fun k_ => some k_ ≠ (.slice Ao47 t386.length co47 : Value).ownBlock) (.slice Ao40 x348001_2.length co40) x348001_2) := ⟨by exact Kd.R_mono (Kd.R_far (p := ⟨gb391, 1, none⟩) (Kd.R_far (p := ⟨gb391, 0, none⟩) (Kd.R_types HO_348001.out BK391.out (by decide)) (fun _ hk => hk.2) (.int .i64 t385)) (fun _ hk => hk.2) (.slice Ao47 t386.length co47)) (fun _ hk => hk.1.2)⟩
              have n2_ : Aside0 (Kd.R (Kd.int .u8) 5 ((w44.setCell ⟨gb391, 0, none⟩ (.int .i64 t385)).setCell ⟨gb391, 1, none⟩ (.slice Ao47 t386.length co47)) w.heap.size (fun k_ => some k_ ≠ (u6 : Value).ownBlock) (.slice Ao42 t382.length co42) t382) := ⟨by exact Kd.R_mono (Kd.R_far (p := ⟨gb391, 1, none⟩) (Kd.R_far (p := ⟨gb391, 0, none⟩) (Kd.R_types HO384.out BK391.out (by decide)) (fun _ hk => hk.2) (.int .i64 t385)) (fun _ hk => hk.2) (.slice Ao47 t386.length co47)) (fun _ hk => hk.1.2)⟩
              have n3_ : Aside0 (Kd.R k28 28 ((w44.setCell ⟨gb391, 0, none⟩ (.int .i64 t385)).setCell ⟨gb391, 1, none⟩ (.slice Ao47 t386.length co47)) w.heap.size (fun k_ => some k_ ≠ (.slice Ao40 x348001_2.length co40 : Value).ownBlock) (.slice Ao47 t386.length co47) t386) := ⟨by exact Kd.R_mono (Kd.R_far (p := ⟨gb391, 1, none⟩) (Kd.R_far (p := ⟨gb391, 0, none⟩) (Kd.R_types HO388.out BK391.out (by decide)) (fun _ hk => hk.2) (.int .i64 t385)) (fun _ hk => hk.2) (.slice Ao47 t386.length co47)) (fun _ hk => hk.1.2)⟩
              have n4_ : Aside0 (((w44.setCell ⟨gb391, 0, none⟩ (.int .i64 t385)).setCell ⟨gb391, 1, none⟩ (.slice Ao47 t386.length co47)).heap[gb347]? = some (.cells #[.int .i64 (wrap64 (Int.tmod a0 16)), .slice Ao40 x348001_2.length co40] 34 (0, 0))) := ⟨by refine blk_far ?_ NB347_391.out _; refine blk_far ?_ NB347_391.out _; exact BK347.out⟩
              have n5_ : Aside0 (((w44.setCell ⟨gb391, 0, none⟩ (.int .i64 t385)).setCell ⟨gb391, 1, none⟩ (.slice Ao47 t386.length co47)).heap[gb391]? = some (.cells #[.int .i64 t385, .slice Ao47 t386.length co47] 34 (0, 0))) := ⟨by refine blk_put (cs := #[.int .i64 t385, .slice none 0 0]) ?_ 1 _ rfl; refine blk_put (cs := #[.int .i64 0, .slice none 0 0]) ?_ 0 _ rfl; exact BK391.out⟩
              have n6_ : Aside0 (Below w.heap.size w ((w44.setCell ⟨gb391, 0, none⟩ (.int .i64 t385)).setCell ⟨gb391, 1, none⟩ (.slice Ao47 t386.length co47))) := ⟨by repeat (first | (with_reducible first | exact HB.out | refine below_set ?_ GE391.out))⟩
              (try clear HO_6)
              (try clear HO_348001)
              (try clear HO384)
              (try clear HO388)
              (try clear BK347)
              (try clear BK391)
              (try clear HB)
              generalize ((w44.setCell ⟨gb391, 0, none⟩ (.int .i64 t385)).setCell ⟨gb391, 1, none⟩ (.slice Ao47 t386.length co47)) = w73 at n0_ n1_ n2_ n3_ n4_ n5_ n6_ ⊢
              have HO_6 := n0_
              have HO_348001 := n1_
              have HO384 := n2_
              have HO388 := n3_
              have BK347 := n4_
              have BK391 := n5_
              have HB := n6_
              clear n0_ n1_ n2_ n3_ n4_ n5_ n6_
              have n0_ := Aside0.mk (Kd.R_drew HO_6.out)
              have n1_ := Aside0.mk (Kd.R_drew HO_348001.out)
              have n2_ := Aside0.mk (Kd.R_drew HO384.out)
              have n3_ := Aside0.mk (Kd.R_drew HO388.out)
              have n4_ := Aside0.mk (blk_drew BK347.out)
              have n5_ := Aside0.mk (blk_drew BK391.out)
              have n6_ := Aside0.mk (below_drew1 HB.out)
              clear HO_6
              clear HO_348001
              clear HO384
              clear HO388
              clear BK347
              clear BK391
              clear HB
              have HO_6 := n0_
              have HO_348001 := n1_
              have HO384 := n2_
              have HO388 := n3_
              have BK347 := n4_
              have BK391 := n5_
              have HB := n6_
              clear n0_ n1_ n2_ n3_ n4_ n5_ n6_
              obtain ⟨Ao75, co75, eo75⟩ := Kd.R_slice HO_6.out
              (first | subst eo75)
              refine start_ (n := 29) (S := fun w' => (convert 30 9 (.slice Ao42 t382.length co42)).run Try.prog w' = .ok (.string (strOfNums t382)) w') (ds := []) #[false, false, false, false, false, false, false, false, false, false, false, false, false, false, false, false, false, false, false, false, false, false, false, false, false, false, false, false, false] (by kernel_rfl) rfl rfl ((own_string (P := Try.prog) Try.underlying30 Try.underlying5 Try.underlying9 (Kd.own_of_R HO384.out))) (fun hHeld => ?_); refine with_tabW milestonelaw13_MessageBytes.tab12 milestonelaw13_MessageBytes.bits12 (fun HT_ HW_ => ?_)
              generalize w73.drew = w74 at HO_6 HO_348001 HO384 HO388 BK347 BK391 HB hHeld ⊢
              refine pure_ (i := 0) (N := some 63) (v := ?_) (a' := ?_) #[true, false, false, false, false, false, false, false, false, false, false, false, false, false, false, false, false, false, false, false, false, false, false, false, false, false, false, false, false] rfl rfl (any_of HT_.out (by kernel_rfl)) (fun _ _ _ h => h) (Or.inl ⟨by rfl, ?_⟩) ?_ ?_
              rotate_left
              · intro w'
                go_simp
                with_reducible rfl
              rotate_left
              · simp only [Act.put, List.setIfInBounds_toArray, List.set_cons_zero, List.set_cons_succ, i64_w, i32_w]
                rfl
              refine pure_ (i := 2) (N := some 65) (v := ?_) (a' := ?_) #[true, false, true, false, false, false, false, false, false, false, false, false, false, false, false, false, false, false, false, false, false, false, false, false, false, false, false, false, false] rfl rfl (any_of HT_.out (by kernel_rfl)) (fun _ _ _ h => h) (Or.inl ⟨by rfl, ?_⟩) ?_ ?_
              rotate_left
              · intro w'
                go_simp
                with_reducible rfl
              rotate_left
              · simp only [Act.put, List.setIfInBounds_toArray, List.set_cons_zero, List.set_cons_succ, i64_w, i32_w]
                rfl
              refine take_ (i := 1) (N := some 64) (v := ?_) (a' := ?_) #[true, true, true, false, false, false, false, false, false, false, false, false, false, false, false, false, false, false, false, false, false, false, false, false, false, false, false, false, false] rfl rfl (take_ofW HT_.out HW_.out (by kernel_rfl)) (fun _ _ _ h => h) (Or.inl ⟨by rfl, ?_⟩) hHeld ?_ ?_
              rotate_left
              · intro w' s0
                go_simp
                with_reducible rfl
              rotate_left
              · simp only [Act.put, List.setIfInBounds_toArray, List.set_cons_zero, List.set_cons_succ, i64_w, i32_w]
                rfl
              refine one_ (i := 3) (N := some 66) #[true, true, true, true, false, false, false, false, false, false, false, false, false, false, false, false, false, false, false, false, false, false, false, false, false, false, false, false, false] rfl rfl (one_of HT_.out (by kernel_rfl)) (by decide) (fun K hK => ?_)
              refine goes_ Try.func14 (by kernel_rfl) rfl #[.slice Ao75 x6_2.length co75] (by rfl) rfl rfl (by (try simp only [List.map_toArray, List.map_cons, List.map_nil]); first | rfl) ?_
              with_reducible refine (milestonelaw13_packet.calls k2 _ _ x6_2 t392 _ ?side1 ?side2 A48.out).mono ?_
              (case side1 => repeat (first | exact (Kd.R_reads' HO_6.out).2.2 | (with_reducible refine Kd.C_drew ?_)))
              (case side2 => exact (Kd.R_reads' HO_6.out).2.1)
              rintro e w76 ⟨v393, rfl, ho0, hb⟩
              refine ⟨_, rfl, ?_⟩
              have n0_ := Aside0.mk (Kd.R_elder' (by exact HO_6.out) (Kd.R_base ho0) hb)
              have n1_ := Aside0.mk (Kd.R_below (by exact HO_348001.out) hb)
              have n2_ := Aside0.mk (Kd.R_elder' (by exact HO384.out) (Kd.R_base ho0) hb)
              have n3_ := Aside0.mk (Kd.R_below (by exact HO388.out) hb)
              have n4_ := Aside0.mk (Kd.R_lower (Kd.R_new' (Kd.R_new' ho0 (Kd.R_lt (by exact HO_6.out))) (Kd.R_lt (by exact HO384.out))) (below_size (by repeat (first | (with_reducible first | exact HB.out | refine below_set ?_ GE391.out)))))
              have n5_ := Aside0.mk (blk_below (g := gb347) (o := .cells #[.int .i64 (wrap64 (Int.tmod a0 16)), .slice Ao40 x348001_2.length co40] 34 (0, 0)) (by exact BK347.out) hb)
              have n6_ := Aside0.mk (blk_below (g := gb391) (o := .cells #[.int .i64 t385, .slice Ao47 t386.length co47] 34 (0, 0)) (by exact BK391.out) hb)
              have n7_ := Aside0.mk (below_step (by repeat (first | (with_reducible first | exact HB.out | refine below_set ?_ GE391.out))) hb)
              clear HO_6
              clear HO_348001
              clear HO384
              clear HO388
              clear BK347
              clear BK391
              clear HB
              have HO_6 := n0_
              have HO_348001 := n1_
              have HO384 := n2_
              have HO388 := n3_
              have HO394 := n4_
              have BK347 := n5_
              have BK391 := n6_
              have HB := n7_
              clear n0_ n1_ n2_ n3_ n4_ n5_ n6_ n7_
              (try clear hb)
              (try clear hb2)
              (try clear hk)
              (try clear hi)
              (try clear ho0)
              refine hK.out _ _ ((own_string (P := Try.prog) Try.underlying30 Try.underlying5 Try.underlying9 (Kd.own_of_R HO384.out))) (fun hHeld => ?_)
              clear hK K
              refine norm_ (a' := ?_) ?_ ?_
              rotate_left
              · show Act.put _ (some 66) _ = _
                simp only [Act.put, List.setIfInBounds_toArray, List.set_cons_zero, List.set_cons_succ, i64_w, i32_w]
                rfl
              refine one_ (i := 4) (N := some 67) #[true, true, true, true, true, false, false, false, false, false, false, false, false, false, false, false, false, false, false, false, false, false, false, false, false, false, false, false, false] rfl rfl (one_of HT_.out (by kernel_rfl)) (by decide) (fun K hK => ?_)
              have hcv77 := own_string (P := Try.prog) Try.underlying30 Try.underlying5 Try.underlying9 (Kd.own_of_R HO394.out)
              refine value_ (w1 := ?_) (v := ?_) (by rfl) rfl ?_ ?_
              rotate_left 2
              · go_simp
                constructor
                · rfl
                · rfl
              clear hcv77
              refine hK.out _ _ ((own_string (P := Try.prog) Try.underlying30 Try.underlying5 Try.underlying9 (Kd.own_of_R HO384.out))) (fun hHeld => ?_)
              clear hK K
              refine norm_ (a' := ?_) ?_ ?_
              rotate_left
              · show Act.put _ (some 67) _ = _
                simp only [Act.put, List.setIfInBounds_toArray, List.set_cons_zero, List.set_cons_succ, i64_w, i32_w]
                rfl
              refine pure_ (i := 5) (N := some 68) (v := ?_) (a' := ?_) #[true, true, true, true, true, true, false, false, false, false, false, false, false, false, false, false, false, false, false, false, false, false, false, false, false, false, false, false, false] rfl rfl (any_of HT_.out (by kernel_rfl)) (fun _ _ _ h => h) (Or.inl ⟨by rfl, ?_⟩) ?_ ?_
              rotate_left
              · intro w'
                go_simp
                with_reducible rfl
              rotate_left
              · simp only [Act.put, List.setIfInBounds_toArray, List.set_cons_zero, List.set_cons_succ, i64_w, i32_w]
                rfl
              refine pure_ (i := 6) (N := some 69) (v := ?_) (a' := ?_) #[true, true, true, true, true, true, true, false, false, false, false, false, false, false, false, false, false, false, false, false, false, false, false, false, false, false, false, false, false] rfl rfl (any_of HT_.out (by kernel_rfl)) (fun _ _ _ h => h) (Or.inl ⟨by rfl, ?_⟩) ?_ ?_
              rotate_left
              · intro w'
                go_simp
                with_reducible rfl
              rotate_left
              · simp only [Act.put, List.setIfInBounds_toArray, List.set_cons_zero, List.set_cons_succ, i64_w, i32_w]
                rfl
              refine pure_ (i := 7) (N := some 70) (v := undef) (a' := ?_) #[true, true, true, true, true, true, true, true, false, false, false, false, false, false, false, false, false, false, false, false, false, false, false, false, false, false, false, false, false] rfl rfl (any_of HT_.out (by kernel_rfl)) (fun _ _ _ h => h) (Or.inr ⟨by rfl, rfl⟩) ?_ ?_
              rotate_left
              · simp only [Act.put, List.setIfInBounds_toArray, List.set_cons_zero, List.set_cons_succ, i64_w, i32_w]
                rfl
              refine pure_ (i := 8) (N := some 71) (v := undef) (a' := ?_) #[true, true, true, true, true, true, true, true, true, false, false, false, false, false, false, false, false, false, false, false, false, false, false, false, false, false, false, false, false] rfl rfl (any_of HT_.out (by kernel_rfl)) (fun _ _ _ h => h) (Or.inr ⟨by rfl, rfl⟩) ?_ ?_
              rotate_left
              · simp only [Act.put, List.setIfInBounds_toArray, List.set_cons_zero, List.set_cons_succ, i64_w, i32_w]
                rfl
              refine pure_ (i := 9) (N := some 72) (v := ?_) (a' := ?_) #[true, true, true, true, true, true, true, true, true, true, false, false, false, false, false, false, false, false, false, false, false, false, false, false, false, false, false, false, false] rfl rfl (any_of HT_.out (by kernel_rfl)) (fun _ _ _ h => h) (Or.inl ⟨by rfl, ?_⟩) ?_ ?_
              rotate_left
              · intro w'
                go_simp
                with_reducible rfl
              rotate_left
              · simp only [Act.put, List.setIfInBounds_toArray, List.set_cons_zero, List.set_cons_succ, i64_w, i32_w]
                rfl
              refine pure_ (i := 10) (N := some 73) (v := ?_) (a' := ?_) #[true, true, true, true, true, true, true, true, true, true, true, false, false, false, false, false, false, false, false, false, false, false, false, false, false, false, false, false, false] rfl rfl (any_of HT_.out (by kernel_rfl)) (fun _ _ _ h => h) (Or.inl ⟨by rfl, ?_⟩) ?_ ?_
              rotate_left
              · intro w'
                go_simp
                with_reducible rfl
              rotate_left
              · simp only [Act.put, List.setIfInBounds_toArray, List.set_cons_zero, List.set_cons_succ, i64_w, i32_w]
                rfl
              refine pure_ (i := 11) (N := some 74) (v := undef) (a' := ?_) #[true, true, true, true, true, true, true, true, true, true, true, true, false, false, false, false, false, false, false, false, false, false, false, false, false, false, false, false, false] rfl rfl (any_of HT_.out (by kernel_rfl)) (fun _ _ _ h => h) (Or.inr ⟨by rfl, rfl⟩) ?_ ?_
              rotate_left
              · simp only [Act.put, List.setIfInBounds_toArray, List.set_cons_zero, List.set_cons_succ, i64_w, i32_w]
                rfl
              refine pure_ (i := 12) (N := some 75) (v := undef) (a' := ?_) #[true, true, true, true, true, true, true, true, true, true, true, true, true, false, false, false, false, false, false, false, false, false, false, false, false, false, false, false, false] rfl rfl (any_of HT_.out (by kernel_rfl)) (fun _ _ _ h => h) (Or.inr ⟨by rfl, rfl⟩) ?_ ?_
              rotate_left
              · simp only [Act.put, List.setIfInBounds_toArray, List.set_cons_zero, List.set_cons_succ, i64_w, i32_w]
                rfl
              refine pure_ (i := 13) (N := some 76) (v := ?_) (a' := ?_) #[true, true, true, true, true, true, true, true, true, true, true, true, true, true, false, false, false, false, false, false, false, false, false, false, false, false, false, false, false] rfl rfl (any_of HT_.out (by kernel_rfl)) (fun _ _ _ h => h) (Or.inl ⟨by rfl, ?_⟩) ?_ ?_
              rotate_left
              · intro w'
                go_simp
                with_reducible rfl
              rotate_left
              · simp only [Act.put, List.setIfInBounds_toArray, List.set_cons_zero, List.set_cons_succ, i64_w, i32_w]
                rfl
              refine pure_ (i := 14) (N := some 77) (v := ?_) (a' := ?_) #[true, true, true, true, true, true, true, true, true, true, true, true, true, true, true, false, false, false, false, false, false, false, false, false, false, false, false, false, false] rfl rfl (any_of HT_.out (by kernel_rfl)) (fun _ _ _ h => h) (Or.inl ⟨by rfl, ?_⟩) ?_ ?_
              rotate_left
              · intro w'
                go_simp
                with_reducible rfl
              rotate_left
              · simp only [Act.put, List.setIfInBounds_toArray, List.set_cons_zero, List.set_cons_succ, i64_w, i32_w]
                rfl
              refine pure_ (i := 15) (N := some 78) (v := undef) (a' := ?_) #[true, true, true, true, true, true, true, true, true, true, true, true, true, true, true, true, false, false, false, false, false, false, false, false, false, false, false, false, false] rfl rfl (any_of HT_.out (by kernel_rfl)) (fun _ _ _ h => h) (Or.inr ⟨by rfl, rfl⟩) ?_ ?_
              rotate_left
              · simp only [Act.put, List.setIfInBounds_toArray, List.set_cons_zero, List.set_cons_succ, i64_w, i32_w]
                rfl
              refine pure_ (i := 16) (N := some 79) (v := undef) (a' := ?_) #[true, true, true, true, true, true, true, true, true, true, true, true, true, true, true, true, true, false, false, false, false, false, false, false, false, false, false, false, false] rfl rfl (any_of HT_.out (by kernel_rfl)) (fun _ _ _ h => h) (Or.inr ⟨by rfl, rfl⟩) ?_ ?_
              rotate_left
              · simp only [Act.put, List.setIfInBounds_toArray, List.set_cons_zero, List.set_cons_succ, i64_w, i32_w]
                rfl
              refine pure_ (i := 17) (N := some 80) (v := undef) (a' := ?_) #[true, true, true, true, true, true, true, true, true, true, true, true, true, true, true, true, true, true, false, false, false, false, false, false, false, false, false, false, false] rfl rfl (any_of HT_.out (by kernel_rfl)) (fun _ _ _ h => h) (Or.inr ⟨by rfl, rfl⟩) ?_ ?_
              rotate_left
              · simp only [Act.put, List.setIfInBounds_toArray, List.set_cons_zero, List.set_cons_succ, i64_w, i32_w]
                rfl
              refine pure_ (i := 18) (N := some 81) (v := undef) (a' := ?_) #[true, true, true, true, true, true, true, true, true, true, true, true, true, true, true, true, true, true, true, false, false, false, false, false, false, false, false, false, false] rfl rfl (any_of HT_.out (by kernel_rfl)) (fun _ _ _ h => h) (Or.inr ⟨by rfl, rfl⟩) ?_ ?_
              rotate_left
              · simp only [Act.put, List.setIfInBounds_toArray, List.set_cons_zero, List.set_cons_succ, i64_w, i32_w]
                rfl
              refine pure_ (i := 19) (N := some 82) (v := undef) (a' := ?_) #[true, true, true, true, true, true, true, true, true, true, true, true, true, true, true, true, true, true, true, true, false, false, false, false, false, false, false, false, false] rfl rfl (any_of HT_.out (by kernel_rfl)) (fun _ _ _ h => h) (Or.inr ⟨by rfl, rfl⟩) ?_ ?_
              rotate_left
              · simp only [Act.put, List.setIfInBounds_toArray, List.set_cons_zero, List.set_cons_succ, i64_w, i32_w]
                rfl
              refine pure_ (i := 20) (N := some 83) (v := ?_) (a' := ?_) #[true, true, true, true, true, true, true, true, true, true, true, true, true, true, true, true, true, true, true, true, true, false, false, false, false, false, false, false, false] rfl rfl (any_of HT_.out (by kernel_rfl)) (fun _ _ _ h => h) (Or.inl ⟨by rfl, ?_⟩) ?_ ?_
              rotate_left
              · intro w'
                go_simp
                with_reducible rfl
              rotate_left
              · simp only [Act.put, List.setIfInBounds_toArray, List.set_cons_zero, List.set_cons_succ, i64_w, i32_w]
                rfl
              refine pure_ (i := 21) (N := some 84) (v := ?_) (a' := ?_) #[true, true, true, true, true, true, true, true, true, true, true, true, true, true, true, true, true, true, true, true, true, true, false, false, false, false, false, false, false] rfl rfl (any_of HT_.out (by kernel_rfl)) (fun _ _ _ h => h) (Or.inl ⟨by rfl, ?_⟩) ?_ ?_
              rotate_left
              · intro w'
                go_simp
                with_reducible rfl
              rotate_left
              · simp only [Act.put, List.setIfInBounds_toArray, List.set_cons_zero, List.set_cons_succ, i64_w, i32_w]
                rfl
              refine pure_ (i := 22) (N := some 85) (v := undef) (a' := ?_) #[true, true, true, true, true, true, true, true, true, true, true, true, true, true, true, true, true, true, true, true, true, true, true, false, false, false, false, false, false] rfl rfl (any_of HT_.out (by kernel_rfl)) (fun _ _ _ h => h) (Or.inr ⟨by rfl, rfl⟩) ?_ ?_
              rotate_left
              · simp only [Act.put, List.setIfInBounds_toArray, List.set_cons_zero, List.set_cons_succ, i64_w, i32_w]
                rfl
              refine pure_ (i := 23) (N := some 86) (v := undef) (a' := ?_) #[true, true, true, true, true, true, true, true, true, true, true, true, true, true, true, true, true, true, true, true, true, true, true, true, false, false, false, false, false] rfl rfl (any_of HT_.out (by kernel_rfl)) (fun _ _ _ h => h) (Or.inr ⟨by rfl, rfl⟩) ?_ ?_
              rotate_left
              · simp only [Act.put, List.setIfInBounds_toArray, List.set_cons_zero, List.set_cons_succ, i64_w, i32_w]
                rfl
              refine pure_ (i := 24) (N := some 87) (v := undef) (a' := ?_) #[true, true, true, true, true, true, true, true, true, true, true, true, true, true, true, true, true, true, true, true, true, true, true, true, true, false, false, false, false] rfl rfl (any_of HT_.out (by kernel_rfl)) (fun _ _ _ h => h) (Or.inr ⟨by rfl, rfl⟩) ?_ ?_
              rotate_left
              · simp only [Act.put, List.setIfInBounds_toArray, List.set_cons_zero, List.set_cons_succ, i64_w, i32_w]
                rfl
              refine pure_ (i := 25) (N := some 88) (v := undef) (a' := ?_) #[true, true, true, true, true, true, true, true, true, true, true, true, true, true, true, true, true, true, true, true, true, true, true, true, true, true, false, false, false] rfl rfl (any_of HT_.out (by kernel_rfl)) (fun _ _ _ h => h) (Or.inr ⟨by rfl, rfl⟩) ?_ ?_
              rotate_left
              · simp only [Act.put, List.setIfInBounds_toArray, List.set_cons_zero, List.set_cons_succ, i64_w, i32_w]
                rfl
              refine pure_ (i := 26) (N := some 89) (v := undef) (a' := ?_) #[true, true, true, true, true, true, true, true, true, true, true, true, true, true, true, true, true, true, true, true, true, true, true, true, true, true, true, false, false] rfl rfl (any_of HT_.out (by kernel_rfl)) (fun _ _ _ h => h) (Or.inr ⟨by rfl, rfl⟩) ?_ ?_
              rotate_left
              · simp only [Act.put, List.setIfInBounds_toArray, List.set_cons_zero, List.set_cons_succ, i64_w, i32_w]
                rfl
              refine pure_ (i := 27) (N := some 90) (v := undef) (a' := ?_) #[true, true, true, true, true, true, true, true, true, true, true, true, true, true, true, true, true, true, true, true, true, true, true, true, true, true, true, true, false] rfl rfl (any_of HT_.out (by kernel_rfl)) (fun _ _ _ h => h) (Or.inr ⟨by rfl, rfl⟩) ?_ ?_
              rotate_left
              · simp only [Act.put, List.setIfInBounds_toArray, List.set_cons_zero, List.set_cons_succ, i64_w, i32_w]
                rfl
              refine pure_ (i := 28) (N := some 91) (v := ?_) (a' := ?_) #[true, true, true, true, true, true, true, true, true, true, true, true, true, true, true, true, true, true, true, true, true, true, true, true, true, true, true, true, true] rfl rfl (any_of HT_.out (by kernel_rfl)) (fun _ _ _ h => h) (Or.inl ⟨by rfl, ?_⟩) ?_ ?_
              rotate_left
              · intro w'
                go_simp
                with_reducible rfl
              rotate_left
              · simp only [Act.put, List.setIfInBounds_toArray, List.set_cons_zero, List.set_cons_succ, i64_w, i32_w]
                rfl
              refine done_ (done_of HT_.out (by kernel_rfl)) ?_
              try go_wp2
              go_meet
              case rel => exact ⟨_, (true), (by first | rfl | (refine qa_int ?_; simp <;> omega)), H', ⟨by have := HJ2.out; have := HK2.out; first | omega⟩, ⟨by exact HO_348001.out⟩, ⟨by exact HO388.out⟩, ⟨by exact BK347.out⟩, ⟨by exact BK391.out⟩, ⟨by repeat (first | (with_reducible first | exact HB.out | refine below_set ?_ GE391.out))⟩⟩
           case rest =>
            clear HC38
            try clear c1
            try clear p2
            try clear c4
            try clear c5
            try clear p6
            try clear hcv7
            try clear c14
            try clear c49
            try clear c49b0
            try clear c49b1
            try clear c50
            try clear c50b0
            try clear c50b1
            try clear p64
            try clear hcv72
            try clear hcv77
            obtain ⟨kq, x91_37, rfl, HA, HJ37, HO_348001, HO_392001, BK347, BK391, HB⟩ := hcut
            cases kq with
            | zero => exact absurd HA.out (by simp [milestonelaw13_MessageBytes.j2])
            | succ kj37 =>
             have H := HA.out
             clear HA
             simp only [milestonelaw13_MessageBytes.j2] at H
             by_cases c78 : x91_37 = true
             · subst c78
               have H1 : (some false) = some r := by rw [if_pos rfl] at H; exact H
               clear H
               have H := H1
               clear H1
               obtain rfl := Option.some.inj H
               exact absurd HT.out (by decide)
             · replace c78 := Bool.eq_false_iff.mpr c78
               subst c78
               have H1 : (milestonelaw13_MessageBytes.l1 kj37 l1 0 t385 t386) = some r := by rw [if_neg (show ¬ (false = true) by decide)] at H; exact H
               clear H
               have H := H1
               clear H1
               have H' := Aside0.mk H
               clear H
               go_wp2
               go_loopg [12] kj37 (fun kq v12 w' => ∃ (x12_4 : Int), v12 = .int .i64 x12_4 ∧ Aside0 (milestonelaw13_MessageBytes.l1 kq l1 x12_4 t385 t386 = some r) ∧ Aside0 (kq ≤ kj37) ∧ Aside0 (Kd.R k28 28 w' w.heap.size (fun k_ => some k_ ≠ ((.slice Ao47 t386.length co47) : Value).ownBlock) (.slice Ao40 x348001_2.length co40) x348001_2) ∧ Aside0 (Kd.R k28 28 w' w.heap.size (fun k_ => some k_ ≠ ((.slice Ao40 x348001_2.length co40) : Value).ownBlock) (.slice Ao47 t386.length co47) t386) ∧ Aside0 (w'.heap[gb347]? = some (.cells #[.int .i64 (wrap64 (Int.tmod a0 16)), (.slice Ao40 x348001_2.length co40)] 34 (0, 0))) ∧ Aside0 (w'.heap[gb391]? = some (.cells #[.int .i64 t385, (.slice Ao47 t386.length co47)] 34 (0, 0))) ∧ Aside0 (Below w.heap.size w w'))
               case atStart => exact ⟨(0), (by first | rfl | (refine qa_int ?_; simp <;> omega)), H', ⟨Nat.le_refl _⟩, ⟨by exact HO_348001.out⟩, ⟨by exact HO_392001.out⟩, ⟨by exact BK347.out⟩, ⟨by exact BK391.out⟩, ⟨by repeat (first | (with_reducible first | exact HB.out | refine below_set ?_ GE391.out))⟩⟩
               case round =>
                clear H'
                try clear c1
                try clear p2
                try clear c4
                try clear c5
                try clear p6
                try clear c7
                try clear hcv7
                try clear c14
                try clear c49
                try clear c49b0
                try clear c49b1
                try clear c50
                try clear c50b0
                try clear c50b1
                try clear p64
                try clear hcv72
                try clear hcv77
                try clear c78
                try clear p2
                try clear p6
                try clear p64
                obtain ⟨x12_4, rfl, HA, HK4, HO_348001, HO_392001, BK347, BK391, HB⟩ := hrel
                cases gk with
                | zero => exact absurd HA.out (by simp [milestonelaw13_MessageBytes.l1])
                | succ k4 =>
                 have H := HA.out
                 clear HA
                 simp only [milestonelaw13_MessageBytes.l1] at H
                 by_cases c79 : x12_4 < (l1.length : Int)
                 · rw [if_pos c79] at H
                   have c79b0 : decide (x12_4 < (l1.length : Int)) = true := decide_eq_true c79
                   clear c79
                   by_cases c80 : 0 ≤ x12_4
                   · rw [if_pos c80] at H
                     have c80b0 : decide (0 ≤ x12_4) = true := decide_eq_true c80
                     clear c80
                     by_cases c81 : x12_4 < (t386.length : Int)
                     · rw [if_pos c81] at H
                       have c81b0 : decide (x12_4 < (t386.length : Int)) = true := decide_eq_true c81
                       clear c81
                       replace H := Option.bind_eq_some_iff.mp H
                       obtain ⟨⟨t397, t398, t399, t400, t401, t402, t403⟩, A820, H⟩ := H
                       replace H : (if (!(((rd_T28 t386 x12_4).f0) == t397) || (!(((rd_T28 t386 x12_4).f1) == t398) || (!(((rd_T28 t386 x12_4).f2) == t399) || ((!(((rd_T28 t386 x12_4).f3.f0) == t400) || (!(((rd_T28 t386 x12_4).f3.f1) == t401))) || (!(((rd_T28 t386 x12_4).f4) == t402) || (!(((rd_T28 t386 x12_4).f5) == t403))))))) = true then (some false) else (milestonelaw13_MessageBytes.l1 k4 l1 (wrap64 (x12_4 + 1)) t385 t386)) = some r := H
                       have A82 := Aside0.mk A820
                       clear A820
                       by_cases c83 : (!(((rd_T28 t386 x12_4).f0) == t397) || (!(((rd_T28 t386 x12_4).f1) == t398) || (!(((rd_T28 t386 x12_4).f2) == t399) || ((!(((rd_T28 t386 x12_4).f3.f0) == t400) || (!(((rd_T28 t386 x12_4).f3.f1) == t401))) || (!(((rd_T28 t386 x12_4).f4) == t402) || (!(((rd_T28 t386 x12_4).f5) == t403))))))) = true
                       · rw [if_pos c83] at H
                         have c83b0 : (!(((rd_T28 t386 x12_4).f0) == t397) || (!(((rd_T28 t386 x12_4).f1) == t398) || (!(((rd_T28 t386 x12_4).f2) == t399) || ((!(((rd_T28 t386 x12_4).f3.f0) == t400) || (!(((rd_T28 t386 x12_4).f3.f1) == t401))) || (!(((rd_T28 t386 x12_4).f4) == t402) || (!(((rd_T28 t386 x12_4).f5) == t403))))))) = true := c83
                         clear c83
                         obtain rfl := Option.some.inj H
                         exact absurd HT.out (by decide)
                       · rw [if_neg c83] at H
                         have c83b0 : (!(((rd_T28 t386 x12_4).f0) == t397) || (!(((rd_T28 t386 x12_4).f1) == t398) || (!(((rd_T28 t386 x12_4).f2) == t399) || ((!(((rd_T28 t386 x12_4).f3.f0) == t400) || (!(((rd_T28 t386 x12_4).f3.f1) == t401))) || (!(((rd_T28 t386 x12_4).f4) == t402) || (!(((rd_T28 t386 x12_4).f5) == t403))))))) = false := by simpa using c83
                         clear c83
                         have H' := Aside0.mk H
                         clear H
                         try go_wp2
                         have n0_ := Aside0.mk (Kd.R_drew HO_348001.out)
                         have n1_ := Aside0.mk (Kd.R_drew HO_392001.out)
                         have n2_ := Aside0.mk (blk_drew BK347.out)
                         have n3_ := Aside0.mk (blk_drew BK391.out)
                         have n4_ := Aside0.mk (below_drew1 HB.out)
                         clear HO_348001
                         clear HO_392001
                         clear BK347
                         clear BK391
                         clear HB
                         have HO_348001 := n0_
                         have HO_392001 := n1_
                         have BK347 := n2_
                         have BK391 := n3_
                         have HB := n4_
                         clear n0_ n1_ n2_ n3_ n4_
                         have p395 : 0 ≤ (x12_4 : Int) := of_decide_eq_true (by first | (with_reducible assumption))
                         have q395 : x12_4 < (t386.length : Int) := of_decide_eq_true (by first | (with_reducible assumption))
                         obtain ⟨ad395, e395, hx395_0, hx395_1, hx395_2, hx395_3, hx395_4, hx395_5, hx395_6⟩ := at_T28 (Kd.R_reads' HO_392001.out).2.2 x12_4 p395 q395
                         cases e395
                         replace p395 := eq_true p395
                         replace q395 := eq_true q395
                         have p396 : 0 ≤ (x12_4 : Int) := of_decide_eq_true (by first | (with_reducible assumption))
                         have q396 : x12_4 < (l1.length : Int) := of_decide_eq_true (by first | (with_reducible assumption))
                         obtain ⟨ad396, e396, hx396_0, hx396_1, hx396_2, hx396_3, hx396_4, hx396_5, hx396_6⟩ := at_T28 HR1.out x12_4 p396 q396
                         have hw396_6 := hx396_6
                         have hw396_5 := hx396_5
                         have hw396_4 := hx396_4
                         have hw396_3 := hx396_3
                         have hw396_2 := hx396_2
                         have hw396_1 := hx396_1
                         have hw396_0 := hx396_0
                         cases e396
                         replace hx396_0 := (HB.out.cell (World.block_lt_of_cell? w _ hx396_0)).trans hx396_0
                         replace hx396_1 := (HB.out.cell (World.block_lt_of_cell? w _ hx396_1)).trans hx396_1
                         replace hx396_2 := (HB.out.cell (World.block_lt_of_cell? w _ hx396_2)).trans hx396_2
                         replace hx396_3 := (HB.out.cell (World.block_lt_of_cell? w _ hx396_3)).trans hx396_3
                         replace hx396_4 := (HB.out.cell (World.block_lt_of_cell? w _ hx396_4)).trans hx396_4
                         replace hx396_5 := (HB.out.cell (World.block_lt_of_cell? w _ hx396_5)).trans hx396_5
                         replace hx396_6 := (HB.out.cell (World.block_lt_of_cell? w _ hx396_6)).trans hx396_6
                         replace p396 := eq_true p396
                         replace q396 := eq_true q396
                         refine start_ (n := 11) (S := fun w' => w'.cell? ⟨gb391, 0, none⟩ = some (.int .i64 t385) ∧ w'.cell? ⟨gb391, 1, none⟩ = some (.slice (some ad395) t386.length co47) ∧ w'.cell? (ad395.add ((x12_4).toNat * 7)) = some (.int .u8 ((rd_T28 t386 x12_4).f0)) ∧ w'.cell? ⟨(ad395.add ((x12_4).toNat * 7)).block, (ad395.add ((x12_4).toNat * 7)).off + 1, none⟩ = some (.int .u64 ((rd_T28 t386 x12_4).f1)) ∧ w'.cell? ⟨(ad395.add ((x12_4).toNat * 7)).block, (ad395.add ((x12_4).toNat * 7)).off + 2, none⟩ = some (.int .i64 ((rd_T28 t386 x12_4).f2)) ∧ w'.cell? ⟨(ad395.add ((x12_4).toNat * 7)).block, (ad395.add ((x12_4).toNat * 7)).off + 3, none⟩ = some (.int .u32 ((rd_T28 t386 x12_4).f3.f0)) ∧ w'.cell? ⟨(ad395.add ((x12_4).toNat * 7)).block, (ad395.add ((x12_4).toNat * 7)).off + 4, none⟩ = some (.int .u8 ((rd_T28 t386 x12_4).f3.f1)) ∧ w'.cell? ⟨(ad395.add ((x12_4).toNat * 7)).block, (ad395.add ((x12_4).toNat * 7)).off + 5, none⟩ = some (.int .u16 ((rd_T28 t386 x12_4).f4)) ∧ w'.cell? ⟨(ad395.add ((x12_4).toNat * 7)).block, (ad395.add ((x12_4).toNat * 7)).off + 6, none⟩ = some (.int .u16 ((rd_T28 t386 x12_4).f5)) ∧ w'.cell? (ad396.add ((x12_4).toNat * 7)) = some (.int .u8 ((rd_T28 l1 x12_4).f0)) ∧ w'.cell? ⟨(ad396.add ((x12_4).toNat * 7)).block, (ad396.add ((x12_4).toNat * 7)).off + 1, none⟩ = some (.int .u64 ((rd_T28 l1 x12_4).f1)) ∧ w'.cell? ⟨(ad396.add ((x12_4).toNat * 7)).block, (ad396.add ((x12_4).toNat * 7)).off + 2, none⟩ = some (.int .i64 ((rd_T28 l1 x12_4).f2)) ∧ w'.cell? ⟨(ad396.add ((x12_4).toNat * 7)).block, (ad396.add ((x12_4).toNat * 7)).off + 3, none⟩ = some (.int .u32 ((rd_T28 l1 x12_4).f3.f0)) ∧ w'.cell? ⟨(ad396.add ((x12_4).toNat * 7)).block, (ad396.add ((x12_4).toNat * 7)).off + 4, none⟩ = some (.int .u8 ((rd_T28 l1 x12_4).f3.f1)) ∧ w'.cell? ⟨(ad396.add ((x12_4).toNat * 7)).block, (ad396.add ((x12_4).toNat * 7)).off + 5, none⟩ = some (.int .u16 ((rd_T28 l1 x12_4).f4)) ∧ w'.cell? ⟨(ad396.add ((x12_4).toNat * 7)).block, (ad396.add ((x12_4).toNat * 7)).off + 6, none⟩ = some (.int .u16 ((rd_T28 l1 x12_4).f5))) (ds := []) #[false, false, false, false, false, false, false, false, false, false, false] (by kernel_rfl) rfl rfl ⟨(blk_cell BK391.out 0).trans rfl, (blk_cell BK391.out 1).trans rfl, hx395_0, hx395_1, hx395_2, hx395_3, hx395_4, hx395_5, hx395_6, ((HB.out.cell (World.block_lt_of_cell? w _ hw396_0)).trans hw396_0), ((HB.out.cell (World.block_lt_of_cell? w _ hw396_1)).trans hw396_1), ((HB.out.cell (World.block_lt_of_cell? w _ hw396_2)).trans hw396_2), ((HB.out.cell (World.block_lt_of_cell? w _ hw396_3)).trans hw396_3), ((HB.out.cell (World.block_lt_of_cell? w _ hw396_4)).trans hw396_4), ((HB.out.cell (World.block_lt_of_cell? w _ hw396_5)).trans hw396_5), ((HB.out.cell (World.block_lt_of_cell? w _ hw396_6)).trans hw396_6)⟩ (fun hHeld => ?_); refine with_tabW milestonelaw13_MessageBytes.tab17 milestonelaw13_MessageBytes.bits17 (fun HT_ HW_ => ?_)
                         generalize wr.drew = w84 at HO_348001 HO_392001 BK347 BK391 HB hx395_0 hx395_1 hx395_2 hx395_3 hx395_4 hx395_5 hx395_6 hx396_0 hx396_1 hx396_2 hx396_3 hx396_4 hx396_5 hx396_6 hHeld ⊢
                         refine pure_ (i := 0) (N := some 98) (v := ?_) (a' := ?_) #[true, false, false, false, false, false, false, false, false, false, false] rfl rfl (any_of HT_.out (by kernel_rfl)) (fun _ _ _ h => h) (Or.inl ⟨by rfl, ?_⟩) ?_ ?_
                         rotate_left
                         · intro w'
                           go_simp
                           with_reducible rfl
                         rotate_left
                         · simp only [Act.put, List.setIfInBounds_toArray, List.set_cons_zero, List.set_cons_succ, i64_w, i32_w]
                           rfl
                         refine pure_ (i := 2) (N := some 100) (v := ?_) (a' := ?_) #[true, false, true, false, false, false, false, false, false, false, false] rfl rfl (any_of HT_.out (by kernel_rfl)) (fun _ _ _ h => h) (Or.inl ⟨by rfl, ?_⟩) ?_ ?_
                         rotate_left
                         · intro w'
                           go_simp
                           with_reducible rfl
                         rotate_left
                         · simp only [Act.put, List.setIfInBounds_toArray, List.set_cons_zero, List.set_cons_succ, i64_w, i32_w]
                           rfl
                         refine pure_ (i := 5) (N := some 103) (v := ?_) (a' := ?_) #[true, false, true, false, false, true, false, false, false, false, false] rfl rfl (any_of HT_.out (by kernel_rfl)) (fun _ _ _ h => h) (Or.inl ⟨by rfl, ?_⟩) ?_ ?_
                         rotate_left
                         · intro w'
                           go_simp
                           with_reducible rfl
                         rotate_left
                         · simp only [Act.put, List.setIfInBounds_toArray, List.set_cons_zero, List.set_cons_succ, i64_w, i32_w]
                           rfl
                         refine pure_ (i := 6) (N := some 104) (v := ?_) (a' := ?_) #[true, false, true, false, false, true, true, false, false, false, false] rfl rfl (any_of HT_.out (by kernel_rfl)) (fun _ _ _ h => h) (Or.inl ⟨by rfl, ?_⟩) ?_ ?_
                         rotate_left
                         · intro w'
                           go_simp
                           with_reducible rfl
                         rotate_left
                         · simp only [Act.put, List.setIfInBounds_toArray, List.set_cons_zero, List.set_cons_succ, i64_w, i32_w]
                           rfl
                         refine pure_ (i := 7) (N := some 105) (v := ?_) (a' := ?_) #[true, false, true, false, false, true, true, true, false, false, false] rfl rfl (any_of HT_.out (by kernel_rfl)) (fun _ _ _ h => h) (Or.inl ⟨by rfl, ?_⟩) ?_ ?_
                         rotate_left
                         · intro w'
                           go_simp
                           with_reducible rfl
                         rotate_left
                         · simp only [Act.put, List.setIfInBounds_toArray, List.set_cons_zero, List.set_cons_succ, i64_w, i32_w]
                           rfl
                         refine take_ (i := 1) (N := some 99) (v := ?_) (a' := ?_) #[true, true, true, false, false, true, true, true, false, false, false] rfl rfl (take_ofW HT_.out HW_.out (by kernel_rfl)) (fun _ _ _ h => h) (Or.inl ⟨by rfl, ?_⟩) hHeld ?_ ?_
                         rotate_left
                         · rintro w' ⟨s0, s1, s2, s3, s4, s5, s6, s7, s8, s9, s10, s11, s12, s13, s14, s15⟩
                           go_simp
                           with_reducible rfl
                         rotate_left
                         · simp only [Act.put, List.setIfInBounds_toArray, List.set_cons_zero, List.set_cons_succ, i64_w, i32_w]
                           rfl
                         refine pure_ (i := 3) (N := some 101) (v := ?_) (a' := ?_) #[true, true, true, true, false, true, true, true, false, false, false] rfl rfl (any_of HT_.out (by kernel_rfl)) (fun _ _ _ h => h) (Or.inl ⟨by rfl, ?_⟩) ?_ ?_
                         rotate_left
                         · intro w'
                           go_simp
                           with_reducible rfl
                         rotate_left
                         · simp only [Act.put, List.setIfInBounds_toArray, List.set_cons_zero, List.set_cons_succ, i64_w, i32_w]
                           rfl
                         refine take_ (i := 4) (N := some 102) (v := ?_) (a' := ?_) #[true, true, true, true, true, true, true, true, false, false, false] rfl rfl (take_ofW HT_.out HW_.out (by kernel_rfl)) (fun _ _ _ h => h) (Or.inl ⟨by rfl, ?_⟩) hHeld ?_ ?_
                         rotate_left
                         · rintro w' ⟨s0, s1, s2, s3, s4, s5, s6, s7, s8, s9, s10, s11, s12, s13, s14, s15⟩
                           go_simp
                           with_reducible rfl
                         rotate_left
                         · simp only [Act.put, List.setIfInBounds_toArray, List.set_cons_zero, List.set_cons_succ, i64_w, i32_w]
                           rfl
                         refine take_ (i := 8) (N := some 106) (v := ?_) (a' := ?_) #[true, true, true, true, true, true, true, true, true, false, false] rfl rfl (take_ofW HT_.out HW_.out (by kernel_rfl)) (fun _ _ _ h => h) (Or.inl ⟨by rfl, ?_⟩) hHeld ?_ ?_
                         rotate_left
                         · rintro w' ⟨s0, s1, s2, s3, s4, s5, s6, s7, s8, s9, s10, s11, s12, s13, s14, s15⟩
                           go_simp
                           with_reducible rfl
                         rotate_left
                         · simp only [Act.put, List.setIfInBounds_toArray, List.set_cons_zero, List.set_cons_succ, i64_w, i32_w]
                           rfl
                         refine one_ (i := 9) (N := some 107) #[true, true, true, true, true, true, true, true, true, true, false] rfl rfl (one_of HT_.out (by kernel_rfl)) (by decide) (fun K hK => ?_)
                         refine goes_ Try.func8 (by kernel_rfl) rfl #[.agg #[.int .u8 ((rd_T28 l1 x12_4).f0), .int .u64 ((rd_T28 l1 x12_4).f1), .int .i64 ((rd_T28 l1 x12_4).f2), .int .u32 ((rd_T28 l1 x12_4).f3.f0), .int .u8 ((rd_T28 l1 x12_4).f3.f1), .int .u16 ((rd_T28 l1 x12_4).f4), .int .u16 ((rd_T28 l1 x12_4).f5)]] (by rfl) rfl rfl (by (try simp only [List.map_toArray, List.map_cons, List.map_nil]); first | rfl) ?_
                         with_reducible refine (milestonelaw13_near.calls k4 ((rd_T28 l1 x12_4).f0) ((rd_T28 l1 x12_4).f1) ((rd_T28 l1 x12_4).f2) ((rd_T28 l1 x12_4).f3.f0) ((rd_T28 l1 x12_4).f3.f1) ((rd_T28 l1 x12_4).f4) ((rd_T28 l1 x12_4).f5) t397 t398 t399 t400 t401 t402 t403 _ A82.out).mono ?_
                         rintro e w85 ⟨rfl, hb⟩
                         have HS2_ := (hb.cell (World.block_lt_of_cell? _ _ (hHeld.2.2.1))).trans (hHeld.2.2.1)
                         have HS3_ := (hb.cell (World.block_lt_of_cell? _ _ (hHeld.2.2.2.1))).trans (hHeld.2.2.2.1)
                         have HS4_ := (hb.cell (World.block_lt_of_cell? _ _ (hHeld.2.2.2.2.1))).trans (hHeld.2.2.2.2.1)
                         have HS5_ := (hb.cell (World.block_lt_of_cell? _ _ (hHeld.2.2.2.2.2.1))).trans (hHeld.2.2.2.2.2.1)
                         have HS6_ := (hb.cell (World.block_lt_of_cell? _ _ (hHeld.2.2.2.2.2.2.1))).trans (hHeld.2.2.2.2.2.2.1)
                         have HS7_ := (hb.cell (World.block_lt_of_cell? _ _ (hHeld.2.2.2.2.2.2.2.1))).trans (hHeld.2.2.2.2.2.2.2.1)
                         have HS8_ := (hb.cell (World.block_lt_of_cell? _ _ (hHeld.2.2.2.2.2.2.2.2.1))).trans (hHeld.2.2.2.2.2.2.2.2.1)
                         refine ⟨_, rfl, ?_⟩
                         have n0_ := Aside0.mk (Kd.R_below (by exact HO_348001.out) hb)
                         have n1_ := Aside0.mk (Kd.R_below (by exact HO_392001.out) hb)
                         have n2_ := Aside0.mk (blk_below (g := gb347) (o := .cells #[.int .i64 (wrap64 (Int.tmod a0 16)), .slice Ao40 x348001_2.length co40] 34 (0, 0)) (by exact BK347.out) hb)
                         have n3_ := Aside0.mk (blk_below (g := gb391) (o := .cells #[.int .i64 t385, .slice (some ad395) t386.length co47] 34 (0, 0)) (by exact BK391.out) hb)
                         have n4_ := Aside0.mk (below_step (by repeat (first | (with_reducible first | exact HB.out | refine below_set ?_ GE391.out))) hb)
                         clear HO_348001
                         clear HO_392001
                         clear BK347
                         clear BK391
                         clear HB
                         have HO_348001 := n0_
                         have HO_392001 := n1_
                         have BK347 := n2_
                         have BK391 := n3_
                         have HB := n4_
                         clear n0_ n1_ n2_ n3_ n4_
                         (try clear hb)
                         (try clear hb2)
                         (try clear hk)
                         (try clear hi)
                         refine hK.out _ _ ⟨(blk_cell BK391.out 0).trans rfl, (blk_cell BK391.out 1).trans rfl, HS2_, HS3_, HS4_, HS5_, HS6_, HS7_, HS8_, ((HB.out.cell (World.block_lt_of_cell? w _ hw396_0)).trans hw396_0), ((HB.out.cell (World.block_lt_of_cell? w _ hw396_1)).trans hw396_1), ((HB.out.cell (World.block_lt_of_cell? w _ hw396_2)).trans hw396_2), ((HB.out.cell (World.block_lt_of_cell? w _ hw396_3)).trans hw396_3), ((HB.out.cell (World.block_lt_of_cell? w _ hw396_4)).trans hw396_4), ((HB.out.cell (World.block_lt_of_cell? w _ hw396_5)).trans hw396_5), ((HB.out.cell (World.block_lt_of_cell? w _ hw396_6)).trans hw396_6)⟩ (fun hHeld => ?_)
                         clear hK K
                         refine norm_ (a' := ?_) ?_ ?_
                         rotate_left
                         · show Act.put _ (some 107) _ = _
                           simp only [Act.put, List.setIfInBounds_toArray, List.set_cons_zero, List.set_cons_succ, i64_w, i32_w]
                           rfl
                         refine pure_ (i := 10) (N := some 108) (v := ?_) (a' := ?_) #[true, true, true, true, true, true, true, true, true, true, true] rfl rfl (any_of HT_.out (by kernel_rfl)) (fun _ _ _ h => h) (Or.inl ⟨by rfl, ?_⟩) ?_ ?_
                         rotate_left
                         · intro w'
                           go_simp
                           with_reducible rfl
                         rotate_left
                         · simp only [Act.put, List.setIfInBounds_toArray, List.set_cons_zero, List.set_cons_succ, i64_w, i32_w]
                           rfl
                         refine done_ (done_of HT_.out (by kernel_rfl)) ?_
                         try go_wp2
                         go_roundg k4
                         case measure => have := HJ2.out; have := HK2.out; have := HJ37.out; have := HK4.out; omega
                         case rel => exact ⟨(wrap64 (x12_4 + 1)), (by first | rfl | (refine qa_int ?_; simp <;> omega)), H', ⟨by have := HJ2.out; have := HK2.out; have := HJ37.out; have := HK4.out; omega⟩, ⟨by exact HO_348001.out⟩, ⟨by exact HO_392001.out⟩, ⟨by exact BK347.out⟩, ⟨by exact BK391.out⟩, ⟨by repeat (first | (with_reducible first | exact HB.out | refine below_set ?_ GE391.out))⟩⟩
                     · rw [if_neg c81] at H
                       exact absurd H (by simp)
                   · rw [if_neg c80] at H
                     exact absurd H (by simp)
                 · rw [if_neg c79] at H
                   have c79b0 : decide (x12_4 < (l1.length : Int)) = false := decide_eq_false c79
                   clear c79
                   obtain rfl := Option.some.inj H
                   simp only [Option.some.injEq, Prod.mk.injEq] at H
                   obtain ⟨rfl⟩ := H
                   go_wp2
                   go_ret
                   exact ⟨by first | rfl | (simp [*, errW_none, errW_some] <;> rfl), by repeat (first | (with_reducible first | exact HB.out | refine below_set ?_ GE391.out))⟩
     · rw [if_neg c12] at H
       exact absurd H (by simp)

/-- THE ONE PURE STATEMENT of milestonelaw13_MessageBytes: yours. -/
def milestonelaw13_MessageBytes.Pure : Prop := ∀ (a0 : Int) (l1 : List (S28)), (Lit.int .u8 a0).wf = true → l1.length ≤ maxLen → (∀ x ∈ l1, ((Lit.int .u8 x.f0).wf = true ∧ ((Lit.int .u64 x.f1).wf = true ∧ ((Lit.int .i64 x.f2).wf = true ∧ (((Lit.int .u32 x.f3.f0).wf = true ∧ (Lit.int .u8 x.f3.f1).wf = true) ∧ ((Lit.int .u16 x.f4).wf = true ∧ (Lit.int .u16 x.f5).wf = true)))))) → ∃ k, milestonelaw13_MessageBytes.f k a0 l1 = some true
theorem milestonelaw13_MessageBytes.walk (P : milestonelaw13_MessageBytes.Pure) (a0 : Int) (a1 : Option Addr) (cap1 : Nat) (l1 : List (S28)) (w : World) (w0 : (Lit.int .u8 a0).wf = true) (hr1 : Kd.C k28 w a1 l1.length l1) (hc1 : l1.length ≤ cap1) (hm1 : l1.length ≤ maxLen) (hw1 : ∀ x ∈ l1, ((Lit.int .u8 x.f0).wf = true ∧ ((Lit.int .u64 x.f1).wf = true ∧ ((Lit.int .i64 x.f2).wf = true ∧ (((Lit.int .u32 x.f3.f0).wf = true ∧ (Lit.int .u8 x.f3.f1).wf = true) ∧ ((Lit.int .u16 x.f4).wf = true ∧ (Lit.int .u16 x.f5).wf = true)))))) :
 Calls Try.prog 4 #[.int .u8 a0, .slice a1 l1.length cap1] w fun e w' => e = .returned (.bool true) ∧ Below w.heap.size w w' := by
 obtain ⟨k, h⟩ := P a0 l1 w0 hm1 hw1
 refine (milestonelaw13_MessageBytes.calls k a0 _ _ l1 true w hr1 hc1 h rfl).mono ?_
 rintro e w' ⟨rfl, hd⟩
 exact ⟨rfl, hd⟩

end Go.Proofs.Ytnfdgpmdakciiaa.QMessageBytes
