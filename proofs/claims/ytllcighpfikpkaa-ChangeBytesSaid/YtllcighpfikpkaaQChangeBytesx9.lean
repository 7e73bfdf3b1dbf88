-- Lines by a program of this session, for this claim.
import Derived.Test.YtllcighpfikpkaaQChangeBytesx0
import Derived.Test.YtllcighpfikpkaaQChangeBytesx4
import Derived.Test.YtllcighpfikpkaaQChangeBytesx5
import Derived.Test.YtllcighpfikpkaaQChangeBytesx7
import Derived.Test.YtllcighpfikpkaaQChangeBytesx8
namespace Go.Proofs.Ytllcighpfikpkaa.QChangeBytes
open Go.RowKit Go.Proofs.YtllcighpfikpkaaW.PrintWords Go.Proofs.YtllcighpfikpkaaW.PrintLast Go.Proofs.YtllcighpfikpkaaW.PrintMore
attribute [local go_sem] max2_int min2_int max_two min_two max_three min_three max_four min_four   -- for this text's walks alone
set_option linter.unusedVariables false
set_option linter.unusedSimpArgs false

/-! ### change_Decode: function 23 -/
mutual
def change_Decode.j0 : Nat → List Int → Int → Int → Bool → Int → Int → Bool → Int → Int → Int → Int → Int → List Int → Int → Int → Int → Bool → Int → Int → Int → Int → Int → Option (Int × Int × Bool × Int × Int × Int × Int × Int × Int)
 | 0, _, _, _, _, _, _, _, _, _, _, _, _, _, _, _, _, _, _, _, _, _, _ => none
 | k + 1, x1, x9, x10, x57, x202000, x202001, x202002, x202003, x202004, x202005, x202006, x202007, x206000, x206001, x210000, x210001, x210002, x210003, x210004, x210005, x210006, x210007 => if x57 = true then (some (0, 0, false, 0, 0, 0, 0, 0, 4)) else ((change_octets.f x9).bind fun t215 => ((coin_Purse_Bytes.f x206000 x206001 (wrap64 (t215 - x10))).bind fun bt216 => (change_Decode.l0 k x1 x10 bt216.1 t215 0 x202000 x202001 x202002 x202003 x202004 x202005 x202006 x202007 bt216.2.1 bt216.2.2 x210000 x210001 x210002 x210003 x9 x210005 x210006 x210007)))
def change_Decode.j2 : Nat → List Int → Int → Int → Bool → Int → Int → Int → Int → Int → List Int → Int → Int → Int → Bool → Int → Int → Int → Int → Int → Option (Int × Int × Bool × Int × Int × Int × Int × Int × Int)
 | 0, _, _, _, _, _, _, _, _, _, _, _, _, _, _, _, _, _, _, _ => none
 | k + 1, x1, x202000, x202001, x202002, x202003, x202004, x202005, x202006, x202007, x206000, x206001, x210000, x210001, x210002, x210003, x210004, x210005, x210006, x210007 => if x210002 = true then (change_Decode.j4 k x1 x202000 x202001 x202002 x202003 x202004 x202005 x202006 x202007 x206000 x206001 x210000 x210001 x210002 x210003 x210004 x210005 x210006 x210007) else ((coin_Purse_Take.f k x206000 x206001 9223372036854775808).bind fun bt223 => ((coin_Open.f bt223.1).bind fun t226 => ((coin_Purse_Take.f k bt223.2.1 bt223.2.2 9223372036854775808).bind fun bt227 => ((coin_Open.f bt227.1).bind fun t230 => (if (wrap64 (x202005 + t226)) < 0 then (change_Decode.j3 k x1 (wrap64 (x202005 + t226)) (wrap64 ((wrap64 (x202006)) + t230)) true x202000 x202001 x202002 x202003 x202004 x202005 x202006 x202007 bt227.2.1 bt227.2.2 x210000 x210001 x210002 x210003 x210004 x210005 x210006 x210007) else (if (wrap64 (x202005 + t226)) ≥ 16 then (change_Decode.j3 k x1 (wrap64 (x202005 + t226)) (wrap64 ((wrap64 (x202006)) + t230)) true x202000 x202001 x202002 x202003 x202004 x202005 x202006 x202007 bt227.2.1 bt227.2.2 x210000 x210001 x210002 x210003 x210004 x210005 x210006 x210007) else (if (wrap64 ((wrap64 (x202006)) + t230)) < 0 then (change_Decode.j3 k x1 (wrap64 (x202005 + t226)) (wrap64 ((wrap64 (x202006)) + t230)) true x202000 x202001 x202002 x202003 x202004 x202005 x202006 x202007 bt227.2.1 bt227.2.2 x210000 x210001 x210002 x210003 x210004 x210005 x210006 x210007) else (change_Decode.j3 k x1 (wrap64 (x202005 + t226)) (wrap64 ((wrap64 (x202006)) + t230)) (decide ((wrap64 ((wrap64 (x202006)) + t230)) ≥ 65535)) x202000 x202001 x202002 x202003 x202004 x202005 x202006 x202007 bt227.2.1 bt227.2.2 x210000 x210001 x210002 x210003 x210004 x210005 x210006 x210007))))))))
def change_Decode.j4 : Nat → List Int → Int → Int → Bool → Int → Int → Int → Int → Int → List Int → Int → Int → Int → Bool → Int → Int → Int → Int → Int → Option (Int × Int × Bool × Int × Int × Int × Int × Int × Int)
 | 0, _, _, _, _, _, _, _, _, _, _, _, _, _, _, _, _, _, _, _ => none
 | k + 1, x1, x202000, x202001, x202002, x202003, x202004, x202005, x202006, x202007, x206000, x206001, x210000, x210001, x210002, x210003, x210004, x210005, x210006, x210007 => (coin_Purse_End.f x206000 x206001).bind fun bt237 => (if bt237.1 = 0 then ((change_Right.f k x210000 x210001 x210002 x210003 x210004 x210005 x210006 x210007).bind fun t240 => (if t240 = 0 then ((change_Encode.f k x202000 x202001 x202002 x202003 x202004 x202005 x202006 x202007 x210000 x210001 x210002 x210003 x210004 x210005 x210006 x210007).bind fun t241 => (if (strOfNums t241).toList = (strOfNums x1).toList then (some (x210000, x210001, x210002, x210003, x210004, x210005, x210006, x210007, 0)) else (some (0, 0, false, 0, 0, 0, 0, 0, 4)))) else (some (0, 0, false, 0, 0, 0, 0, 0, 4)))) else (some (0, 0, false, 0, 0, 0, 0, 0, bt237.1)))
def change_Decode.j3 : Nat → List Int → Int → Int → Bool → Int → Int → Bool → Int → Int → Int → Int → Int → List Int → Int → Int → Int → Bool → Int → Int → Int → Int → Int → Option (Int × Int × Bool × Int × Int × Int × Int × Int × Int)
 | 0, _, _, _, _, _, _, _, _, _, _, _, _, _, _, _, _, _, _, _, _, _, _ => none
 | k + 1, x1, x14, x15, x141, x202000, x202001, x202002, x202003, x202004, x202005, x202006, x202007, x206000, x206001, x210000, x210001, x210002, x210003, x210004, x210005, x210006, x210007 => if x141 = true then ((coin_Purse_Fault.f x206000 x206001).bind fun bt231 => (some (0, 0, false, 0, 0, 0, 0, 0, mx bt231.1 4))) else ((coin_Purse_Take.f k x206000 x206001 65535).bind fun bt234 => (change_Decode.j4 k x1 x202000 x202001 x202002 x202003 x202004 x202005 x202006 x202007 bt234.2.1 bt234.2.2 x210000 x210001 x210002 x210003 x210004 x14 (IntKind.u16.wrap (x15)) (IntKind.u16.wrap (x202007 + (IntKind.u16.wrap (bt234.1))))))
def change_Decode.l0 : Nat → List Int → Int → List Int → Int → Int → Int → Int → Bool → Int → Int → Int → Int → Int → List Int → Int → Int → Int → Bool → Int → Int → Int → Int → Int → Option (Int × Int × Bool × Int × Int × Int × Int × Int × Int)
 | 0, _, _, _, _, _, _, _, _, _, _, _, _, _, _, _, _, _, _, _, _, _, _, _ => none
 | k + 1, x1, x10, x11, x70, x71, x202000, x202001, x202002, x202003, x202004, x202005, x202006, x202007, x206000, x206001, x210000, x210001, x210002, x210003, x210004, x210005, x210006, x210007 => if x71 < x70 then ((change_octet.f x202003 x71).bind fun t221 => (if x71 ≥ x10 then (if (wrap64 (x71 - x10)) ≥ (x11.length : Int) then (change_Decode.j2 k x1 x202000 x202001 x202002 x202003 x202004 x202005 x202006 x202007 x206000 x206001 x210000 x210001 x210002 x210003 x210004 x210005 x210006 x210007) else (if 0 ≤ (wrap64 (x71 - x10)) then (if (wrap64 (x71 - x10)) < (x11.length : Int) then (if 0 ≤ (wrap64 (24 - (wrap64 (8 * x71)))) then (change_Decode.l0 k x1 x10 x11 x70 (wrap64 (x71 + 1)) x202000 x202001 x202002 x202003 x202004 x202005 x202006 x202007 x206000 x206001 x210000 x210001 x210002 (Go.bits .or .u32 x210003 (shl .u32 ((rd x11 (wrap64 (x71 - x10))) % 4294967296) (wrap64 (24 - (wrap64 (8 * x71)))))) x210004 x210005 x210006 x210007) else (none)) else (none)) else (none))) else (if 0 ≤ (wrap64 (24 - (wrap64 (8 * x71)))) then (change_Decode.l0 k x1 x10 x11 x70 (wrap64 (x71 + 1)) x202000 x202001 x202002 x202003 x202004 x202005 x202006 x202007 x206000 x206001 x210000 x210001 x210002 (Go.bits .or .u32 x210003 (shl .u32 ((t221) % 4294967296) (wrap64 (24 - (wrap64 (8 * x71)))))) x210004 x210005 x210006 x210007) else (none)))) else (change_Decode.j2 k x1 x202000 x202001 x202002 x202003 x202004 x202005 x202006 x202007 x206000 x206001 x210000 x210001 x210002 x210003 x210004 x210005 x210006 x210007)
end
def change_Decode.f (k : Nat) (a0_0 : Int) (a0_1 : Int) (a0_2 : Bool) (a0_3 : Int) (a0_4 : Int) (a0_5 : Int) (a0_6 : Int) (a0_7 : Int) (l1 : List Int) : Option (Int × Int × Bool × Int × Int × Int × Int × Int × Int) := (coin_NewPurse.f l1).bind fun bt203 => ((coin_Purse_Take.f k bt203.1 bt203.2 (Go.bits .xor .u64 IntKind.u64.max a0_1)).bind fun bt206 => ((coin_Purse_Take.f k bt206.2.1 bt206.2.2 1023).bind fun bt210 => (if ((bt210.1 / 16) % 256) > 32 then (change_Decode.j0 k l1 ((bt210.1 / 16) % 256) (wrap64 (Go.bits .and .u64 (bt210.1 / 2) 7)) true a0_0 a0_1 a0_2 a0_3 a0_4 a0_5 a0_6 a0_7 bt210.2.1 bt210.2.2 (IntKind.u64.wrap (a0_0 + 1)) (IntKind.u64.wrap (a0_1 + bt206.1)) ((Go.bits .and .u64 bt210.1 1) == 1) 0 0 0 0 0) else ((change_octets.f ((bt210.1 / 16) % 256)).bind fun t213 => ((change_octets.f a0_4).bind fun t214 => (change_Decode.j0 k l1 ((bt210.1 / 16) % 256) (wrap64 (Go.bits .and .u64 (bt210.1 / 2) 7)) (decide ((wrap64 (Go.bits .and .u64 (bt210.1 / 2) 7)) > (mn t213 t214))) a0_0 a0_1 a0_2 a0_3 a0_4 a0_5 a0_6 a0_7 bt210.2.1 bt210.2.2 (IntKind.u64.wrap (a0_0 + 1)) (IntKind.u64.wrap (a0_1 + bt206.1)) ((Go.bits .and .u64 bt210.1 1) == 1) 0 0 0 0 0))))))
theorem change_Decode.mono_l : ∀ k, (∀ y0 y1 y2 y3 y4 y5 y6 y7 y8 y9 y10 y11 y12 y13 y14 y15 y16 y17 y18 y19 y20 y21, LeO (change_Decode.j0 k y0 y1 y2 y3 y4 y5 y6 y7 y8 y9 y10 y11 y12 y13 y14 y15 y16 y17 y18 y19 y20 y21) (change_Decode.j0 (k + 1) y0 y1 y2 y3 y4 y5 y6 y7 y8 y9 y10 y11 y12 y13 y14 y15 y16 y17 y18 y19 y20 y21)) ∧ (∀ y0 y1 y2 y3 y4 y5 y6 y7 y8 y9 y10 y11 y12 y13 y14 y15 y16 y17 y18, LeO (change_Decode.j2 k y0 y1 y2 y3 y4 y5 y6 y7 y8 y9 y10 y11 y12 y13 y14 y15 y16 y17 y18) (change_Decode.j2 (k + 1) y0 y1 y2 y3 y4 y5 y6 y7 y8 y9 y10 y11 y12 y13 y14 y15 y16 y17 y18)) ∧ (∀ y0 y1 y2 y3 y4 y5 y6 y7 y8 y9 y10 y11 y12 y13 y14 y15 y16 y17 y18, LeO (change_Decode.j4 k y0 y1 y2 y3 y4 y5 y6 y7 y8 y9 y10 y11 y12 y13 y14 y15 y16 y17 y18) (change_Decode.j4 (k + 1) y0 y1 y2 y3 y4 y5 y6 y7 y8 y9 y10 y11 y12 y13 y14 y15 y16 y17 y18)) ∧ (∀ y0 y1 y2 y3 y4 y5 y6 y7 y8 y9 y10 y11 y12 y13 y14 y15 y16 y17 y18 y19 y20 y21, LeO (change_Decode.j3 k y0 y1 y2 y3 y4 y5 y6 y7 y8 y9 y10 y11 y12 y13 y14 y15 y16 y17 y18 y19 y20 y21) (change_Decode.j3 (k + 1) y0 y1 y2 y3 y4 y5 y6 y7 y8 y9 y10 y11 y12 y13 y14 y15 y16 y17 y18 y19 y20 y21)) ∧ (∀ y0 y1 y2 y3 y4 y5 y6 y7 y8 y9 y10 y11 y12 y13 y14 y15 y16 y17 y18 y19 y20 y21 y22, LeO (change_Decode.l0 k y0 y1 y2 y3 y4 y5 y6 y7 y8 y9 y10 y11 y12 y13 y14 y15 y16 y17 y18 y19 y20 y21 y22) (change_Decode.l0 (k + 1) y0 y1 y2 y3 y4 y5 y6 y7 y8 y9 y10 y11 y12 y13 y14 y15 y16 y17 y18 y19 y20 y21 y22))
 | 0 => ⟨fun _ _ _ _ _ _ _ _ _ _ _ _ _ _ _ _ _ _ _ _ _ _ r h => by simp [change_Decode.j0] at h, fun _ _ _ _ _ _ _ _ _ _ _ _ _ _ _ _ _ _ _ r h => by simp [change_Decode.j2] at h, fun _ _ _ _ _ _ _ _ _ _ _ _ _ _ _ _ _ _ _ r h => by simp [change_Decode.j4] at h, fun _ _ _ _ _ _ _ _ _ _ _ _ _ _ _ _ _ _ _ _ _ _ r h => by simp [change_Decode.j3] at h, fun _ _ _ _ _ _ _ _ _ _ _ _ _ _ _ _ _ _ _ _ _ _ _ r h => by simp [change_Decode.l0] at h⟩
 | k + 1 => by
  obtain ⟨ih0, ih1, ih2, ih3, ih4⟩ := change_Decode.mono_l k; refine ⟨?_, ?_, ?_, ?_, ?_⟩
  · intro y0 y1 y2 y3 y4 y5 y6 y7 y8 y9 y10 y11 y12 y13 y14 y15 y16 y17 y18 y19 y20 y21
    unfold change_Decode.j0
    repeat' first
    | (with_reducible exact ih0 ..)
    | (with_reducible exact ih1 ..)
    | (with_reducible exact ih2 ..)
    | (with_reducible exact ih3 ..)
    | (with_reducible exact ih4 ..)
    | (with_reducible exact change_Encode.mono ..)
    | (with_reducible exact change_Right.mono ..)
    | (with_reducible exact coin_Purse_Take.mono ..)
    | (with_reducible exact LeO.refl ..)
    | (with_reducible exact LeO.none ..)
    | (with_reducible refine LeO.ite ?_ ?_)
    | (with_reducible refine LeO.bind ?_ (fun _ => ?_))
  · intro y0 y1 y2 y3 y4 y5 y6 y7 y8 y9 y10 y11 y12 y13 y14 y15 y16 y17 y18
    unfold change_Decode.j2
    repeat' first
    | (with_reducible exact ih0 ..)
    | (with_reducible exact ih1 ..)
    | (with_reducible exact ih2 ..)
    | (with_reducible exact ih3 ..)
    | (with_reducible exact ih4 ..)
    | (with_reducible exact change_Encode.mono ..)
    | (with_reducible exact change_Right.mono ..)
    | (with_reducible exact coin_Purse_Take.mono ..)
    | (with_reducible exact LeO.refl ..)
    | (with_reducible exact LeO.none ..)
    | (with_reducible refine LeO.ite ?_ ?_)
    | (with_reducible refine LeO.bind ?_ (fun _ => ?_))
  · intro y0 y1 y2 y3 y4 y5 y6 y7 y8 y9 y10 y11 y12 y13 y14 y15 y16 y17 y18
    unfold change_Decode.j4
    repeat' first
    | (with_reducible exact ih0 ..)
    | (with_reducible exact ih1 ..)
    | (with_reducible exact ih2 ..)
    | (with_reducible exact ih3 ..)
    | (with_reducible exact ih4 ..)
    | (with_reducible exact change_Encode.mono ..)
    | (with_reducible exact change_Right.mono ..)
    | (with_reducible exact coin_Purse_Take.mono ..)
    | (with_reducible exact LeO.refl ..)
    | (with_reducible exact LeO.none ..)
    | (with_reducible refine LeO.ite ?_ ?_)
    | (with_reducible refine LeO.bind ?_ (fun _ => ?_))
  · intro y0 y1 y2 y3 y4 y5 y6 y7 y8 y9 y10 y11 y12 y13 y14 y15 y16 y17 y18 y19 y20 y21
    unfold change_Decode.j3
    repeat' first
    | (with_reducible exact ih0 ..)
    | (with_reducible exact ih1 ..)
    | (with_reducible exact ih2 ..)
    | (with_reducible exact ih3 ..)
    | (with_reducible exact ih4 ..)
    | (with_reducible exact change_Encode.mono ..)
    | (with_reducible exact change_Right.mono ..)
    | (with_reducible exact coin_Purse_Take.mono ..)
    | (with_reducible exact LeO.refl ..)
    | (with_reducible exact LeO.none ..)
    | (with_reducible refine LeO.ite ?_ ?_)
    | (with_reducible refine LeO.bind ?_ (fun _ => ?_))
  intro y0 y1 y2 y3 y4 y5 y6 y7 y8 y9 y10 y11 y12 y13 y14 y15 y16 y17 y18 y19 y20 y21 y22
  unfold change_Decode.l0
  repeat' first
  | (with_reducible exact ih0 ..)
  | (with_reducible exact ih1 ..)
  | (with_reducible exact ih2 ..)
  | (with_reducible exact ih3 ..)
  | (with_reducible exact ih4 ..)
  | (with_reducible exact change_Encode.mono ..)
  | (with_reducible exact change_Right.mono ..)
  | (with_reducible exact coin_Purse_Take.mono ..)
  | (with_reducible exact LeO.refl ..)
  | (with_reducible exact LeO.none ..)
  | (with_reducible refine LeO.ite ?_ ?_)
  | (with_reducible refine LeO.bind ?_ (fun _ => ?_))
theorem change_Decode.mono : ∀ a0 a1 a2 a3 a4 a5 a6 a7 a8 k, LeO (change_Decode.f k a0 a1 a2 a3 a4 a5 a6 a7 a8) (change_Decode.f (k + 1) a0 a1 a2 a3 a4 a5 a6 a7 a8) := by
 intro a0 a1 a2 a3 a4 a5 a6 a7 a8 k; obtain ⟨ih0, ih1, ih2, ih3, ih4⟩ := change_Decode.mono_l k
 unfold change_Decode.f
 repeat' first
  | (with_reducible exact ih0 ..)
  | (with_reducible exact ih1 ..)
  | (with_reducible exact ih2 ..)
  | (with_reducible exact ih3 ..)
  | (with_reducible exact ih4 ..)
  | (with_reducible exact change_Encode.mono ..)
  | (with_reducible exact change_Right.mono ..)
  | (with_reducible exact coin_Purse_Take.mono ..)
  | (with_reducible exact LeO.refl ..)
  | (with_reducible exact LeO.none ..)
  | (with_reducible refine LeO.ite ?_ ?_)
  | (with_reducible refine LeO.bind ?_ (fun _ => ?_))
def change_Decode.T2 : Bool × List (List Nat × List Nat) := (true, [([], []), ([0], [0]), ([1], [1]), ([], []), ([3], [3]), ([], []), ([], []), ([6], [6]), ([7], [7]), ([5, 8], [5, 8]), ([4, 9], [4, 9]), ([2, 10], [2, 10]), ([], []), ([12, 11, 9, 0, 1, 2, 3, 4, 5, 6, 7, 8, 9, 10, 11, 12], [11, 12])])
def change_Decode.B2 : List Nat := [0, 1, 3, 0, 8, 0, 0, 64, 192, 480, 1016, 2047, 0, 8191]
theorem change_Decode.tab2 : rtab .any (opsOf Try.f23 2) = change_Decode.T2 := by kernel_rfl
theorem change_Decode.bits2 : waitsOk change_Decode.T2.2 change_Decode.B2 = true := by kernel_rfl
def change_Decode.T6 : Bool × List (List Nat × List Nat) := (true, [([], []), ([0], [0]), ([1], [1]), ([2], [2]), ([2], [2]), ([4, 2, 2], [2, 4]), ([2], [2]), ([6, 2], [2, 6]), ([7, 2], [2, 7]), ([8, 2], [2, 8]), ([9, 5, 2], [2, 9]), ([5, 10, 2], [2, 5, 10]), ([3, 11, 2], [2, 3, 11]), ([2, 12], [2, 12])])
def change_Decode.B6 : List Nat := [0, 1, 3, 7, 7, 23, 7, 71, 199, 455, 1015, 2039, 4095, 8191]
theorem change_Decode.tab6 : rtab .any (opsOf Try.f23 6) = change_Decode.T6 := by kernel_rfl
theorem change_Decode.bits6 : waitsOk change_Decode.T6.2 change_Decode.B6 = true := by kernel_rfl
def change_Decode.T17 : Bool × List (List Nat × List Nat) := (true, [([], []), ([0], [0]), ([1], [1]), ([2], [2]), ([], []), ([4], [4]), ([], []), ([6], [6]), ([7], [7]), ([5, 8], [5, 8]), ([3, 9], [3, 9]), ([0, 1, 2, 3, 4, 5, 6, 7, 8, 9, 10], []), ([11, 0, 1, 2, 3, 4, 5, 6, 7, 8, 9, 10], [11]), ([12, 0, 1, 2, 3, 4, 5, 6, 7, 8, 9, 10], [12]), ([13, 10, 0, 1, 2, 3, 4, 5, 6, 7, 8, 9, 10], [10, 13])])
def change_Decode.B17 : List Nat := [0, 1, 3, 7, 0, 16, 0, 64, 192, 496, 1023, 2047, 4095, 8191, 16383]
theorem change_Decode.tab17 : rtab .any (opsOf Try.f23 17) = change_Decode.T17 := by kernel_rfl
theorem change_Decode.bits17 : waitsOk change_Decode.T17.2 change_Decode.B17 = true := by kernel_rfl
def change_Decode.T20 : Bool × List (List Nat × List Nat) := (true, [([], []), ([0], [0]), ([1], [1]), ([], []), ([3], [3]), ([4, 4], [4]), ([2, 5], [2, 5]), ([6, 5, 0, 1, 2, 3, 4, 5, 6], [6])])
def change_Decode.B20 : List Nat := [0, 1, 3, 0, 8, 24, 63, 127]
theorem change_Decode.tab20 : rtab .any (opsOf Try.f23 20) = change_Decode.T20 := by kernel_rfl
theorem change_Decode.bits20 : waitsOk change_Decode.T20.2 change_Decode.B20 = true := by kernel_rfl
def change_Decode.T21 : Bool × List (List Nat × List Nat) := (true, [([], []), ([0], [0]), ([1], [1]), ([2], [2]), ([], []), ([4], [4]), ([5, 5], [5]), ([3, 6], [3, 6]), ([7, 6, 0, 1, 2, 3, 4, 5, 6, 7], [7])])
def change_Decode.B21 : List Nat := [0, 1, 3, 7, 0, 16, 48, 127, 255]
theorem change_Decode.tab21 : rtab .any (opsOf Try.f23 21) = change_Decode.T21 := by kernel_rfl
theorem change_Decode.bits21 : waitsOk change_Decode.T21.2 change_Decode.B21 = true := by kernel_rfl
def change_Decode.T24 : Bool × List (List Nat × List Nat) := (true, [([], []), ([], []), ([1], [1]), ([], []), ([3], [3]), ([4], [4]), ([], []), ([6], [6]), ([7], [7]), ([5, 8], [5, 8]), ([0], []), ([10, 0], [10]), ([11, 0, 7, 0], [0, 11]), ([0, 1, 2, 10, 11, 12], []), ([13, 0, 1, 2, 10, 11, 12], [13]), ([14, 2, 12, 0, 1, 2, 10, 11, 12], [2, 14]), ([0, 1, 2, 3, 4, 5, 6, 7, 8, 9, 10, 11, 12, 13, 14, 15], []), ([16, 0, 1, 2, 3, 4, 5, 6, 7, 8, 9, 10, 11, 12, 13, 14, 15], [16]), ([17, 9, 15, 0, 1, 2, 3, 4, 5, 6, 7, 8, 9, 10, 11, 12, 13, 14, 15], [9, 17])])
def change_Decode.B24 : List Nat := [0, 0, 2, 0, 8, 24, 0, 64, 192, 504, 1, 1025, 3265, 7367, 15559, 31943, 65535, 131071, 262143]
theorem change_Decode.tab24 : rtab .any (opsOf Try.f23 24) = change_Decode.T24 := by kernel_rfl
theorem change_Decode.bits24 : waitsOk change_Decode.T24.2 change_Decode.B24 = true := by kernel_rfl
def change_Decode.T28 : Bool × List (List Nat × List Nat) := (true, [([], []), ([0], [0]), ([1], [1]), ([2, 1], [2]), ([3], [3]), ([3], [3]), ([4, 5, 3, 3], [3, 4, 5]), ([6, 3], [3, 6]), ([3], [3]), ([8, 3], [3, 8]), ([7, 9, 3], [3, 7, 9]), ([3, 10], [3, 10])])
def change_Decode.B28 : List Nat := [0, 1, 3, 7, 15, 15, 63, 127, 15, 271, 1023, 2047]
theorem change_Decode.tab28 : rtab .any (opsOf Try.f23 28) = change_Decode.T28 := by kernel_rfl
theorem change_Decode.bits28 : waitsOk change_Decode.T28.2 change_Decode.B28 = true := by kernel_rfl
set_option maxHeartbeats 8000000 in
set_option maxRecDepth 100000 in
theorem change_Decode.calls (k : Nat) (a0_0 : Int) (a0_1 : Int) (a0_2 : Bool) (a0_3 : Int) (a0_4 : Int) (a0_5 : Int) (a0_6 : Int) (a0_7 : Int) (A1 : Option Addr) (c1 : Nat) (l1 : List Int) (r1 : Int) (r2 : Int) (r3 : Bool) (r4 : Int) (r5 : Int) (r6 : Int) (r7 : Int) (r8 : Int) (r9 : Int) (w : World) (hr1 : Kd.C (Kd.int .u8) w A1 l1.length l1) (hc1 : l1.length ≤ c1) (h : change_Decode.f k a0_0 a0_1 a0_2 a0_3 a0_4 a0_5 a0_6 a0_7 l1 = some (r1, r2, r3, r4, r5, r6, r7, r8, r9)) :
 Calls Try.prog 23 #[.agg #[.int .u64 a0_0, .int .u64 a0_1, .bool a0_2, .int .u32 a0_3, .int .u8 a0_4, .int .i64 a0_5, .int .u16 a0_6, .int .u16 a0_7], .slice A1 l1.length c1] w fun e w' => e = .returned (.tuple #[.agg #[.int .u64 r1, .int .u64 r2, .bool r3, .int .u32 r4, .int .u8 r5, .int .i64 r6, .int .u16 r7, .int .u16 r8], .int .i64 r9]) ∧ Below w.heap.size w w' := by
 have hu31 := Try.underlying31; have HR1 := Aside0.mk hr1; have HC1 := Aside0.mk hc1; clear hr1 hc1; have HB := Aside0.mk (Below.refl w.heap.size w); have H : ((coin_NewPurse.f l1).bind fun bt203 => ((coin_Purse_Take.f k bt203.1 bt203.2 (Go.bits .xor .u64 IntKind.u64.max a0_1)).bind fun bt206 => ((coin_Purse_Take.f k bt206.2.1 bt206.2.2 1023).bind fun bt210 => (if ((bt210.1 / 16) % 256) > 32 then (change_Decode.j0 k l1 ((bt210.1 / 16) % 256) (wrap64 (Go.bits .and .u64 (bt210.1 / 2) 7)) true a0_0 a0_1 a0_2 a0_3 a0_4 a0_5 a0_6 a0_7 bt210.2.1 bt210.2.2 (IntKind.u64.wrap (a0_0 + 1)) (IntKind.u64.wrap (a0_1 + bt206.1)) ((Go.bits .and .u64 bt210.1 1) == 1) 0 0 0 0 0) else ((change_octets.f ((bt210.1 / 16) % 256)).bind fun t213 => ((change_octets.f a0_4).bind fun t214 => (change_Decode.j0 k l1 ((bt210.1 / 16) % 256) (wrap64 (Go.bits .and .u64 (bt210.1 / 2) 7)) (decide ((wrap64 (Go.bits .and .u64 (bt210.1 / 2) 7)) > (mn t213 t214))) a0_0 a0_1 a0_2 a0_3 a0_4 a0_5 a0_6 a0_7 bt210.2.1 bt210.2.2 (IntKind.u64.wrap (a0_0 + 1)) (IntKind.u64.wrap (a0_1 + bt206.1)) ((Go.bits .and .u64 bt210.1 1) == 1) 0 0 0 0 0))))))) = some (r1, r2, r3, r4, r5, r6, r7, r8, r9) := h; clear h; replace H := Option.bind_eq_some_iff.mp H; obtain ⟨⟨t203, t204⟩, A30, H⟩ := H; replace H : ((coin_Purse_Take.f k t203 t204 (Go.bits .xor .u64 IntKind.u64.max a0_1)).bind fun bt206 => ((coin_Purse_Take.f k bt206.2.1 bt206.2.2 1023).bind fun bt210 => (if ((bt210.1 / 16) % 256) > 32 then (change_Decode.j0 k l1 ((bt210.1 / 16) % 256) (wrap64 (Go.bits .and .u64 (bt210.1 / 2) 7)) true a0_0 a0_1 a0_2 a0_3 a0_4 a0_5 a0_6 a0_7 bt210.2.1 bt210.2.2 (IntKind.u64.wrap (a0_0 + 1)) (IntKind.u64.wrap (a0_1 + bt206.1)) ((Go.bits .and .u64 bt210.1 1) == 1) 0 0 0 0 0) else ((change_octets.f ((bt210.1 / 16) % 256)).bind fun t213 => ((change_octets.f a0_4).bind fun t214 => (change_Decode.j0 k l1 ((bt210.1 / 16) % 256) (wrap64 (Go.bits .and .u64 (bt210.1 / 2) 7)) (decide ((wrap64 (Go.bits .and .u64 (bt210.1 / 2) 7)) > (mn t213 t214))) a0_0 a0_1 a0_2 a0_3 a0_4 a0_5 a0_6 a0_7 bt210.2.1 bt210.2.2 (IntKind.u64.wrap (a0_0 + 1)) (IntKind.u64.wrap (a0_1 + bt206.1)) ((Go.bits .and .u64 bt210.1 1) == 1) 0 0 0 0 0)))))) = some (r1, r2, r3, r4, r5, r6, r7, r8, r9) := H; have A3 := Aside0.mk A30; clear A30; replace H := Option.bind_eq_some_iff.mp H; obtain ⟨⟨t206, t207, t208⟩, A40, H⟩ := H; replace H : ((coin_Purse_Take.f k t207 t208 1023).bind fun bt210 => (if ((bt210.1 / 16) % 256) > 32 then (change_Decode.j0 k l1 ((bt210.1 / 16) % 256) (wrap64 (Go.bits .and .u64 (bt210.1 / 2) 7)) true a0_0 a0_1 a0_2 a0_3 a0_4 a0_5 a0_6 a0_7 bt210.2.1 bt210.2.2 (IntKind.u64.wrap (a0_0 + 1)) (IntKind.u64.wrap (a0_1 + t206)) ((Go.bits .and .u64 bt210.1 1) == 1) 0 0 0 0 0) else ((change_octets.f ((bt210.1 / 16) % 256)).bind fun t213 => ((change_octets.f a0_4).bind fun t214 => (change_Decode.j0 k l1 ((bt210.1 / 16) % 256) (wrap64 (Go.bits .and .u64 (bt210.1 / 2) 7)) (decide ((wrap64 (Go.bits .and .u64 (bt210.1 / 2) 7)) > (mn t213 t214))) a0_0 a0_1 a0_2 a0_3 a0_4 a0_5 a0_6 a0_7 bt210.2.1 bt210.2.2 (IntKind.u64.wrap (a0_0 + 1)) (IntKind.u64.wrap (a0_1 + t206)) ((Go.bits .and .u64 bt210.1 1) == 1) 0 0 0 0 0))))) = some (r1, r2, r3, r4, r5, r6, r7, r8, r9) := H; have A4 := Aside0.mk A40; clear A40; replace H := Option.bind_eq_some_iff.mp H; obtain ⟨⟨t210, t211, t212⟩, A50, H⟩ := H; replace H : (if ((t210 / 16) % 256) > 32 then (change_Decode.j0 k l1 ((t210 / 16) % 256) (wrap64 (Go.bits .and .u64 (t210 / 2) 7)) true a0_0 a0_1 a0_2 a0_3 a0_4 a0_5 a0_6 a0_7 t211 t212 (IntKind.u64.wrap (a0_0 + 1)) (IntKind.u64.wrap (a0_1 + t206)) ((Go.bits .and .u64 t210 1) == 1) 0 0 0 0 0) else ((change_octets.f ((t210 / 16) % 256)).bind fun t213 => ((change_octets.f a0_4).bind fun t214 => (change_Decode.j0 k l1 ((t210 / 16) % 256) (wrap64 (Go.bits .and .u64 (t210 / 2) 7)) (decide ((wrap64 (Go.bits .and .u64 (t210 / 2) 7)) > (mn t213 t214))) a0_0 a0_1 a0_2 a0_3 a0_4 a0_5 a0_6 a0_7 t211 t212 (IntKind.u64.wrap (a0_0 + 1)) (IntKind.u64.wrap (a0_1 + t206)) ((Go.bits .and .u64 t210 1) == 1) 0 0 0 0 0)))) = some (r1, r2, r3, r4, r5, r6, r7, r8, r9) := H
 have A5 := Aside0.mk A50; clear A50; have HC6 := Aside0.mk H; clear H
 go_enter Try.func23, Try.ntmps23
 try go_wp2_with (first | ((with_reducible refine gate_dst (N := 2) rfl ?_); (try (refine gate_guard (by rfl) ?_; dsimp only)); refine box_event ?hg (N := 2) ?hd (cs := #[.int .u64 a0_0, .int .u64 a0_1, .bool a0_2, .int .u32 a0_3, .int .u8 a0_4, .int .i64 a0_5, .int .u16 a0_6, .int .u16 a0_7]) (t := 31) ?hr ?_; (case hd => rfl); (case hg => rfl); (case hr => first | (go_simp; done)); intro gb201 hg w7 hbox hb; have n0_ := Aside0.mk (below_step (by repeat (first | (with_reducible first | exact HB.out | apply below_drew1))) hb); have n1_ := Aside0.mk (hbox); have n2_ := Aside0.mk ((by rw [hg]; exact (below_size (by repeat (first | (with_reducible first | exact HB.out | apply below_drew1)))) : w.heap.size ≤ gb201)); have n3_ := Aside0.mk ((by rw [hg]; exact (below_size (by repeat (first | (with_reducible first | exact HB.out | apply below_drew1)))) : w.heap.size ≤ gb201)); clear HB; revert n0_ n1_ n2_ n3_; intro HB BK201 GW201 GE201; clear hb hbox hg) | ((with_reducible refine gate_dst (N := 4) rfl ?_); (try (refine gate_guard (by rfl) ?_; dsimp only)); refine box_event ?hg (N := 4) ?hd (cs := #[.int .u64 0, .int .u64 0, .bool false, .int .u32 0, .int .u8 0, .int .i64 0, .int .u16 0, .int .u16 0]) (t := 31) ?hr ?_; (case hd => rfl); (case hg => rfl); (case hr => first | (go_simp; done)); intro gb202 hg w8 hbox hb; have n0_ := Aside0.mk (blk_below BK201.out hb); have n1_ := Aside0.mk (below_step (by repeat (first | (with_reducible first | exact HB.out | refine below_set ?_ GE201.out))) hb); have n2_ := Aside0.mk (hbox); have n3_ := Aside0.mk ((by rw [hg]; exact (below_size (by repeat (first | (with_reducible first | exact HB.out | refine below_set ?_ GE201.out)))) : w.heap.size ≤ gb202)); have n4_ := Aside0.mk ((by rw [hg]; exact (below_size (by repeat (first | (with_reducible first | exact HB.out | refine below_set ?_ GE201.out)))) : w.heap.size ≤ gb202)); have n5_ := Aside0.mk ((by rw [hg]; exact Nat.ne_of_lt (blk_lt (g := gb201) (o := .cells #[.int .u64 a0_0, .int .u64 a0_1, .bool a0_2, .int .u32 a0_3, .int .u8 a0_4, .int .i64 a0_5, .int .u16 a0_6, .int .u16 a0_7] 31 (0, 0)) BK201.out) : gb201 ≠ gb202)); have n6_ := Aside0.mk ((by rw [hg]; exact Nat.ne_of_gt (blk_lt (g := gb201) (o := .cells #[.int .u64 a0_0, .int .u64 a0_1, .bool a0_2, .int .u32 a0_3, .int .u8 a0_4, .int .i64 a0_5, .int .u16 a0_6, .int .u16 a0_7] 31 (0, 0)) BK201.out) : gb202 ≠ gb201)); clear BK201 HB; revert n0_ n1_ n2_ n3_ n4_ n5_ n6_; intro BK201 HB BK202 GW202 GE202 NB201_202 NB202_201; clear hb hbox hg) | ((with_reducible refine gate_callee (f := 38) rfl ?_); refine goesL_ (some 18) rfl rfl Try.func38 (by kernel_rfl) rfl #[.slice A1 l1.length c1] rfl (by (try simp only [List.map_toArray, List.map_cons, List.map_nil]); first | rfl | (refine qa_arr ?_; (repeat' (first | rfl | refine qa_cons ?_ ?_ | refine qa_int ?_ | refine qa_agg ?_ | refine qa_arr ?_ | omega)); done)) ?_; (with_reducible refine (coin_NewPurse.calls _ _ l1 t203 t204 w _ ?side1 ?side2 ?side3 A3.out).mono ?_); (case side1 => repeat (first | (with_reducible first | exact HB.out | refine below_set ?_ GE202.out))); (case side2 => exact HR1.out); (case side3 => exact HC1.out); rintro e w9 ⟨g205, rfl, hi, hb, hb2⟩; refine ⟨_, rfl, ?_⟩; have n0_ := Aside0.mk (blk_below BK201.out hb2); have n1_ := Aside0.mk (blk_below BK202.out hb2); have n2_ := Aside0.mk (hb); have n3_ := Aside0.mk (hi); have n4_ := Aside0.mk (IsS100.ne_blk hi (blk_below BK201.out hb2) (by decide)); have n5_ := Aside0.mk (Ne.symm (IsS100.ne_blk hi (blk_below BK201.out hb2) (by decide))); have n6_ := Aside0.mk (IsS100.ne_blk hi (blk_below BK202.out hb2) (by decide)); have n7_ := Aside0.mk (Ne.symm (IsS100.ne_blk hi (blk_below BK202.out hb2) (by decide))); clear BK201 BK202 HB; revert n0_ n1_ n2_ n3_ n4_ n5_ n6_ n7_; intro BK201 BK202 HB HI205 NB205_201 NB201_205 NB205_202 NB202_205; (try clear hb); (try clear hb2); (try clear hk); (try clear hi)))
 have n0_ := Aside0.mk (blk_drew BK201.out); have n1_ := Aside0.mk (blk_drew BK202.out); have n2_ := Aside0.mk (IsS100.drew HI205.out); have n3_ := Aside0.mk (below_drew1 HB.out); clear BK201; clear BK202; clear HI205; clear HB; have BK201 := n0_; have BK202 := n1_; have HI205 := n2_; have HB := n3_; clear n0_ n1_ n2_ n3_
 refine start_ (n := 14) (S := fun w' => w'.cell? ⟨gb201, 0, none⟩ = some (.int .u64 a0_0) ∧ w'.cell? ⟨gb201, 1, none⟩ = some (.int .u64 a0_1) ∧ w'.cell? ⟨gb201, 2, none⟩ = some (.bool a0_2) ∧ w'.cell? ⟨gb201, 3, none⟩ = some (.int .u32 a0_3) ∧ w'.cell? ⟨gb201, 4, none⟩ = some (.int .u8 a0_4) ∧ w'.cell? ⟨gb201, 5, none⟩ = some (.int .i64 a0_5) ∧ w'.cell? ⟨gb201, 6, none⟩ = some (.int .u16 a0_6) ∧ w'.cell? ⟨gb201, 7, none⟩ = some (.int .u16 a0_7)) (ds := []) #[O,O,O,O,O,O,O,O,O,O,O,O,O,O] (by kernel_rfl) rfl rfl ⟨(blk_cell BK201.out 0).trans rfl, (blk_cell BK201.out 1).trans rfl, (blk_cell BK201.out 2).trans rfl, (blk_cell BK201.out 3).trans rfl, (blk_cell BK201.out 4).trans rfl, (blk_cell BK201.out 5).trans rfl, (blk_cell BK201.out 6).trans rfl, (blk_cell BK201.out 7).trans rfl⟩ (fun hHeld => ?_); refine with_tabW change_Decode.tab2 change_Decode.bits2 (fun HT_ HW_ => ?_)
 generalize w9.drew = w10 at BK201 BK202 HI205 HB hHeld ⊢; refine pure_ (i := 0) (N := some 19) (v := ?_) (a' := ?_) #[I,O,O,O,O,O,O,O,O,O,O,O,O,O] rfl rfl (any_of HT_.out (by kernel_rfl)) (fun _ _ _ h => h) (Or.inl ⟨by rfl, ?_⟩) ?_ ?_; rotate_left; · intro w'; go_simp; with_reducible rfl
 rotate_left; · simp only [Act.put, la0, la1, la2, i64_w, i32_w]; rfl
 refine pure_ (i := 3) (N := some 22) (v := ?_) (a' := ?_) #[I,O,O,I,O,O,O,O,O,O,O,O,O,O] rfl rfl (any_of HT_.out (by kernel_rfl)) (fun _ _ _ h => h) (Or.inl ⟨by rfl, ?_⟩) ?_ ?_; rotate_left; · intro w'; go_simp; with_reducible rfl
 rotate_left; · simp only [Act.put, la0, la1, la2, i64_w, i32_w]; rfl
 refine pure_ (i := 5) (N := some 24) (v := ?_) (a' := ?_) #[I,O,O,I,O,I,O,O,O,O,O,O,O,O] rfl rfl (any_of HT_.out (by kernel_rfl)) (fun _ _ _ h => h) (Or.inl ⟨by rfl, ?_⟩) ?_ ?_; rotate_left; · intro w'; go_simp; with_reducible rfl
 rotate_left; · simp only [Act.put, la0, la1, la2, i64_w, i32_w]; rfl
 refine pure_ (i := 6) (N := some 25) (v := ?_) (a' := ?_) #[I,O,O,I,O,I,I,O,O,O,O,O,O,O] rfl rfl (any_of HT_.out (by kernel_rfl)) (fun _ _ _ h => h) (Or.inl ⟨by rfl, ?_⟩) ?_ ?_; rotate_left; · intro w'; go_simp; with_reducible rfl
 rotate_left; · simp only [Act.put, la0, la1, la2, i64_w, i32_w]; rfl
 refine take_ (i := 1) (N := some 20) (v := ?_) (a' := ?_) #[I,I,O,I,O,I,I,O,O,O,O,O,O,O] rfl rfl (take_ofW HT_.out HW_.out (by kernel_rfl)) (fun _ _ _ h => h) (Or.inl ⟨by rfl, ?_⟩) hHeld ?_ ?_; rotate_left; · rintro w' ⟨s0, s1, s2, s3, s4, s5, s6, s7⟩; go_simp; with_reducible rfl
 rotate_left; · simp only [Act.put, la0, la1, la2, i64_w, i32_w]; rfl
 refine pure_ (i := 2) (N := some 21) (v := ?_) (a' := ?_) #[I,I,I,I,O,I,I,O,O,O,O,O,O,O] rfl rfl (any_of HT_.out (by kernel_rfl)) (fun _ _ _ h => h) (Or.inl ⟨by rfl, ?_⟩) ?_ ?_; rotate_left; · intro w'; go_simp; with_reducible rfl
 rotate_left; · simp only [Act.put, la0, la1, la2, i64_w, i32_w]; rfl
 refine take_ (i := 4) (N := some 23) (v := ?_) (a' := ?_) #[I,I,I,I,I,I,I,O,O,O,O,O,O,O] rfl rfl (take_ofW HT_.out HW_.out (by kernel_rfl)) (fun _ _ _ h => h) (Or.inl ⟨by rfl, ?_⟩) hHeld ?_ ?_; rotate_left; · rintro w' ⟨s0, s1, s2, s3, s4, s5, s6, s7⟩; go_simp; with_reducible rfl
 rotate_left; · simp only [Act.put, la0, la1, la2, i64_w, i32_w]; rfl
 refine take_ (i := 7) (N := some 26) (v := ?_) (a' := ?_) #[I,I,I,I,I,I,I,I,O,O,O,O,O,O] rfl rfl (take_ofW HT_.out HW_.out (by kernel_rfl)) (fun _ _ _ h => h) (Or.inl ⟨by rfl, ?_⟩) hHeld ?_ ?_; rotate_left; · rintro w' ⟨s0, s1, s2, s3, s4, s5, s6, s7⟩; go_simp; with_reducible rfl
 rotate_left; · simp only [Act.put, la0, la1, la2, i64_w, i32_w]; rfl
 refine pure_ (i := 8) (N := some 27) (v := ?_) (a' := ?_) #[I,I,I,I,I,I,I,I,I,O,O,O,O,O] rfl rfl (any_of HT_.out (by kernel_rfl)) (fun _ _ _ h => h) (Or.inl ⟨by rfl, ?_⟩) ?_ ?_; rotate_left; · intro w'; go_simp; with_reducible rfl
 rotate_left; · simp only [Act.put, la0, la1, la2, i64_w, i32_w]; rfl
 refine join_ (σ := Nat) 1 #[I,I,I,I,I,I,I,I,I,I,I,I,I,O] (fun s_ => [(28, .int .u64 t206), (7, .pointer (some ⟨s_, 0, none⟩)), (29, .int .u64 (IntKind.u64.wrap (a0_1 + t206))), (30, .agg #[.int .u64 (IntKind.u64.wrap (a0_0 + 1)), .int .u64 (IntKind.u64.wrap (a0_1 + t206)), .bool false, .int .u32 0, .int .u8 0, .int .i64 0, .int .u16 0, .int .u16 0])]) (fun s_ w' => (w'.cell? ⟨gb201, 0, none⟩ = some (.int .u64 a0_0) ∧ w'.cell? ⟨gb201, 1, none⟩ = some (.int .u64 a0_1) ∧ w'.cell? ⟨gb201, 2, none⟩ = some (.bool a0_2) ∧ w'.cell? ⟨gb201, 3, none⟩ = some (.int .u32 a0_3) ∧ w'.cell? ⟨gb201, 4, none⟩ = some (.int .u8 a0_4) ∧ w'.cell? ⟨gb201, 5, none⟩ = some (.int .i64 a0_5) ∧ w'.cell? ⟨gb201, 6, none⟩ = some (.int .u16 a0_6) ∧ w'.cell? ⟨gb201, 7, none⟩ = some (.int .u16 a0_7)) ∧ (w'.heap[gb201]? = some (.cells #[.int .u64 a0_0, .int .u64 a0_1, .bool a0_2, .int .u32 a0_3, .int .u8 a0_4, .int .i64 a0_5, .int .u16 a0_6, .int .u16 a0_7] 31 (0, 0))) ∧ (w'.heap[gb202]? = some (.cells #[.int .u64 0, .int .u64 0, .bool false, .int .u32 0, .int .u8 0, .int .i64 0, .int .u16 0, .int .u16 0] 31 (0, 0))) ∧ (w'.heap[s_]? = some (.cells #[.int .u64 0, .int .u64 0, .bool false, .int .u32 0, .int .u8 0, .int .i64 0, .int .u16 0, .int .u16 0] 31 (0, 0))) ∧ (w.heap.size ≤ s_) ∧ (w.heap.size ≤ s_) ∧ (g205 ≠ s_) ∧ (s_ ≠ g205) ∧ (gb201 ≠ s_) ∧ (s_ ≠ gb201) ∧ (gb202 ≠ s_) ∧ (s_ ≠ gb202) ∧ (IsS100 w w' g205 t207 t208) ∧ (Below w.heap.size w w')) ?_ ?_; rotate_left
 · intro hCont
   refine two_ (i := 9) (j := 12) (Ni := some 28) (Nj := some 7) #[I,I,I,I,I,I,I,I,I,I,O,O,O,O] #[I,I,I,I,I,I,I,I,I,O,O,O,I,O] rfl rfl rfl rfl (two_of HT_.out (by kernel_rfl)) (by decide) (by decide) (fun K hK => ?_) (fun K hK => ?_)
   · skip
     refine goes_ Try.func39 (by kernel_rfl) rfl #[.pointer (some ⟨g205, 0, none⟩), .int .u64 (Go.bits .xor .u64 IntKind.u64.max a0_1)] (by rfl) rfl rfl (by (try simp only [List.map_toArray, List.map_cons, List.map_nil]); first | rfl) ?_
     with_reducible refine (coin_Purse_Take.calls k g205 t203 t204 (Go.bits .xor .u64 IntKind.u64.max a0_1) t206 t207 t208 w _ ?side1 ?side2 A4.out).mono ?_
     (case side1 => repeat (first | (with_reducible first | exact HI205.out | refine IsS100.far ?_ NB205_202.out _)))
     (case side2 => repeat (first | (with_reducible first | exact HB.out | refine below_set ?_ GE202.out)))
     rintro e w11 ⟨rfl, hi, hb, hk⟩; refine ⟨_, rfl, ?_⟩; have n0_ := Aside0.mk (KeepBut.blk hk (g' := gb201) (o := .cells #[.int .u64 a0_0, .int .u64 a0_1, .bool a0_2, .int .u32 a0_3, .int .u8 a0_4, .int .i64 a0_5, .int .u16 a0_6, .int .u16 a0_7] 31 (0, 0)) BK201.out NB201_205.out (by simp)); have n1_ := Aside0.mk (KeepBut.blk hk (g' := gb202) (o := .cells #[.int .u64 0, .int .u64 0, .bool false, .int .u32 0, .int .u8 0, .int .i64 0, .int .u16 0, .int .u16 0] 31 (0, 0)) BK202.out NB202_205.out (by simp)); have n2_ := Aside0.mk (hb); have n3_ := Aside0.mk (hi); clear BK201; clear BK202; clear HB; clear HI205; have BK201 := n0_; have BK202 := n1_; have HB := n2_; have HI205 := n3_; clear n0_ n1_ n2_ n3_
     (try clear hb)
     (try clear hb2)
     (try clear hk)
     (try clear hi)
     refine hK.out _ _ ⟨(blk_cell BK201.out 0).trans rfl, (blk_cell BK201.out 1).trans rfl, (blk_cell BK201.out 2).trans rfl, (blk_cell BK201.out 3).trans rfl, (blk_cell BK201.out 4).trans rfl, (blk_cell BK201.out 5).trans rfl, (blk_cell BK201.out 6).trans rfl, (blk_cell BK201.out 7).trans rfl⟩ (fun hHeld => ?_); clear hK K; refine norm_ (a' := ?_) ?_ ?_; rotate_left
     · show Act.put _ (some 28) _ = _
       simp only [Act.put, la0, la1, la2, i64_w, i32_w]
       rfl
     refine pure_ (i := 10) (N := some 29) (v := ?_) (a' := ?_) #[I,I,I,I,I,I,I,I,I,I,I,O,O,O] rfl rfl (any_of HT_.out (by kernel_rfl)) (fun _ _ _ h => h) (Or.inl ⟨by rfl, ?_⟩) ?_ ?_; rotate_left; · intro w'; go_simp; with_reducible rfl
     rotate_left; · simp only [Act.put, la0, la1, la2, i64_w, i32_w]; rfl
     refine pure_ (i := 11) (N := some 30) (v := ?_) (a' := ?_) #[I,I,I,I,I,I,I,I,I,I,I,I,O,O] rfl rfl (any_of HT_.out (by kernel_rfl)) (fun _ _ _ h => h) (Or.inl ⟨by rfl, ?_⟩) ?_ ?_; rotate_left; · intro w'; go_simp; with_reducible rfl
     rotate_left; · simp only [Act.put, la0, la1, la2, i64_w, i32_w]; rfl
     refine one_ (i := 12) (N := some 7) #[I,I,I,I,I,I,I,I,I,I,I,I,I,O] rfl rfl (one_of HT_.out (by kernel_rfl)) (by decide) (fun K hK => ?_)
     refine box_step ?hg (N := 7) ?hd (cs := #[.int .u64 0, .int .u64 0, .bool false, .int .u32 0, .int .u8 0, .int .i64 0, .int .u16 0, .int .u16 0]) (t := 31) ?hr ?_; (case hd => rfl); (case hg => rfl); (case hr => first | (go_simp; done))
     intro gb209 hg w12 hbox hb; have n0_ := Aside0.mk (blk_below BK201.out hb); have n1_ := Aside0.mk (blk_below BK202.out hb); have n2_ := Aside0.mk (IsS100.below (by repeat (first | (with_reducible first | exact HI205.out | refine IsS100.far ?_ NB205_202.out _))) hb); have n3_ := Aside0.mk (below_step (by repeat (first | (with_reducible first | exact HB.out | refine below_set ?_ GE202.out))) hb); have n4_ := Aside0.mk (hbox); have n5_ := Aside0.mk ((by rw [hg]; exact (below_size (by repeat (first | (with_reducible first | exact HB.out | refine below_set ?_ GE202.out)))) : w.heap.size ≤ gb209)); have n6_ := Aside0.mk ((by rw [hg]; exact (below_size (by repeat (first | (with_reducible first | exact HB.out | refine below_set ?_ GE202.out)))) : w.heap.size ≤ gb209)); have n7_ := Aside0.mk ((by rw [hg]; exact Nat.ne_of_lt (blk_lt (g := gb201) (o := .cells #[.int .u64 a0_0, .int .u64 a0_1, .bool a0_2, .int .u32 a0_3, .int .u8 a0_4, .int .i64 a0_5, .int .u16 a0_6, .int .u16 a0_7] 31 (0, 0)) BK201.out) : gb201 ≠ gb209)); have n8_ := Aside0.mk ((by rw [hg]; exact Nat.ne_of_gt (blk_lt (g := gb201) (o := .cells #[.int .u64 a0_0, .int .u64 a0_1, .bool a0_2, .int .u32 a0_3, .int .u8 a0_4, .int .i64 a0_5, .int .u16 a0_6, .int .u16 a0_7] 31 (0, 0)) BK201.out) : gb209 ≠ gb201)); have n9_ := Aside0.mk ((by rw [hg]; exact Nat.ne_of_lt (blk_lt (g := gb202) (o := .cells #[.int .u64 0, .int .u64 0, .bool false, .int .u32 0, .int .u8 0, .int .i64 0, .int .u16 0, .int .u16 0] 31 (0, 0)) BK202.out) : gb202 ≠ gb209)); have n10_ := Aside0.mk ((by rw [hg]; exact Nat.ne_of_gt (blk_lt (g := gb202) (o := .cells #[.int .u64 0, .int .u64 0, .bool false, .int .u32 0, .int .u8 0, .int .i64 0, .int .u16 0, .int .u16 0] 31 (0, 0)) BK202.out) : gb209 ≠ gb202)); have n11_ := Aside0.mk ((by rw [hg]; exact Nat.ne_of_lt (IsS100.lt (show IsS100 w _ g205 t207 t208 from by repeat (first | (with_reducible first | exact HI205.out | refine IsS100.far ?_ NB205_202.out _)))) : g205 ≠ gb209)); have n12_ := Aside0.mk ((by rw [hg]; exact Nat.ne_of_gt (IsS100.lt (show IsS100 w _ g205 t207 t208 from by repeat (first | (with_reducible first | exact HI205.out | refine IsS100.far ?_ NB205_202.out _)))) : gb209 ≠ g205)); clear BK201; clear BK202; clear HI205; clear HB; have BK201 := n0_; have BK202 := n1_; have HI205 := n2_; have HB := n3_; have BK209 := n4_; have GW209 := n5_; have GE209 := n6_; have NB201_209 := n7_; have NB209_201 := n8_; have NB202_209 := n9_; have NB209_202 := n10_; have NB205_209 := n11_; have NB209_205 := n12_; clear n0_ n1_ n2_ n3_ n4_ n5_ n6_ n7_ n8_ n9_ n10_ n11_ n12_; clear hb hbox hg; refine hK.out _ _ ⟨(blk_cell BK201.out 0).trans rfl, (blk_cell BK201.out 1).trans rfl, (blk_cell BK201.out 2).trans rfl, (blk_cell BK201.out 3).trans rfl, (blk_cell BK201.out 4).trans rfl, (blk_cell BK201.out 5).trans rfl, (blk_cell BK201.out 6).trans rfl, (blk_cell BK201.out 7).trans rfl⟩ (fun hHeld => ?_); clear hK K; refine norm_ (a' := ?_) ?_ ?_; rotate_left
     · show Act.put _ (some 7) _ = _
       simp only [Act.put, la0, la1, la2, i64_w, i32_w]
       rfl
     exact norm_ (by simp only [putAll, Act.put, la0, la1, la2]) (hCont (gb209) _ ⟨hHeld, BK201.out, BK202.out, BK209.out, GW209.out, GE209.out, NB205_209.out, NB209_205.out, NB201_209.out, NB209_201.out, NB202_209.out, NB209_202.out, (by repeat (first | (with_reducible first | exact HI205.out | refine IsS100.far ?_ NB205_209.out _))), (by repeat (first | (with_reducible first | exact HB.out | refine below_set ?_ GE209.out)))⟩)
   skip
   refine box_step ?hg (N := 7) ?hd (cs := #[.int .u64 0, .int .u64 0, .bool false, .int .u32 0, .int .u8 0, .int .i64 0, .int .u16 0, .int .u16 0]) (t := 31) ?hr ?_; (case hd => rfl); (case hg => rfl); (case hr => first | (go_simp; done))
   intro gb209 hg w11 hbox hb; have n0_ := Aside0.mk (blk_below BK201.out hb); have n1_ := Aside0.mk (blk_below BK202.out hb); have n2_ := Aside0.mk (IsS100.below (by repeat (first | (with_reducible first | exact HI205.out | refine IsS100.far ?_ NB205_202.out _))) hb); have n3_ := Aside0.mk (below_step (by repeat (first | (with_reducible first | exact HB.out | refine below_set ?_ GE202.out))) hb); have n4_ := Aside0.mk (hbox); have n5_ := Aside0.mk ((by rw [hg]; exact (below_size (by repeat (first | (with_reducible first | exact HB.out | refine below_set ?_ GE202.out)))) : w.heap.size ≤ gb209)); have n6_ := Aside0.mk ((by rw [hg]; exact (below_size (by repeat (first | (with_reducible first | exact HB.out | refine below_set ?_ GE202.out)))) : w.heap.size ≤ gb209)); have n7_ := Aside0.mk ((by rw [hg]; exact Nat.ne_of_lt (blk_lt (g := gb201) (o := .cells #[.int .u64 a0_0, .int .u64 a0_1, .bool a0_2, .int .u32 a0_3, .int .u8 a0_4, .int .i64 a0_5, .int .u16 a0_6, .int .u16 a0_7] 31 (0, 0)) BK201.out) : gb201 ≠ gb209)); have n8_ := Aside0.mk ((by rw [hg]; exact Nat.ne_of_gt (blk_lt (g := gb201) (o := .cells #[.int .u64 a0_0, .int .u64 a0_1, .bool a0_2, .int .u32 a0_3, .int .u8 a0_4, .int .i64 a0_5, .int .u16 a0_6, .int .u16 a0_7] 31 (0, 0)) BK201.out) : gb209 ≠ gb201)); have n9_ := Aside0.mk ((by rw [hg]; exact Nat.ne_of_lt (blk_lt (g := gb202) (o := .cells #[.int .u64 0, .int .u64 0, .bool false, .int .u32 0, .int .u8 0, .int .i64 0, .int .u16 0, .int .u16 0] 31 (0, 0)) BK202.out) : gb202 ≠ gb209)); have n10_ := Aside0.mk ((by rw [hg]; exact Nat.ne_of_gt (blk_lt (g := gb202) (o := .cells #[.int .u64 0, .int .u64 0, .bool false, .int .u32 0, .int .u8 0, .int .i64 0, .int .u16 0, .int .u16 0] 31 (0, 0)) BK202.out) : gb209 ≠ gb202)); have n11_ := Aside0.mk ((by rw [hg]; exact Nat.ne_of_lt (IsS100.lt (show IsS100 w _ g205 t203 t204 from by repeat (first | (with_reducible first | exact HI205.out | refine IsS100.far ?_ NB205_202.out _)))) : g205 ≠ gb209)); have n12_ := Aside0.mk ((by rw [hg]; exact Nat.ne_of_gt (IsS100.lt (show IsS100 w _ g205 t203 t204 from by repeat (first | (with_reducible first | exact HI205.out | refine IsS100.far ?_ NB205_202.out _)))) : gb209 ≠ g205)); clear BK201; clear BK202; clear HI205; clear HB; have BK201 := n0_; have BK202 := n1_; have HI205 := n2_; have HB := n3_; have BK209 := n4_; have GW209 := n5_; have GE209 := n6_; have NB201_209 := n7_; have NB209_201 := n8_; have NB202_209 := n9_; have NB209_202 := n10_; have NB205_209 := n11_; have NB209_205 := n12_; clear n0_ n1_ n2_ n3_ n4_ n5_ n6_ n7_ n8_ n9_ n10_ n11_ n12_; clear hb hbox hg; refine hK.out _ _ ⟨(blk_cell BK201.out 0).trans rfl, (blk_cell BK201.out 1).trans rfl, (blk_cell BK201.out 2).trans rfl, (blk_cell BK201.out 3).trans rfl, (blk_cell BK201.out 4).trans rfl, (blk_cell BK201.out 5).trans rfl, (blk_cell BK201.out 6).trans rfl, (blk_cell BK201.out 7).trans rfl⟩ (fun hHeld => ?_); clear hK K; refine norm_ (a' := ?_) ?_ ?_; rotate_left
   · show Act.put _ (some 7) _ = _
     simp only [Act.put, la0, la1, la2, i64_w, i32_w]
     rfl
   refine one_ (i := 9) (N := some 28) #[I,I,I,I,I,I,I,I,I,I,O,O,I,O] rfl rfl (one_of HT_.out (by kernel_rfl)) (by decide) (fun K hK => ?_); refine goes_ Try.func39 (by kernel_rfl) rfl #[.pointer (some ⟨g205, 0, none⟩), .int .u64 (Go.bits .xor .u64 IntKind.u64.max a0_1)] (by rfl) rfl rfl (by (try simp only [List.map_toArray, List.map_cons, List.map_nil]); first | rfl) ?_
   with_reducible refine (coin_Purse_Take.calls k g205 t203 t204 (Go.bits .xor .u64 IntKind.u64.max a0_1) t206 t207 t208 w _ ?side1 ?side2 A4.out).mono ?_
   (case side1 => repeat (first | (with_reducible first | exact HI205.out | refine IsS100.far ?_ NB205_209.out _)))
   (case side2 => repeat (first | (with_reducible first | exact HB.out | refine below_set ?_ GE209.out)))
   rintro e w12 ⟨rfl, hi, hb, hk⟩; refine ⟨_, rfl, ?_⟩; have n0_ := Aside0.mk (KeepBut.blk hk (g' := gb201) (o := .cells #[.int .u64 a0_0, .int .u64 a0_1, .bool a0_2, .int .u32 a0_3, .int .u8 a0_4, .int .i64 a0_5, .int .u16 a0_6, .int .u16 a0_7] 31 (0, 0)) BK201.out NB201_205.out (by simp)); have n1_ := Aside0.mk (KeepBut.blk hk (g' := gb202) (o := .cells #[.int .u64 0, .int .u64 0, .bool false, .int .u32 0, .int .u8 0, .int .i64 0, .int .u16 0, .int .u16 0] 31 (0, 0)) BK202.out NB202_205.out (by simp)); have n2_ := Aside0.mk (KeepBut.blk hk (g' := gb209) (o := .cells #[.int .u64 0, .int .u64 0, .bool false, .int .u32 0, .int .u8 0, .int .i64 0, .int .u16 0, .int .u16 0] 31 (0, 0)) BK209.out NB209_205.out (by simp)); have n3_ := Aside0.mk (hb); have n4_ := Aside0.mk (hi); clear BK201; clear BK202; clear BK209; clear HB; clear HI205; have BK201 := n0_; have BK202 := n1_; have BK209 := n2_; have HB := n3_; have HI205 := n4_; clear n0_ n1_ n2_ n3_ n4_
   (try clear hb)
   (try clear hb2)
   (try clear hk)
   (try clear hi)
   refine hK.out _ _ ⟨(blk_cell BK201.out 0).trans rfl, (blk_cell BK201.out 1).trans rfl, (blk_cell BK201.out 2).trans rfl, (blk_cell BK201.out 3).trans rfl, (blk_cell BK201.out 4).trans rfl, (blk_cell BK201.out 5).trans rfl, (blk_cell BK201.out 6).trans rfl, (blk_cell BK201.out 7).trans rfl⟩ (fun hHeld => ?_); clear hK K; refine norm_ (a' := ?_) ?_ ?_; rotate_left
   · show Act.put _ (some 28) _ = _
     simp only [Act.put, la0, la1, la2, i64_w, i32_w]
     rfl
   refine pure_ (i := 10) (N := some 29) (v := ?_) (a' := ?_) #[I,I,I,I,I,I,I,I,I,I,I,O,I,O] rfl rfl (any_of HT_.out (by kernel_rfl)) (fun _ _ _ h => h) (Or.inl ⟨by rfl, ?_⟩) ?_ ?_; rotate_left; · intro w'; go_simp; with_reducible rfl
   rotate_left; · simp only [Act.put, la0, la1, la2, i64_w, i32_w]; rfl
   refine pure_ (i := 11) (N := some 30) (v := ?_) (a' := ?_) #[I,I,I,I,I,I,I,I,I,I,I,I,I,O] rfl rfl (any_of HT_.out (by kernel_rfl)) (fun _ _ _ h => h) (Or.inl ⟨by rfl, ?_⟩) ?_ ?_; rotate_left; · intro w'; go_simp; with_reducible rfl
   rotate_left; · simp only [Act.put, la0, la1, la2, i64_w, i32_w]; rfl
   exact norm_ (by simp only [putAll, Act.put, la0, la1, la2]) (hCont (gb209) _ ⟨hHeld, BK201.out, BK202.out, BK209.out, GW209.out, GE209.out, NB205_209.out, NB209_205.out, NB201_209.out, NB209_201.out, NB202_209.out, NB209_202.out, (by repeat (first | (with_reducible first | exact HI205.out | refine IsS100.far ?_ NB205_209.out _))), (by repeat (first | (with_reducible first | exact HB.out | refine below_set ?_ GE209.out)))⟩)
 rintro gb209 w13 ⟨hS_, h0_, h1_, h2_, h3_, h4_, h5_, h6_, h7_, h8_, h9_, h10_, h11_, h12_⟩; have n0_ : Aside0 (w13.heap[gb201]? = some (.cells #[.int .u64 a0_0, .int .u64 a0_1, .bool a0_2, .int .u32 a0_3, .int .u8 a0_4, .int .i64 a0_5, .int .u16 a0_6, .int .u16 a0_7] 31 (0, 0))) := ⟨h0_⟩; have n1_ : Aside0 (w13.heap[gb202]? = some (.cells #[.int .u64 0, .int .u64 0, .bool false, .int .u32 0, .int .u8 0, .int .i64 0, .int .u16 0, .int .u16 0] 31 (0, 0))) := ⟨h1_⟩; have n2_ : Aside0 (w13.heap[gb209]? = some (.cells #[.int .u64 0, .int .u64 0, .bool false, .int .u32 0, .int .u8 0, .int .i64 0, .int .u16 0, .int .u16 0] 31 (0, 0))) := ⟨h2_⟩; have n3_ : Aside0 (w.heap.size ≤ gb209) := ⟨h3_⟩; have n4_ : Aside0 (w.heap.size ≤ gb209) := ⟨h4_⟩; have n5_ : Aside0 (g205 ≠ gb209) := ⟨h5_⟩; have n6_ : Aside0 (gb209 ≠ g205) := ⟨h6_⟩; have n7_ : Aside0 (gb201 ≠ gb209) := ⟨h7_⟩; have n8_ : Aside0 (gb209 ≠ gb201) := ⟨h8_⟩; have n9_ : Aside0 (gb202 ≠ gb209) := ⟨h9_⟩; have n10_ : Aside0 (gb209 ≠ gb202) := ⟨h10_⟩; have n11_ : Aside0 (IsS100 w w13 g205 t207 t208) := ⟨h11_⟩; have n12_ : Aside0 (Below w.heap.size w w13) := ⟨h12_⟩; clear BK201; clear BK202; clear HI205; clear HB; clear h0_ h1_ h2_ h3_ h4_ h5_ h6_ h7_ h8_ h9_ h10_ h11_ h12_; have BK201 := n0_; have BK202 := n1_; have BK209 := n2_; have GW209 := n3_; have GE209 := n4_; have NB205_209 := n5_; have NB209_205 := n6_; have NB201_209 := n7_; have NB209_201 := n8_; have NB202_209 := n9_; have NB209_202 := n10_; have HI205 := n11_; have HB := n12_; clear n0_ n1_ n2_ n3_ n4_ n5_ n6_ n7_ n8_ n9_ n10_ n11_ n12_
 have hHeld : w13.cell? ⟨gb201, 0, none⟩ = some (.int .u64 a0_0) ∧ w13.cell? ⟨gb201, 1, none⟩ = some (.int .u64 a0_1) ∧ w13.cell? ⟨gb201, 2, none⟩ = some (.bool a0_2) ∧ w13.cell? ⟨gb201, 3, none⟩ = some (.int .u32 a0_3) ∧ w13.cell? ⟨gb201, 4, none⟩ = some (.int .u8 a0_4) ∧ w13.cell? ⟨gb201, 5, none⟩ = some (.int .i64 a0_5) ∧ w13.cell? ⟨gb201, 6, none⟩ = some (.int .u16 a0_6) ∧ w13.cell? ⟨gb201, 7, none⟩ = some (.int .u16 a0_7) := hS_
 refine norm_ (a' := ?_) ?_ ?_; rotate_left; · simp only [putAll, Act.put, la0, la1, la2]; rfl
 refine one_ (i := 13) (N := none) #[I,I,I,I,I,I,I,I,I,I,I,I,I,I] rfl rfl (one_of HT_.out (by kernel_rfl)) (by decide) (fun K hK => ?_); have hs14 : w13.cell? ⟨gb209, 0, none⟩ = some (.int .u64 0) := (blk_cell BK209.out 0).trans rfl; have hfs14 := blk_frozen BK209.out 0; have hns14_0 := NB201_209.out; have hns14_1 := NB202_209.out; have hms14_0 := NB209_201.out; have hms14_1 := NB209_202.out; have hs15 : w13.cell? ⟨gb209, 1, none⟩ = some (.int .u64 0) := (blk_cell BK209.out 1).trans rfl; have hfs15 := blk_frozen BK209.out 1; have hns15_0 := NB201_209.out; have hns15_1 := NB202_209.out; have hms15_0 := NB209_201.out; have hms15_1 := NB209_202.out; have hs16 : w13.cell? ⟨gb209, 2, none⟩ = some (.bool false) := (blk_cell BK209.out 2).trans rfl; have hfs16 := blk_frozen BK209.out 2; have hns16_0 := NB201_209.out; have hns16_1 := NB202_209.out; have hms16_0 := NB209_201.out; have hms16_1 := NB209_202.out; have hs17 : w13.cell? ⟨gb209, 3, none⟩ = some (.int .u32 0) := (blk_cell BK209.out 3).trans rfl; have hfs17 := blk_frozen BK209.out 3; have hns17_0 := NB201_209.out; have hns17_1 := NB202_209.out; have hms17_0 := NB209_201.out; have hms17_1 := NB209_202.out; have hs18 : w13.cell? ⟨gb209, 4, none⟩ = some (.int .u8 0) := (blk_cell BK209.out 4).trans rfl; have hfs18 := blk_frozen BK209.out 4; have hns18_0 := NB201_209.out; have hns18_1 := NB202_209.out; have hms18_0 := NB209_201.out; have hms18_1 := NB209_202.out; have hs19 : w13.cell? ⟨gb209, 5, none⟩ = some (.int .i64 0) := (blk_cell BK209.out 5).trans rfl; have hfs19 := blk_frozen BK209.out 5; have hns19_0 := NB201_209.out; have hns19_1 := NB202_209.out; have hms19_0 := NB209_201.out; have hms19_1 := NB209_202.out; have hs20 : w13.cell? ⟨gb209, 6, none⟩ = some (.int .u16 0) := (blk_cell BK209.out 6).trans rfl; have hfs20 := blk_frozen BK209.out 6; have hns20_0 := NB201_209.out; have hns20_1 := NB202_209.out; have hms20_0 := NB209_201.out; have hms20_1 := NB209_202.out; have hs21 : w13.cell? ⟨gb209, 7, none⟩ = some (.int .u16 0) := (blk_cell BK209.out 7).trans rfl; have hfs21 := blk_frozen BK209.out 7; have hns21_0 := NB201_209.out; have hns21_1 := NB202_209.out; have hms21_0 := NB209_201.out; have hms21_1 := NB209_202.out; refine skip_ (w1 := ?_) (by rfl) rfl ?_ ?_; rotate_left; · go_simp; rfl
 refine hK.out _ _ ⟨((cell_far (p := ⟨gb209, _, none⟩) NB201_209.out _).trans (((cell_far (p := ⟨gb209, _, none⟩) NB201_209.out _).trans (((cell_far (p := ⟨gb209, _, none⟩) NB201_209.out _).trans (((cell_far (p := ⟨gb209, _, none⟩) NB201_209.out _).trans (((cell_far (p := ⟨gb209, _, none⟩) NB201_209.out _).trans (((cell_far (p := ⟨gb209, _, none⟩) NB201_209.out _).trans (((cell_far (p := ⟨gb209, _, none⟩) NB201_209.out _).trans (((cell_far (p := ⟨gb209, _, none⟩) NB201_209.out _).trans (hHeld.1)))))))))))))))), ((cell_far (p := ⟨gb209, _, none⟩) NB201_209.out _).trans (((cell_far (p := ⟨gb209, _, none⟩) NB201_209.out _).trans (((cell_far (p := ⟨gb209, _, none⟩) NB201_209.out _).trans (((cell_far (p := ⟨gb209, _, none⟩) NB201_209.out _).trans (((cell_far (p := ⟨gb209, _, none⟩) NB201_209.out _).trans (((cell_far (p := ⟨gb209, _, none⟩) NB201_209.out _).trans (((cell_far (p := ⟨gb209, _, none⟩) NB201_209.out _).trans (((cell_far (p := ⟨gb209, _, none⟩) NB201_209.out _).trans (hHeld.2.1)))))))))))))))), ((cell_far (p := ⟨gb209, _, none⟩) NB201_209.out _).trans (((cell_far (p := ⟨gb209, _, none⟩) NB201_209.out _).trans (((cell_far (p := ⟨gb209, _, none⟩) NB201_209.out _).trans (((cell_far (p := ⟨gb209, _, none⟩) NB201_209.out _).trans (((cell_far (p := ⟨gb209, _, none⟩) NB201_209.out _).trans (((cell_far (p := ⟨gb209, _, none⟩) NB201_209.out _).trans (((cell_far (p := ⟨gb209, _, none⟩) NB201_209.out _).trans (((cell_far (p := ⟨gb209, _, none⟩) NB201_209.out _).trans (hHeld.2.2.1)))))))))))))))), ((cell_far (p := ⟨gb209, _, none⟩) NB201_209.out _).trans (((cell_far (p := ⟨gb209, _, none⟩) NB201_209.out _).trans (((cell_far (p := ⟨gb209, _, none⟩) NB201_209.out _).trans (((cell_far (p := ⟨gb209, _, none⟩) NB201_209.out _).trans (((cell_far (p := ⟨gb209, _, none⟩) NB201_209.out _).trans (((cell_far (p := ⟨gb209, _, none⟩) NB201_209.out _).trans (((cell_far (p := ⟨gb209, _, none⟩) NB201_209.out _).trans (((cell_far (p := ⟨gb209, _, none⟩) NB201_209.out _).trans (hHeld.2.2.2.1)))))))))))))))), ((cell_far (p := ⟨gb209, _, none⟩) NB201_209.out _).trans (((cell_far (p := ⟨gb209, _, none⟩) NB201_209.out _).trans (((cell_far (p := ⟨gb209, _, none⟩) NB201_209.out _).trans (((cell_far (p := ⟨gb209, _, none⟩) NB201_209.out _).trans (((cell_far (p := ⟨gb209, _, none⟩) NB201_209.out _).trans (((cell_far (p := ⟨gb209, _, none⟩) NB201_209.out _).trans (((cell_far (p := ⟨gb209, _, none⟩) NB201_209.out _).trans (((cell_far (p := ⟨gb209, _, none⟩) NB201_209.out _).trans (hHeld.2.2.2.2.1)))))))))))))))), ((cell_far (p := ⟨gb209, _, none⟩) NB201_209.out _).trans (((cell_far (p := ⟨gb209, _, none⟩) NB201_209.out _).trans (((cell_far (p := ⟨gb209, _, none⟩) NB201_209.out _).trans (((cell_far (p := ⟨gb209, _, none⟩) NB201_209.out _).trans (((cell_far (p := ⟨gb209, _, none⟩) NB201_209.out _).trans (((cell_far (p := ⟨gb209, _, none⟩) NB201_209.out _).trans (((cell_far (p := ⟨gb209, _, none⟩) NB201_209.out _).trans (((cell_far (p := ⟨gb209, _, none⟩) NB201_209.out _).trans (hHeld.2.2.2.2.2.1)))))))))))))))), ((cell_far (p := ⟨gb209, _, none⟩) NB201_209.out _).trans (((cell_far (p := ⟨gb209, _, none⟩) NB201_209.out _).trans (((cell_far (p := ⟨gb209, _, none⟩) NB201_209.out _).trans (((cell_far (p := ⟨gb209, _, none⟩) NB201_209.out _).trans (((cell_far (p := ⟨gb209, _, none⟩) NB201_209.out _).trans (((cell_far (p := ⟨gb209, _, none⟩) NB201_209.out _).trans (((cell_far (p := ⟨gb209, _, none⟩) NB201_209.out _).trans (((cell_far (p := ⟨gb209, _, none⟩) NB201_209.out _).trans (hHeld.2.2.2.2.2.2.1)))))))))))))))), ((cell_far (p := ⟨gb209, _, none⟩) NB201_209.out _).trans (((cell_far (p := ⟨gb209, _, none⟩) NB201_209.out _).trans (((cell_far (p := ⟨gb209, _, none⟩) NB201_209.out _).trans (((cell_far (p := ⟨gb209, _, none⟩) NB201_209.out _).trans (((cell_far (p := ⟨gb209, _, none⟩) NB201_209.out _).trans (((cell_far (p := ⟨gb209, _, none⟩) NB201_209.out _).trans (((cell_far (p := ⟨gb209, _, none⟩) NB201_209.out _).trans (((cell_far (p := ⟨gb209, _, none⟩) NB201_209.out _).trans (hHeld.2.2.2.2.2.2.2))))))))))))))))⟩ (fun hHeld => ?_)
 clear hK K; refine done_ (done_of HT_.out (by kernel_rfl)) ?_
 go_upto_region 6 with (first | ((with_reducible refine gate_callee (f := 39) rfl ?_); refine goesL_ (some 32) rfl rfl Try.func39 (by kernel_rfl) rfl #[.pointer (some ⟨g205, 0, none⟩), .int .u64 1023] rfl (by (try simp only [List.map_toArray, List.map_cons, List.map_nil]); first | rfl | (refine qa_arr ?_; (repeat' (first | rfl | refine qa_cons ?_ ?_ | refine qa_int ?_ | refine qa_agg ?_ | refine qa_arr ?_ | omega)); done)) ?_; (with_reducible refine (coin_Purse_Take.calls k g205 t207 t208 1023 t210 t211 t212 w _ ?side1 ?side2 A5.out).mono ?_); (case side1 => repeat (first | (with_reducible first | exact HI205.out | refine IsS100.far ?_ NB205_209.out _))); (case side2 => repeat (first | (with_reducible first | exact HB.out | refine below_set ?_ GE209.out))); rintro e w22 ⟨rfl, hi, hb, hk⟩; refine ⟨_, rfl, ?_⟩; have n0_ := Aside0.mk (KeepBut.blk hk (g' := gb201) (o := .cells #[.int .u64 a0_0, .int .u64 a0_1, .bool a0_2, .int .u32 a0_3, .int .u8 a0_4, .int .i64 a0_5, .int .u16 a0_6, .int .u16 a0_7] 31 (0, 0)) (by refine blk_far ?_ NB201_209.out _; refine blk_far ?_ NB201_209.out _; refine blk_far ?_ NB201_209.out _; refine blk_far ?_ NB201_209.out _; refine blk_far ?_ NB201_209.out _; refine blk_far ?_ NB201_209.out _; refine blk_far ?_ NB201_209.out _; refine blk_far ?_ NB201_209.out _; exact BK201.out) NB201_205.out (by simp)); have n1_ := Aside0.mk (KeepBut.blk hk (g' := gb202) (o := .cells #[.int .u64 0, .int .u64 0, .bool false, .int .u32 0, .int .u8 0, .int .i64 0, .int .u16 0, .int .u16 0] 31 (0, 0)) (by refine blk_far ?_ NB202_209.out _; refine blk_far ?_ NB202_209.out _; refine blk_far ?_ NB202_209.out _; refine blk_far ?_ NB202_209.out _; refine blk_far ?_ NB202_209.out _; refine blk_far ?_ NB202_209.out _; refine blk_far ?_ NB202_209.out _; refine blk_far ?_ NB202_209.out _; exact BK202.out) NB202_205.out (by simp)); have n2_ := Aside0.mk (KeepBut.blk hk (g' := gb209) (o := .cells #[.int .u64 (IntKind.u64.wrap (a0_0 + 1)), .int .u64 (IntKind.u64.wrap (a0_1 + t206)), .bool false, .int .u32 0, .int .u8 0, .int .i64 0, .int .u16 0, .int .u16 0] 31 (0, 0)) (by refine blk_put (cs := #[.int .u64 (IntKind.u64.wrap (a0_0 + 1)), .int .u64 (IntKind.u64.wrap (a0_1 + t206)), .bool false, .int .u32 0, .int .u8 0, .int .i64 0, .int .u16 0, .int .u16 0]) ?_ 7 _ rfl; refine blk_put (cs := #[.int .u64 (IntKind.u64.wrap (a0_0 + 1)), .int .u64 (IntKind.u64.wrap (a0_1 + t206)), .bool false, .int .u32 0, .int .u8 0, .int .i64 0, .int .u16 0, .int .u16 0]) ?_ 6 _ rfl; refine blk_put (cs := #[.int .u64 (IntKind.u64.wrap (a0_0 + 1)), .int .u64 (IntKind.u64.wrap (a0_1 + t206)), .bool false, .int .u32 0, .int .u8 0, .int .i64 0, .int .u16 0, .int .u16 0]) ?_ 5 _ rfl; refine blk_put (cs := #[.int .u64 (IntKind.u64.wrap (a0_0 + 1)), .int .u64 (IntKind.u64.wrap (a0_1 + t206)), .bool false, .int .u32 0, .int .u8 0, .int .i64 0, .int .u16 0, .int .u16 0]) ?_ 4 _ rfl; refine blk_put (cs := #[.int .u64 (IntKind.u64.wrap (a0_0 + 1)), .int .u64 (IntKind.u64.wrap (a0_1 + t206)), .bool false, .int .u32 0, .int .u8 0, .int .i64 0, .int .u16 0, .int .u16 0]) ?_ 3 _ rfl; refine blk_put (cs := #[.int .u64 (IntKind.u64.wrap (a0_0 + 1)), .int .u64 (IntKind.u64.wrap (a0_1 + t206)), .bool false, .int .u32 0, .int .u8 0, .int .i64 0, .int .u16 0, .int .u16 0]) ?_ 2 _ rfl; refine blk_put (cs := #[.int .u64 (IntKind.u64.wrap (a0_0 + 1)), .int .u64 0, .bool false, .int .u32 0, .int .u8 0, .int .i64 0, .int .u16 0, .int .u16 0]) ?_ 1 _ rfl; refine blk_put (cs := #[.int .u64 0, .int .u64 0, .bool false, .int .u32 0, .int .u8 0, .int .i64 0, .int .u16 0, .int .u16 0]) ?_ 0 _ rfl; exact BK209.out) NB209_205.out (by simp)); have n3_ := Aside0.mk (hb); have n4_ := Aside0.mk (hi); clear BK201 BK202 BK209 HB HI205; revert n0_ n1_ n2_ n3_ n4_; intro BK201 BK202 BK209 HB HI205; (try clear hb); (try clear hb2); (try clear hk); (try clear hi); have hnb23 := NB209_201.out; have hnc23 := NB201_209.out; have hnb24 := NB209_202.out; have hnc24 := NB202_209.out; have hnb25 := NB209_205.out; have hnc25 := NB205_209.out; have hcz26_0 : w22.cell? ⟨gb209, 0, none⟩ = some (.int .u64 (IntKind.u64.wrap (a0_0 + 1))) := (blk_cell BK209.out 0).trans rfl; have hcz26_1 : w22.cell? ⟨gb209, 1, none⟩ = some (.int .u64 (IntKind.u64.wrap (a0_1 + t206))) := (blk_cell BK209.out 1).trans rfl; have hcz26_2 : w22.cell? ⟨gb209, 2, none⟩ = some (.bool false) := (blk_cell BK209.out 2).trans rfl; have hcz26_3 : w22.cell? ⟨gb209, 3, none⟩ = some (.int .u32 0) := (blk_cell BK209.out 3).trans rfl; have hcz26_4 : w22.cell? ⟨gb209, 4, none⟩ = some (.int .u8 0) := (blk_cell BK209.out 4).trans rfl; have hcz26_5 : w22.cell? ⟨gb209, 5, none⟩ = some (.int .i64 0) := (blk_cell BK209.out 5).trans rfl; have hcz26_6 : w22.cell? ⟨gb209, 6, none⟩ = some (.int .u16 0) := (blk_cell BK209.out 6).trans rfl; have hcz26_7 : w22.cell? ⟨gb209, 7, none⟩ = some (.int .u16 0) := (blk_cell BK209.out 7).trans rfl; have hfz26_0 := blk_frozen BK209.out 0; have hfz26_1 := blk_frozen BK209.out 1; have hfz26_2 := blk_frozen BK209.out 2; have hfz26_3 := blk_frozen BK209.out 3; have hfz26_4 := blk_frozen BK209.out 4; have hfz26_5 := blk_frozen BK209.out 5; have hfz26_6 := blk_frozen BK209.out 6; have hfz26_7 := blk_frozen BK209.out 7))
 (try simp only [Act.put, la0, la1, la2])
 go_cut [57] (fun v57 wc => ∃ (kq : Nat) (x57_5 : Bool), v57 = .bool x57_5 ∧ Aside0 (change_Decode.j0 kq l1 ((t210 / 16) % 256) (wrap64 (Go.bits .and .u64 (t210 / 2) 7)) x57_5 a0_0 a0_1 a0_2 a0_3 a0_4 a0_5 a0_6 a0_7 t211 t212 (IntKind.u64.wrap (a0_0 + 1)) (IntKind.u64.wrap (a0_1 + t206)) ((Go.bits .and .u64 t210 1) == 1) 0 0 0 0 0 = some (r1, r2, r3, r4, r5, r6, r7, r8, r9)) ∧ Aside0 (kq ≤ k) ∧ Aside0 (wc.heap[gb201]? = some (.cells #[.int .u64 a0_0, .int .u64 a0_1, .bool a0_2, .int .u32 a0_3, .int .u8 a0_4, .int .i64 a0_5, .int .u16 a0_6, .int .u16 a0_7] 31 (0, 0))) ∧ Aside0 (wc.heap[gb202]? = some (.cells #[.int .u64 0, .int .u64 0, .bool false, .int .u32 0, .int .u8 0, .int .i64 0, .int .u16 0, .int .u16 0] 31 (0, 0))) ∧ Aside0 (wc.heap[gb209]? = some (.cells #[.int .u64 (IntKind.u64.wrap (a0_0 + 1)), .int .u64 (IntKind.u64.wrap (a0_1 + t206)), .bool ((Go.bits .and .u64 t210 1) == 1), .int .u32 0, .int .u8 0, .int .i64 0, .int .u16 0, .int .u16 0] 31 (0, 0))) ∧ Aside0 (IsS100 w wc g205 t211 t212) ∧ Aside0 (Below w.heap.size w wc))
 case first =>
  have H := HC6.out; clear HC6
  by_cases c27 : ((t210 / 16) % 256) > 32
  · rw [if_pos c27] at H
    have c27b0 : decide (32 < ((t210 / 16) % 256)) = true := decide_eq_true c27; clear c27
    (first | skip)
    have H' := Aside0.mk H; clear H
    try go_wp2
    have n0_ : Aside0 ((w22.setCell ⟨gb209, 2, none⟩ (.bool ((Go.bits .and .u64 t210 1) == 1))).heap[gb201]? = some (.cells #[.int .u64 a0_0, .int .u64 a0_1, .bool a0_2, .int .u32 a0_3, .int .u8 a0_4, .int .i64 a0_5, .int .u16 a0_6, .int .u16 a0_7] 31 (0, 0))) := ⟨by refine blk_far ?_ NB201_209.out _; exact BK201.out⟩; have n1_ : Aside0 ((w22.setCell ⟨gb209, 2, none⟩ (.bool ((Go.bits .and .u64 t210 1) == 1))).heap[gb202]? = some (.cells #[.int .u64 0, .int .u64 0, .bool false, .int .u32 0, .int .u8 0, .int .i64 0, .int .u16 0, .int .u16 0] 31 (0, 0))) := ⟨by refine blk_far ?_ NB202_209.out _; exact BK202.out⟩; have n2_ : Aside0 ((w22.setCell ⟨gb209, 2, none⟩ (.bool ((Go.bits .and .u64 t210 1) == 1))).heap[gb209]? = some (.cells #[.int .u64 (IntKind.u64.wrap (a0_0 + 1)), .int .u64 (IntKind.u64.wrap (a0_1 + t206)), .bool ((Go.bits .and .u64 t210 1) == 1), .int .u32 0, .int .u8 0, .int .i64 0, .int .u16 0, .int .u16 0] 31 (0, 0))) := ⟨by refine blk_put (cs := #[.int .u64 (IntKind.u64.wrap (a0_0 + 1)), .int .u64 (IntKind.u64.wrap (a0_1 + t206)), .bool false, .int .u32 0, .int .u8 0, .int .i64 0, .int .u16 0, .int .u16 0]) ?_ 2 _ rfl; exact BK209.out⟩; have n3_ : Aside0 (IsS100 w (w22.setCell ⟨gb209, 2, none⟩ (.bool ((Go.bits .and .u64 t210 1) == 1))) g205 t211 t212) := ⟨by repeat (first | (with_reducible first | exact HI205.out | refine IsS100.far ?_ NB205_209.out _))⟩; have n4_ : Aside0 (Below w.heap.size w (w22.setCell ⟨gb209, 2, none⟩ (.bool ((Go.bits .and .u64 t210 1) == 1)))) := ⟨by repeat (first | (with_reducible first | exact HB.out | refine below_set ?_ GE209.out))⟩
    (try clear BK201)
    (try clear BK202)
    (try clear BK209)
    (try clear HI205)
    (try clear HB)
    generalize (w22.setCell ⟨gb209, 2, none⟩ (.bool ((Go.bits .and .u64 t210 1) == 1))) = w28 at n0_ n1_ n2_ n3_ n4_ ⊢; have BK201 := n0_; have BK202 := n1_; have BK209 := n2_; have HI205 := n3_; have HB := n4_; clear n0_ n1_ n2_ n3_ n4_; have n0_ := Aside0.mk (blk_drew BK201.out); have n1_ := Aside0.mk (blk_drew BK202.out); have n2_ := Aside0.mk (blk_drew BK209.out); have n3_ := Aside0.mk (IsS100.drew HI205.out); have n4_ := Aside0.mk (below_drew1 HB.out); clear BK201; clear BK202; clear BK209; clear HI205; clear HB; have BK201 := n0_; have BK202 := n1_; have BK209 := n2_; have HI205 := n3_; have HB := n4_; clear n0_ n1_ n2_ n3_ n4_
    refine start_ (n := 14) (S := fun w' => True) (ds := []) #[O,O,O,O,O,O,O,O,O,O,O,O,O,O] (by kernel_rfl) rfl rfl trivial (fun hHeld => ?_); refine with_tabW change_Decode.tab6 change_Decode.bits6 (fun HT_ HW_ => ?_)
    generalize w28.drew = w29 at BK201 BK202 BK209 HI205 HB hHeld ⊢; refine pure_ (i := 0) (N := some 44) (v := ?_) (a' := ?_) #[I,O,O,O,O,O,O,O,O,O,O,O,O,O] rfl rfl (any_of HT_.out (by kernel_rfl)) (fun _ _ _ h => h) (Or.inl ⟨by rfl, ?_⟩) ?_ ?_; rotate_left; · intro w'; go_simp; with_reducible rfl
    rotate_left; · simp only [Act.put, la0, la1, la2, i64_w, i32_w]; rfl
    refine pure_ (i := 1) (N := some 45) (v := ?_) (a' := ?_) #[I,I,O,O,O,O,O,O,O,O,O,O,O,O] rfl rfl (any_of HT_.out (by kernel_rfl)) (fun _ _ _ h => h) (Or.inl ⟨by rfl, ?_⟩) ?_ ?_; rotate_left; · intro w'; go_simp; with_reducible rfl
    rotate_left; · simp only [Act.put, la0, la1, la2, i64_w, i32_w]; rfl
    refine pure_ (i := 2) (N := some 46) (v := ?_) (a' := ?_) #[I,I,I,O,O,O,O,O,O,O,O,O,O,O] rfl rfl (any_of HT_.out (by kernel_rfl)) (fun _ _ _ h => h) (Or.inl ⟨by rfl, ?_⟩) ?_ ?_; rotate_left; · intro w'; go_simp; with_reducible rfl
    rotate_left; · simp only [Act.put, la0, la1, la2, i64_w, i32_w]; rfl
    refine pure_ (i := 3) (N := some 47) (v := undef) (a' := ?_) #[I,I,I,I,O,O,O,O,O,O,O,O,O,O] rfl rfl (any_of HT_.out (by kernel_rfl)) (fun _ _ _ h => h) (Or.inr ⟨by rfl, rfl⟩) ?_ ?_; rotate_left; · simp only [Act.put, la0, la1, la2, i64_w, i32_w]; rfl
    refine pure_ (i := 4) (N := some 48) (v := undef) (a' := ?_) #[I,I,I,I,I,O,O,O,O,O,O,O,O,O] rfl rfl (any_of HT_.out (by kernel_rfl)) (fun _ _ _ h => h) (Or.inr ⟨by rfl, rfl⟩) ?_ ?_; rotate_left; · simp only [Act.put, la0, la1, la2, i64_w, i32_w]; rfl
    refine pure_ (i := 5) (N := some 49) (v := undef) (a' := ?_) #[I,I,I,I,I,I,O,O,O,O,O,O,O,O] rfl rfl (any_of HT_.out (by kernel_rfl)) (fun _ _ _ h => h) (Or.inr ⟨by rfl, rfl⟩) ?_ ?_; rotate_left; · simp only [Act.put, la0, la1, la2, i64_w, i32_w]; rfl
    refine pure_ (i := 6) (N := some 50) (v := undef) (a' := ?_) #[I,I,I,I,I,I,I,O,O,O,O,O,O,O] rfl rfl (any_of HT_.out (by kernel_rfl)) (fun _ _ _ h => h) (Or.inr ⟨by rfl, rfl⟩) ?_ ?_; rotate_left; · simp only [Act.put, la0, la1, la2, i64_w, i32_w]; rfl
    refine pure_ (i := 7) (N := some 51) (v := undef) (a' := ?_) #[I,I,I,I,I,I,I,I,O,O,O,O,O,O] rfl rfl (any_of HT_.out (by kernel_rfl)) (fun _ _ _ h => h) (Or.inr ⟨by rfl, rfl⟩) ?_ ?_; rotate_left; · simp only [Act.put, la0, la1, la2, i64_w, i32_w]; rfl
    refine pure_ (i := 8) (N := some 52) (v := undef) (a' := ?_) #[I,I,I,I,I,I,I,I,I,O,O,O,O,O] rfl rfl (any_of HT_.out (by kernel_rfl)) (fun _ _ _ h => h) (Or.inr ⟨by rfl, rfl⟩) ?_ ?_; rotate_left; · simp only [Act.put, la0, la1, la2, i64_w, i32_w]; rfl
    refine pure_ (i := 9) (N := some 53) (v := undef) (a' := ?_) #[I,I,I,I,I,I,I,I,I,I,O,O,O,O] rfl rfl (any_of HT_.out (by kernel_rfl)) (fun _ _ _ h => h) (Or.inr ⟨by rfl, rfl⟩) ?_ ?_; rotate_left; · simp only [Act.put, la0, la1, la2, i64_w, i32_w]; rfl
    refine pure_ (i := 10) (N := some 54) (v := undef) (a' := ?_) #[I,I,I,I,I,I,I,I,I,I,I,O,O,O] rfl rfl (any_of HT_.out (by kernel_rfl)) (fun _ _ _ h => h) (Or.inr ⟨by rfl, rfl⟩) ?_ ?_; rotate_left; · simp only [Act.put, la0, la1, la2, i64_w, i32_w]; rfl
    refine pure_ (i := 11) (N := some 55) (v := undef) (a' := ?_) #[I,I,I,I,I,I,I,I,I,I,I,I,O,O] rfl rfl (any_of HT_.out (by kernel_rfl)) (fun _ _ _ h => h) (Or.inr ⟨by rfl, rfl⟩) ?_ ?_; rotate_left; · simp only [Act.put, la0, la1, la2, i64_w, i32_w]; rfl
    refine pure_ (i := 12) (N := some 56) (v := undef) (a' := ?_) #[I,I,I,I,I,I,I,I,I,I,I,I,I,O] rfl rfl (any_of HT_.out (by kernel_rfl)) (fun _ _ _ h => h) (Or.inr ⟨by rfl, rfl⟩) ?_ ?_; rotate_left; · simp only [Act.put, la0, la1, la2, i64_w, i32_w]; rfl
    refine pure_ (i := 13) (N := some 57) (v := ?_) (a' := ?_) #[I,I,I,I,I,I,I,I,I,I,I,I,I,I] rfl rfl (any_of HT_.out (by kernel_rfl)) (fun _ _ _ h => h) (Or.inl ⟨by rfl, ?_⟩) ?_ ?_; rotate_left; · intro w'; go_simp; with_reducible rfl
    rotate_left; · simp only [Act.put, la0, la1, la2, i64_w, i32_w]; rfl
    refine done_ (done_of HT_.out (by kernel_rfl)) ?_
    try go_wp2
    go_meet
    case rel => exact ⟨_, (true), (by first | rfl | (refine qa_int ?_; simp <;> omega)), H', ⟨by first | omega⟩, ⟨by exact BK201.out⟩, ⟨by exact BK202.out⟩, ⟨by exact BK209.out⟩, ⟨by repeat (first | (with_reducible first | exact HI205.out | refine IsS100.far ?_ NB205_209.out _))⟩, ⟨by repeat (first | (with_reducible first | exact HB.out | refine below_set ?_ GE209.out))⟩⟩
  rw [if_neg c27] at H; have c27b0 : decide (32 < ((t210 / 16) % 256)) = false := decide_eq_false c27; clear c27
  (first | skip)
  replace H := Option.bind_eq_some_iff.mp H; obtain ⟨t213, A300, H⟩ := H; replace H : ((change_octets.f a0_4).bind fun t214 => (change_Decode.j0 k l1 ((t210 / 16) % 256) (wrap64 (Go.bits .and .u64 (t210 / 2) 7)) (decide ((wrap64 (Go.bits .and .u64 (t210 / 2) 7)) > (mn t213 t214))) a0_0 a0_1 a0_2 a0_3 a0_4 a0_5 a0_6 a0_7 t211 t212 (IntKind.u64.wrap (a0_0 + 1)) (IntKind.u64.wrap (a0_1 + t206)) ((Go.bits .and .u64 t210 1) == 1) 0 0 0 0 0)) = some (r1, r2, r3, r4, r5, r6, r7, r8, r9) := H; have A30 := Aside0.mk A300; clear A300; replace H := Option.bind_eq_some_iff.mp H; obtain ⟨t214, A310, H⟩ := H; replace H : (change_Decode.j0 k l1 ((t210 / 16) % 256) (wrap64 (Go.bits .and .u64 (t210 / 2) 7)) (decide ((wrap64 (Go.bits .and .u64 (t210 / 2) 7)) > (mn t213 t214))) a0_0 a0_1 a0_2 a0_3 a0_4 a0_5 a0_6 a0_7 t211 t212 (IntKind.u64.wrap (a0_0 + 1)) (IntKind.u64.wrap (a0_1 + t206)) ((Go.bits .and .u64 t210 1) == 1) 0 0 0 0 0) = some (r1, r2, r3, r4, r5, r6, r7, r8, r9) := H; have A31 := Aside0.mk A310; clear A310
  obtain ⟨ji32, hji32⟩ : ∃ j_ : Int, (mn t213 t214) = j_ := ⟨_, rfl⟩
  replace H : (change_Decode.j0 k l1 ((t210 / 16) % 256) (wrap64 (Go.bits .and .u64 (t210 / 2) 7)) (decide ((wrap64 (Go.bits .and .u64 (t210 / 2) 7)) > (ji32))) a0_0 a0_1 a0_2 a0_3 a0_4 a0_5 a0_6 a0_7 t211 t212 (IntKind.u64.wrap (a0_0 + 1)) (IntKind.u64.wrap (a0_1 + t206)) ((Go.bits .and .u64 t210 1) == 1) 0 0 0 0 0) = some (r1, r2, r3, r4, r5, r6, r7, r8, r9) := by first | (rw [hji32] at H; exact H)
  (try rw [hji32] at A30)
  (try rw [hji32] at A31)
  have hji32_ : (if t214 < t213 then t214 else t213) = ji32 := hji32; have H' := Aside0.mk H; clear H
  try go_wp2
  have n0_ : Aside0 ((w22.setCell ⟨gb209, 2, none⟩ (.bool ((Go.bits .and .u64 t210 1) == 1))).heap[gb201]? = some (.cells #[.int .u64 a0_0, .int .u64 a0_1, .bool a0_2, .int .u32 a0_3, .int .u8 a0_4, .int .i64 a0_5, .int .u16 a0_6, .int .u16 a0_7] 31 (0, 0))) := ⟨by refine blk_far ?_ NB201_209.out _; exact BK201.out⟩; have n1_ : Aside0 ((w22.setCell ⟨gb209, 2, none⟩ (.bool ((Go.bits .and .u64 t210 1) == 1))).heap[gb202]? = some (.cells #[.int .u64 0, .int .u64 0, .bool false, .int .u32 0, .int .u8 0, .int .i64 0, .int .u16 0, .int .u16 0] 31 (0, 0))) := ⟨by refine blk_far ?_ NB202_209.out _; exact BK202.out⟩; have n2_ : Aside0 ((w22.setCell ⟨gb209, 2, none⟩ (.bool ((Go.bits .and .u64 t210 1) == 1))).heap[gb209]? = some (.cells #[.int .u64 (IntKind.u64.wrap (a0_0 + 1)), .int .u64 (IntKind.u64.wrap (a0_1 + t206)), .bool ((Go.bits .and .u64 t210 1) == 1), .int .u32 0, .int .u8 0, .int .i64 0, .int .u16 0, .int .u16 0] 31 (0, 0))) := ⟨by refine blk_put (cs := #[.int .u64 (IntKind.u64.wrap (a0_0 + 1)), .int .u64 (IntKind.u64.wrap (a0_1 + t206)), .bool false, .int .u32 0, .int .u8 0, .int .i64 0, .int .u16 0, .int .u16 0]) ?_ 2 _ rfl; exact BK209.out⟩; have n3_ : Aside0 (IsS100 w (w22.setCell ⟨gb209, 2, none⟩ (.bool ((Go.bits .and .u64 t210 1) == 1))) g205 t211 t212) := ⟨by repeat (first | (with_reducible first | exact HI205.out | refine IsS100.far ?_ NB205_209.out _))⟩; have n4_ : Aside0 (Below w.heap.size w (w22.setCell ⟨gb209, 2, none⟩ (.bool ((Go.bits .and .u64 t210 1) == 1)))) := ⟨by repeat (first | (with_reducible first | exact HB.out | refine below_set ?_ GE209.out))⟩
  (try clear BK201)
  (try clear BK202)
  (try clear BK209)
  (try clear HI205)
  (try clear HB)
  generalize (w22.setCell ⟨gb209, 2, none⟩ (.bool ((Go.bits .and .u64 t210 1) == 1))) = w33 at n0_ n1_ n2_ n3_ n4_ ⊢; have BK201 := n0_; have BK202 := n1_; have BK209 := n2_; have HI205 := n3_; have HB := n4_; clear n0_ n1_ n2_ n3_ n4_; have n0_ := Aside0.mk (blk_drew BK201.out); have n1_ := Aside0.mk (blk_drew BK202.out); have n2_ := Aside0.mk (blk_drew BK209.out); have n3_ := Aside0.mk (IsS100.drew HI205.out); have n4_ := Aside0.mk (below_drew1 HB.out); clear BK201; clear BK202; clear BK209; clear HI205; clear HB; have BK201 := n0_; have BK202 := n1_; have BK209 := n2_; have HI205 := n3_; have HB := n4_; clear n0_ n1_ n2_ n3_ n4_
  refine start_ (n := 14) (S := fun w' => w'.cell? ⟨gb201, 0, none⟩ = some (.int .u64 a0_0) ∧ w'.cell? ⟨gb201, 1, none⟩ = some (.int .u64 a0_1) ∧ w'.cell? ⟨gb201, 2, none⟩ = some (.bool a0_2) ∧ w'.cell? ⟨gb201, 3, none⟩ = some (.int .u32 a0_3) ∧ w'.cell? ⟨gb201, 4, none⟩ = some (.int .u8 a0_4) ∧ w'.cell? ⟨gb201, 5, none⟩ = some (.int .i64 a0_5) ∧ w'.cell? ⟨gb201, 6, none⟩ = some (.int .u16 a0_6) ∧ w'.cell? ⟨gb201, 7, none⟩ = some (.int .u16 a0_7)) (ds := []) #[O,O,O,O,O,O,O,O,O,O,O,O,O,O] (by kernel_rfl) rfl rfl ⟨(blk_cell BK201.out 0).trans rfl, (blk_cell BK201.out 1).trans rfl, (blk_cell BK201.out 2).trans rfl, (blk_cell BK201.out 3).trans rfl, (blk_cell BK201.out 4).trans rfl, (blk_cell BK201.out 5).trans rfl, (blk_cell BK201.out 6).trans rfl, (blk_cell BK201.out 7).trans rfl⟩ (fun hHeld => ?_); refine with_tabW change_Decode.tab6 change_Decode.bits6 (fun HT_ HW_ => ?_)
  generalize w33.drew = w34 at BK201 BK202 BK209 HI205 HB hHeld ⊢; refine pure_ (i := 0) (N := some 44) (v := ?_) (a' := ?_) #[I,O,O,O,O,O,O,O,O,O,O,O,O,O] rfl rfl (any_of HT_.out (by kernel_rfl)) (fun _ _ _ h => h) (Or.inl ⟨by rfl, ?_⟩) ?_ ?_; rotate_left; · intro w'; go_simp; with_reducible rfl
  rotate_left; · simp only [Act.put, la0, la1, la2, i64_w, i32_w]; rfl
  refine pure_ (i := 1) (N := some 45) (v := ?_) (a' := ?_) #[I,I,O,O,O,O,O,O,O,O,O,O,O,O] rfl rfl (any_of HT_.out (by kernel_rfl)) (fun _ _ _ h => h) (Or.inl ⟨by rfl, ?_⟩) ?_ ?_; rotate_left; · intro w'; go_simp; with_reducible rfl
  rotate_left; · simp only [Act.put, la0, la1, la2, i64_w, i32_w]; rfl
  refine pure_ (i := 2) (N := some 46) (v := ?_) (a' := ?_) #[I,I,I,O,O,O,O,O,O,O,O,O,O,O] rfl rfl (any_of HT_.out (by kernel_rfl)) (fun _ _ _ h => h) (Or.inl ⟨by rfl, ?_⟩) ?_ ?_; rotate_left; · intro w'; go_simp; with_reducible rfl
  rotate_left; · simp only [Act.put, la0, la1, la2, i64_w, i32_w]; rfl
  refine pure_ (i := 3) (N := some 47) (v := ?_) (a' := ?_) #[I,I,I,I,O,O,O,O,O,O,O,O,O,O] rfl rfl (any_of HT_.out (by kernel_rfl)) (fun _ _ _ h => h) (Or.inl ⟨by rfl, ?_⟩) ?_ ?_; rotate_left; · intro w'; go_simp; with_reducible rfl
  rotate_left; · simp only [Act.put, la0, la1, la2, i64_w, i32_w]; rfl
  refine pure_ (i := 4) (N := some 48) (v := ?_) (a' := ?_) #[I,I,I,I,I,O,O,O,O,O,O,O,O,O] rfl rfl (any_of HT_.out (by kernel_rfl)) (fun _ _ _ h => h) (Or.inl ⟨by rfl, ?_⟩) ?_ ?_; rotate_left; · intro w'; go_simp; with_reducible rfl
  rotate_left; · simp only [Act.put, la0, la1, la2, i64_w, i32_w]; rfl
  refine pure_ (i := 6) (N := some 50) (v := ?_) (a' := ?_) #[I,I,I,I,I,O,I,O,O,O,O,O,O,O] rfl rfl (any_of HT_.out (by kernel_rfl)) (fun _ _ _ h => h) (Or.inl ⟨by rfl, ?_⟩) ?_ ?_; rotate_left; · intro w'; go_simp; with_reducible rfl
  rotate_left; · simp only [Act.put, la0, la1, la2, i64_w, i32_w]; rfl
  refine pure_ (i := 7) (N := some 51) (v := ?_) (a' := ?_) #[I,I,I,I,I,O,I,I,O,O,O,O,O,O] rfl rfl (any_of HT_.out (by kernel_rfl)) (fun _ _ _ h => h) (Or.inl ⟨by rfl, ?_⟩) ?_ ?_; rotate_left; · intro w'; go_simp; with_reducible rfl
  rotate_left; · simp only [Act.put, la0, la1, la2, i64_w, i32_w]; rfl
  refine pure_ (i := 8) (N := some 52) (v := ?_) (a' := ?_) #[I,I,I,I,I,O,I,I,I,O,O,O,O,O] rfl rfl (any_of HT_.out (by kernel_rfl)) (fun _ _ _ h => h) (Or.inl ⟨by rfl, ?_⟩) ?_ ?_; rotate_left; · intro w'; go_simp; with_reducible rfl
  rotate_left; · simp only [Act.put, la0, la1, la2, i64_w, i32_w]; rfl
  refine take_ (i := 9) (N := some 53) (v := ?_) (a' := ?_) #[I,I,I,I,I,O,I,I,I,I,O,O,O,O] rfl rfl (take_ofW HT_.out HW_.out (by kernel_rfl)) (fun _ _ _ h => h) (Or.inl ⟨by rfl, ?_⟩) hHeld ?_ ?_; rotate_left; · rintro w' ⟨s0, s1, s2, s3, s4, s5, s6, s7⟩; go_simp; with_reducible rfl
  rotate_left; · simp only [Act.put, la0, la1, la2, i64_w, i32_w]; rfl
  refine one_ (i := 5) (N := some 49) #[I,I,I,I,I,I,I,I,I,I,O,O,O,O] rfl rfl (one_of HT_.out (by kernel_rfl)) (by decide) (fun K hK => ?_); refine goes_ Try.func28 (by kernel_rfl) rfl #[.int .u8 ((t210 / 16) % 256)] (by rfl) rfl rfl (by (try simp only [List.map_toArray, List.map_cons, List.map_nil]); first | rfl) ?_
  with_reducible refine (change_octets.calls ((t210 / 16) % 256) t213 _ A30.out).mono ?_
  rintro e w' ⟨rfl, ⟨nd, rfl⟩⟩; refine ⟨_, rfl, ?_⟩; refine hK.out _ _ ⟨(blk_cell BK201.out 0).trans rfl, (blk_cell BK201.out 1).trans rfl, (blk_cell BK201.out 2).trans rfl, (blk_cell BK201.out 3).trans rfl, (blk_cell BK201.out 4).trans rfl, (blk_cell BK201.out 5).trans rfl, (blk_cell BK201.out 6).trans rfl, (blk_cell BK201.out 7).trans rfl⟩ (fun hHeld => ?_); clear hK K; refine norm_ (a' := ?_) ?_ ?_; rotate_left
  · show Act.put _ (some 49) _ = _
    simp only [Act.put, la0, la1, la2, i64_w, i32_w]
    rfl
  refine one_ (i := 10) (N := some 54) #[I,I,I,I,I,I,I,I,I,I,I,O,O,O] rfl rfl (one_of HT_.out (by kernel_rfl)) (by decide) (fun K hK => ?_); refine goes_ Try.func28 (by kernel_rfl) rfl #[.int .u8 a0_4] (by rfl) rfl rfl (by (try simp only [List.map_toArray, List.map_cons, List.map_nil]); first | rfl) ?_
  with_reducible refine (change_octets.calls a0_4 t214 _ A31.out).mono ?_
  rintro e w' ⟨rfl, ⟨nd, rfl⟩⟩; refine ⟨_, rfl, ?_⟩; refine hK.out _ _ ⟨(blk_cell BK201.out 0).trans rfl, (blk_cell BK201.out 1).trans rfl, (blk_cell BK201.out 2).trans rfl, (blk_cell BK201.out 3).trans rfl, (blk_cell BK201.out 4).trans rfl, (blk_cell BK201.out 5).trans rfl, (blk_cell BK201.out 6).trans rfl, (blk_cell BK201.out 7).trans rfl⟩ (fun hHeld => ?_); clear hK K; refine norm_ (a' := ?_) ?_ ?_; rotate_left
  · show Act.put _ (some 54) _ = _
    simp only [Act.put, la0, la1, la2, i64_w, i32_w]
    rfl
  refine pure_ (i := 11) (N := some 55) (v := ?_) (a' := ?_) #[I,I,I,I,I,I,I,I,I,I,I,I,O,O] rfl rfl (any_of HT_.out (by kernel_rfl)) (fun _ _ _ h => h) (Or.inl ⟨by rfl, ?_⟩) ?_ ?_; rotate_left; · intro w'; go_simp; with_reducible rfl
  rotate_left; · simp only [Act.put, la0, la1, la2, i64_w, i32_w]; rfl
  refine pure_ (i := 12) (N := some 56) (v := ?_) (a' := ?_) #[I,I,I,I,I,I,I,I,I,I,I,I,I,O] rfl rfl (any_of HT_.out (by kernel_rfl)) (fun _ _ _ h => h) (Or.inl ⟨by rfl, ?_⟩) ?_ ?_; rotate_left; · intro w'; go_simp; with_reducible rfl
  rotate_left; · simp only [Act.put, la0, la1, la2, i64_w, i32_w]; rfl
  refine pure_ (i := 13) (N := some 57) (v := ?_) (a' := ?_) #[I,I,I,I,I,I,I,I,I,I,I,I,I,I] rfl rfl (any_of HT_.out (by kernel_rfl)) (fun _ _ _ h => h) (Or.inl ⟨by rfl, ?_⟩) ?_ ?_; rotate_left; · intro w'; go_simp; with_reducible rfl
  rotate_left; · simp only [Act.put, la0, la1, la2, i64_w, i32_w]; rfl
  refine done_ (done_of HT_.out (by kernel_rfl)) ?_
  try go_wp2
  go_meet
  case rel => exact ⟨_, (decide ((wrap64 (Go.bits .and .u64 (t210 / 2) 7)) > (ji32))), (by first | rfl | (refine qa_int ?_; simp <;> omega)), H', ⟨by first | omega⟩, ⟨by (with_reducible repeat (first | refine blk_drewN ?_ _ | refine blk_alloc ?_ _)); exact BK201.out⟩, ⟨by (with_reducible repeat (first | refine blk_drewN ?_ _ | refine blk_alloc ?_ _)); exact BK202.out⟩, ⟨by (with_reducible repeat (first | refine blk_drewN ?_ _ | refine blk_alloc ?_ _)); exact BK209.out⟩, ⟨by repeat (first | (with_reducible first | exact HI205.out | apply IsS100.drewN | refine IsS100.far ?_ NB205_209.out _))⟩, ⟨by repeat (first | (with_reducible first | exact HB.out | apply pw_below_drewN | refine below_set ?_ GE209.out))⟩⟩
 case rest =>
  clear HC6
  try clear c2
  try clear p2
  try clear c3
  try clear p6
  try clear c23
  try clear c24
  try clear c25
  try clear c27
  try clear c27b0
  try clear c28
  try clear hcz26_0
  try clear hcz26_1
  try clear hcz26_2
  try clear hcz26_3
  try clear hcz26_4
  try clear hcz26_5
  try clear hcz26_6
  try clear hcz26_7
  try clear hfz26_0
  try clear hfz26_1
  try clear hfz26_2
  try clear hfz26_3
  try clear hfz26_4
  try clear hfz26_5
  try clear hfz26_6
  try clear hfz26_7
  obtain ⟨kq, x57_5, rfl, HA, HJ5, BK201, BK202, BK209, HI205, HB⟩ := hcut
  cases kq with
  | zero => exact absurd HA.out (by simp [change_Decode.j0])
  | succ kj5 =>
   have H := HA.out; clear HA
   simp only [change_Decode.j0] at H
   by_cases c35 : x57_5 = true
   · subst c35
     have H1 : (some (0, 0, false, 0, 0, 0, 0, 0, 4)) = some (r1, r2, r3, r4, r5, r6, r7, r8, r9) := by rw [if_pos rfl] at H; exact H
     clear H; have H := H1; clear H1
     simp only [Option.some.injEq, Prod.mk.injEq] at H
     obtain ⟨rfl, rfl, rfl, rfl, rfl, rfl, rfl, rfl, rfl⟩ := H; have hnb36 := NB202_201.out; have hnc36 := NB201_202.out; have hnb37 := NB202_209.out; have hnc37 := NB209_202.out; have hnb38 := NB202_205.out; have hnc38 := NB205_202.out; have hcz39_0 : wc.cell? ⟨gb202, 0, none⟩ = some (.int .u64 0) := (blk_cell BK202.out 0).trans rfl; have hcz39_1 : wc.cell? ⟨gb202, 1, none⟩ = some (.int .u64 0) := (blk_cell BK202.out 1).trans rfl; have hcz39_2 : wc.cell? ⟨gb202, 2, none⟩ = some (.bool false) := (blk_cell BK202.out 2).trans rfl; have hcz39_3 : wc.cell? ⟨gb202, 3, none⟩ = some (.int .u32 0) := (blk_cell BK202.out 3).trans rfl; have hcz39_4 : wc.cell? ⟨gb202, 4, none⟩ = some (.int .u8 0) := (blk_cell BK202.out 4).trans rfl; have hcz39_5 : wc.cell? ⟨gb202, 5, none⟩ = some (.int .i64 0) := (blk_cell BK202.out 5).trans rfl; have hcz39_6 : wc.cell? ⟨gb202, 6, none⟩ = some (.int .u16 0) := (blk_cell BK202.out 6).trans rfl; have hcz39_7 : wc.cell? ⟨gb202, 7, none⟩ = some (.int .u16 0) := (blk_cell BK202.out 7).trans rfl; have hfz39_0 := blk_frozen BK202.out 0; have hfz39_1 := blk_frozen BK202.out 1; have hfz39_2 := blk_frozen BK202.out 2; have hfz39_3 := blk_frozen BK202.out 3; have hfz39_4 := blk_frozen BK202.out 4; have hfz39_5 := blk_frozen BK202.out 5; have hfz39_6 := blk_frozen BK202.out 6; have hfz39_7 := blk_frozen BK202.out 7; go_wp2; refine bodyPost_ret (results_ct rfl _ _ gb202 31 #[.int .u64 0, .int .u64 0, .bool false, .int .u32 0, .int .u8 0, .int .i64 0, .int .u16 0, .int .u16 0] (0, 0) _ rfl (by refine blk_put (cs := #[.int .u64 0, .int .u64 0, .bool false, .int .u32 0, .int .u8 0, .int .i64 0, .int .u16 0, .int .u16 0]) ?_ 7 _ rfl; refine blk_put (cs := #[.int .u64 0, .int .u64 0, .bool false, .int .u32 0, .int .u8 0, .int .i64 0, .int .u16 0, .int .u16 0]) ?_ 6 _ rfl; refine blk_put (cs := #[.int .u64 0, .int .u64 0, .bool false, .int .u32 0, .int .u8 0, .int .i64 0, .int .u16 0, .int .u16 0]) ?_ 5 _ rfl; refine blk_put (cs := #[.int .u64 0, .int .u64 0, .bool false, .int .u32 0, .int .u8 0, .int .i64 0, .int .u16 0, .int .u16 0]) ?_ 4 _ rfl; refine blk_put (cs := #[.int .u64 0, .int .u64 0, .bool false, .int .u32 0, .int .u8 0, .int .i64 0, .int .u16 0, .int .u16 0]) ?_ 3 _ rfl; refine blk_put (cs := #[.int .u64 0, .int .u64 0, .bool false, .int .u32 0, .int .u8 0, .int .i64 0, .int .u16 0, .int .u16 0]) ?_ 2 _ rfl; refine blk_put (cs := #[.int .u64 0, .int .u64 0, .bool false, .int .u32 0, .int .u8 0, .int .i64 0, .int .u16 0, .int .u16 0]) ?_ 1 _ rfl; refine blk_put (cs := #[.int .u64 0, .int .u64 0, .bool false, .int .u32 0, .int .u8 0, .int .i64 0, .int .u16 0, .int .u16 0]) ?_ 0 _ rfl; exact BK202.out) Try.underlying31 rfl (by kernel_rfl)) rfl ?_; exact ⟨by first | rfl | (simp [*, errW_none, errW_some] <;> rfl), by repeat (first | (with_reducible first | exact HB.out | refine below_set ?_ GE202.out))⟩
   replace c35 := Bool.eq_false_iff.mpr c35; subst c35
   have H1 : ((change_octets.f ((t210 / 16) % 256)).bind fun t215 => ((coin_Purse_Bytes.f t211 t212 (wrap64 (t215 - (wrap64 (Go.bits .and .u64 (t210 / 2) 7))))).bind fun bt216 => (change_Decode.l0 kj5 l1 (wrap64 (Go.bits .and .u64 (t210 / 2) 7)) bt216.1 t215 0 a0_0 a0_1 a0_2 a0_3 a0_4 a0_5 a0_6 a0_7 bt216.2.1 bt216.2.2 (IntKind.u64.wrap (a0_0 + 1)) (IntKind.u64.wrap (a0_1 + t206)) ((Go.bits .and .u64 t210 1) == 1) 0 ((t210 / 16) % 256) 0 0 0))) = some (r1, r2, r3, r4, r5, r6, r7, r8, r9) := by rw [if_neg (show ¬ (false = true) by decide)] at H; exact H
   clear H; have H := H1; clear H1; replace H := Option.bind_eq_some_iff.mp H; obtain ⟨t215, A400, H⟩ := H; replace H : ((coin_Purse_Bytes.f t211 t212 (wrap64 (t215 - (wrap64 (Go.bits .and .u64 (t210 / 2) 7))))).bind fun bt216 => (change_Decode.l0 kj5 l1 (wrap64 (Go.bits .and .u64 (t210 / 2) 7)) bt216.1 t215 0 a0_0 a0_1 a0_2 a0_3 a0_4 a0_5 a0_6 a0_7 bt216.2.1 bt216.2.2 (IntKind.u64.wrap (a0_0 + 1)) (IntKind.u64.wrap (a0_1 + t206)) ((Go.bits .and .u64 t210 1) == 1) 0 ((t210 / 16) % 256) 0 0 0)) = some (r1, r2, r3, r4, r5, r6, r7, r8, r9) := H; have A40 := Aside0.mk A400; clear A400; replace H := Option.bind_eq_some_iff.mp H; obtain ⟨⟨t216, t219, t220⟩, A410, H⟩ := H; replace H : (change_Decode.l0 kj5 l1 (wrap64 (Go.bits .and .u64 (t210 / 2) 7)) t216 t215 0 a0_0 a0_1 a0_2 a0_3 a0_4 a0_5 a0_6 a0_7 t219 t220 (IntKind.u64.wrap (a0_0 + 1)) (IntKind.u64.wrap (a0_1 + t206)) ((Go.bits .and .u64 t210 1) == 1) 0 ((t210 / 16) % 256) 0 0 0) = some (r1, r2, r3, r4, r5, r6, r7, r8, r9) := H; have A41 := Aside0.mk A410; clear A410; have HC42 := Aside0.mk H; clear H; have hnb43 := NB209_201.out; have hnc43 := NB201_209.out; have hnb44 := NB209_202.out; have hnc44 := NB202_209.out; have hnb45 := NB209_205.out; have hnc45 := NB205_209.out; have hcz46_0 : wc.cell? ⟨gb209, 0, none⟩ = some (.int .u64 (IntKind.u64.wrap (a0_0 + 1))) := (blk_cell BK209.out 0).trans rfl; have hcz46_1 : wc.cell? ⟨gb209, 1, none⟩ = some (.int .u64 (IntKind.u64.wrap (a0_1 + t206))) := (blk_cell BK209.out 1).trans rfl; have hcz46_2 : wc.cell? ⟨gb209, 2, none⟩ = some (.bool ((Go.bits .and .u64 t210 1) == 1)) := (blk_cell BK209.out 2).trans rfl; have hcz46_3 : wc.cell? ⟨gb209, 3, none⟩ = some (.int .u32 0) := (blk_cell BK209.out 3).trans rfl; have hcz46_4 : wc.cell? ⟨gb209, 4, none⟩ = some (.int .u8 0) := (blk_cell BK209.out 4).trans rfl; have hcz46_5 : wc.cell? ⟨gb209, 5, none⟩ = some (.int .i64 0) := (blk_cell BK209.out 5).trans rfl; have hcz46_6 : wc.cell? ⟨gb209, 6, none⟩ = some (.int .u16 0) := (blk_cell BK209.out 6).trans rfl; have hcz46_7 : wc.cell? ⟨gb209, 7, none⟩ = some (.int .u16 0) := (blk_cell BK209.out 7).trans rfl; have hfz46_0 := blk_frozen BK209.out 0; have hfz46_1 := blk_frozen BK209.out 1; have hfz46_2 := blk_frozen BK209.out 2; have hfz46_3 := blk_frozen BK209.out 3; have hfz46_4 := blk_frozen BK209.out 4; have hfz46_5 := blk_frozen BK209.out 5; have hfz46_6 := blk_frozen BK209.out 6; have hfz46_7 := blk_frozen BK209.out 7
   go_upto_block 0 with (first | ((with_reducible refine gate_callee (f := 28) rfl ?_); refine goesL_ (some 65) rfl rfl Try.func28 (by kernel_rfl) rfl #[.int .u8 ((t210 / 16) % 256)] rfl (by (try simp only [List.map_toArray, List.map_cons, List.map_nil]); first | rfl | (refine qa_arr ?_; (repeat' (first | rfl | refine qa_cons ?_ ?_ | refine qa_int ?_ | refine qa_agg ?_ | refine qa_arr ?_ | omega)); done)) ?_; (with_reducible refine (change_octets.calls ((t210 / 16) % 256) t215 _ A40.out).mono ?_); rintro e w' ⟨rfl, ⟨nd, rfl⟩⟩; refine ⟨_, rfl, ?_⟩) | ((with_reducible refine gate_callee (f := 40) rfl ?_); refine goesL_ (some 68) rfl rfl Try.func40 (by kernel_rfl) rfl #[.pointer (some ⟨g205, 0, none⟩), .int .i64 (wrap64 (t215 - (wrap64 (Go.bits .and .u64 (t210 / 2) 7))))] rfl (by (try simp only [List.map_toArray, List.map_cons, List.map_nil]); first | rfl | (refine qa_arr ?_; (repeat' (first | rfl | refine qa_cons ?_ ?_ | refine qa_int ?_ | refine qa_agg ?_ | refine qa_arr ?_ | omega)); done)) ?_; (with_reducible refine (coin_Purse_Bytes.calls g205 t211 t212 (wrap64 (t215 - (wrap64 (Go.bits .and .u64 (t210 / 2) 7)))) t216 t219 t220 w _ ?side1 ?side2 A41.out).mono ?_); (case side1 => repeat (first | (with_reducible first | exact HI205.out | apply IsS100.drewN | refine IsS100.far ?_ NB205_209.out _))); (case side2 => repeat (first | (with_reducible first | exact HB.out | apply pw_below_drewN | refine below_set ?_ GE209.out))); rintro e w47 ⟨v217, rfl, ho0, hi, hb, hk⟩; refine ⟨_, rfl, ?_⟩; have n0_ := Aside0.mk (KeepBut.blk hk (g' := gb201) (o := .cells #[.int .u64 a0_0, .int .u64 a0_1, .bool a0_2, .int .u32 a0_3, .int .u8 a0_4, .int .i64 a0_5, .int .u16 a0_6, .int .u16 a0_7] 31 (0, 0)) (by (with_reducible repeat (first | refine blk_drewN ?_ _ | refine blk_alloc ?_ _)); refine blk_far ?_ NB201_209.out _; exact BK201.out) NB201_205.out (by simp)); have n1_ := Aside0.mk (KeepBut.blk hk (g' := gb202) (o := .cells #[.int .u64 0, .int .u64 0, .bool false, .int .u32 0, .int .u8 0, .int .i64 0, .int .u16 0, .int .u16 0] 31 (0, 0)) (by (with_reducible repeat (first | refine blk_drewN ?_ _ | refine blk_alloc ?_ _)); refine blk_far ?_ NB202_209.out _; exact BK202.out) NB202_205.out (by simp)); have n2_ := Aside0.mk (KeepBut.blk hk (g' := gb209) (o := .cells #[.int .u64 (IntKind.u64.wrap (a0_0 + 1)), .int .u64 (IntKind.u64.wrap (a0_1 + t206)), .bool ((Go.bits .and .u64 t210 1) == 1), .int .u32 0, .int .u8 ((t210 / 16) % 256), .int .i64 0, .int .u16 0, .int .u16 0] 31 (0, 0)) (by (with_reducible repeat (first | refine blk_drewN ?_ _ | refine blk_alloc ?_ _)); refine blk_put (cs := #[.int .u64 (IntKind.u64.wrap (a0_0 + 1)), .int .u64 (IntKind.u64.wrap (a0_1 + t206)), .bool ((Go.bits .and .u64 t210 1) == 1), .int .u32 0, .int .u8 0, .int .i64 0, .int .u16 0, .int .u16 0]) ?_ 4 _ rfl; exact BK209.out) NB209_205.out (by simp)); have n3_ := Aside0.mk (Kd.R_lower ho0 (below_size (by repeat (first | (with_reducible first | exact HB.out | apply pw_below_drewN | refine below_set ?_ GE209.out))))); have n4_ := Aside0.mk (hb); have n5_ := Aside0.mk (hi); clear BK201 BK202 BK209 HB HI205; revert n0_ n1_ n2_ n3_ n4_ n5_; intro BK201 BK202 BK209 HO218 HB HI205; (try clear hb); (try clear hb2); (try clear hk); (try clear hi); (try clear ho0)) | ((with_reducible refine gate_callee (f := 28) rfl ?_); refine goesL_ _ rfl rfl Try.func28 (by kernel_rfl) rfl #[.int .u8 ((t210 / 16) % 256)] rfl (by (try simp only [List.map_toArray, List.map_cons, List.map_nil]); first | rfl | (refine qa_arr ?_; (repeat' (first | rfl | refine qa_cons ?_ ?_ | refine qa_int ?_ | refine qa_agg ?_ | refine qa_arr ?_ | omega)); done)) ?_; (with_reducible refine (change_octets.calls ((t210 / 16) % 256) t215 _ A40.out).mono ?_); rintro e w' ⟨rfl, ⟨nd, rfl⟩⟩; refine ⟨_, rfl, ?_⟩))
   (try simp only [Act.put, la0, la1, la2])
   go_cut [] (fun wc => ∃ (kq : Nat) (x210003_41 : Int), Aside0 (change_Decode.j2 kq l1 a0_0 a0_1 a0_2 a0_3 a0_4 a0_5 a0_6 a0_7 t219 t220 (IntKind.u64.wrap (a0_0 + 1)) (IntKind.u64.wrap (a0_1 + t206)) ((Go.bits .and .u64 t210 1) == 1) x210003_41 ((t210 / 16) % 256) 0 0 0 = some (r1, r2, r3, r4, r5, r6, r7, r8, r9)) ∧ Aside0 (kq ≤ kj5) ∧ Aside0 (wc.heap[gb201]? = some (.cells #[.int .u64 a0_0, .int .u64 a0_1, .bool a0_2, .int .u32 a0_3, .int .u8 a0_4, .int .i64 a0_5, .int .u16 a0_6, .int .u16 a0_7] 31 (0, 0))) ∧ Aside0 (wc.heap[gb202]? = some (.cells #[.int .u64 0, .int .u64 0, .bool false, .int .u32 0, .int .u8 0, .int .i64 0, .int .u16 0, .int .u16 0] 31 (0, 0))) ∧ Aside0 (wc.heap[gb209]? = some (.cells #[.int .u64 (IntKind.u64.wrap (a0_0 + 1)), .int .u64 (IntKind.u64.wrap (a0_1 + t206)), .bool ((Go.bits .and .u64 t210 1) == 1), .int .u32 x210003_41, .int .u8 ((t210 / 16) % 256), .int .i64 0, .int .u16 0, .int .u16 0] 31 (0, 0))) ∧ Aside0 (IsS100 w wc g205 t219 t220) ∧ Aside0 (Below w.heap.size w wc))
   case first =>
    have H := HC42.out; clear HC42; have H' := Aside0.mk H; clear H; go_wp2
    go_loopg [71] kj5 (fun kq v71 w' => ∃ (x71_2 : Int) (x210003_2 : Int), v71 = .int .i64 x71_2 ∧ Aside0 (change_Decode.l0 kq l1 (wrap64 (Go.bits .and .u64 (t210 / 2) 7)) t216 t215 x71_2 a0_0 a0_1 a0_2 a0_3 a0_4 a0_5 a0_6 a0_7 t219 t220 (IntKind.u64.wrap (a0_0 + 1)) (IntKind.u64.wrap (a0_1 + t206)) ((Go.bits .and .u64 t210 1) == 1) x210003_2 ((t210 / 16) % 256) 0 0 0 = some (r1, r2, r3, r4, r5, r6, r7, r8, r9)) ∧ Aside0 (kq ≤ kj5) ∧ Aside0 (Kd.R (Kd.int .u8) 5 w' w.heap.size (fun _ => True) v217 t216) ∧ Aside0 (w'.heap[gb201]? = some (.cells #[.int .u64 a0_0, .int .u64 a0_1, .bool a0_2, .int .u32 a0_3, .int .u8 a0_4, .int .i64 a0_5, .int .u16 a0_6, .int .u16 a0_7] 31 (0, 0))) ∧ Aside0 (w'.heap[gb202]? = some (.cells #[.int .u64 0, .int .u64 0, .bool false, .int .u32 0, .int .u8 0, .int .i64 0, .int .u16 0, .int .u16 0] 31 (0, 0))) ∧ Aside0 (w'.heap[gb209]? = some (.cells #[.int .u64 (IntKind.u64.wrap (a0_0 + 1)), .int .u64 (IntKind.u64.wrap (a0_1 + t206)), .bool ((Go.bits .and .u64 t210 1) == 1), .int .u32 x210003_2, .int .u8 ((t210 / 16) % 256), .int .i64 0, .int .u16 0, .int .u16 0] 31 (0, 0))) ∧ Aside0 (IsS100 w w' g205 t219 t220) ∧ Aside0 (Below w.heap.size w w'))
    case atStart => exact ⟨(0), (0), (by first | rfl | (refine qa_int ?_; simp <;> omega)), H', ⟨Nat.le_refl _⟩, ⟨by (with_reducible repeat (first | apply Kd.R_drewN)); exact HO218.out⟩, ⟨by (with_reducible repeat (first | refine blk_drewN ?_ _ | refine blk_alloc ?_ _)); exact BK201.out⟩, ⟨by (with_reducible repeat (first | refine blk_drewN ?_ _ | refine blk_alloc ?_ _)); exact BK202.out⟩, ⟨by (with_reducible repeat (first | refine blk_drewN ?_ _ | refine blk_alloc ?_ _)); exact BK209.out⟩, ⟨by repeat (first | (with_reducible first | exact HI205.out | apply IsS100.drewN | refine IsS100.far ?_ NB205_209.out _))⟩, ⟨by repeat (first | (with_reducible first | exact HB.out | apply pw_below_drewN | refine below_set ?_ GE209.out))⟩⟩
    case round =>
     clear H'
     try clear c2
     try clear p2
     try clear c3
     try clear c4
     try clear p6
     try clear c23
     try clear c24
     try clear c25
     try clear c27
     try clear c27b0
     try clear c28
     try clear c35
     try clear c36
     try clear c37
     try clear c38
     try clear c39
     try clear c40
     try clear c43
     try clear c44
     try clear c45
     try clear hcz26_0
     try clear hcz26_1
     try clear hcz26_2
     try clear hcz26_3
     try clear hcz26_4
     try clear hcz26_5
     try clear hcz26_6
     try clear hcz26_7
     try clear hcz39_0
     try clear hcz39_1
     try clear hcz39_2
     try clear hcz39_3
     try clear hcz39_4
     try clear hcz39_5
     try clear hcz39_6
     try clear hcz39_7
     try clear hcz46_0
     try clear hcz46_1
     try clear hcz46_2
     try clear hcz46_3
     try clear hcz46_4
     try clear hcz46_5
     try clear hcz46_6
     try clear hcz46_7
     try clear hfz26_0
     try clear hfz26_1
     try clear hfz26_2
     try clear hfz26_3
     try clear hfz26_4
     try clear hfz26_5
     try clear hfz26_6
     try clear hfz26_7
     try clear hfz39_0
     try clear hfz39_1
     try clear hfz39_2
     try clear hfz39_3
     try clear hfz39_4
     try clear hfz39_5
     try clear hfz39_6
     try clear hfz39_7
     try clear hfz46_0
     try clear hfz46_1
     try clear hfz46_2
     try clear hfz46_3
     try clear hfz46_4
     try clear hfz46_5
     try clear hfz46_6
     try clear hfz46_7
     try clear p2
     try clear p6
     obtain ⟨x71_2, x210003_2, rfl, HA, HK2, HO_11, BK201, BK202, BK209, HI205, HB⟩ := hrel
     cases gk with
     | zero => exact absurd HA.out (by simp [change_Decode.l0])
     | succ k2 =>
      have H := HA.out; clear HA
      simp only [change_Decode.l0] at H
      by_cases c48 : x71_2 < t215
      · rw [if_pos c48] at H
        have c48b0 : decide (x71_2 < t215) = true := decide_eq_true c48; clear c48
        (first | skip)
        replace H := Option.bind_eq_some_iff.mp H; obtain ⟨t221, A490, H⟩ := H; replace H : (if x71_2 ≥ (wrap64 (Go.bits .and .u64 (t210 / 2) 7)) then (if (wrap64 (x71_2 - (wrap64 (Go.bits .and .u64 (t210 / 2) 7)))) ≥ (t216.length : Int) then (change_Decode.j2 k2 l1 a0_0 a0_1 a0_2 a0_3 a0_4 a0_5 a0_6 a0_7 t219 t220 (IntKind.u64.wrap (a0_0 + 1)) (IntKind.u64.wrap (a0_1 + t206)) ((Go.bits .and .u64 t210 1) == 1) x210003_2 ((t210 / 16) % 256) 0 0 0) else (if 0 ≤ (wrap64 (x71_2 - (wrap64 (Go.bits .and .u64 (t210 / 2) 7)))) then (if (wrap64 (x71_2 - (wrap64 (Go.bits .and .u64 (t210 / 2) 7)))) < (t216.length : Int) then (if 0 ≤ (wrap64 (24 - (wrap64 (8 * x71_2)))) then (change_Decode.l0 k2 l1 (wrap64 (Go.bits .and .u64 (t210 / 2) 7)) t216 t215 (wrap64 (x71_2 + 1)) a0_0 a0_1 a0_2 a0_3 a0_4 a0_5 a0_6 a0_7 t219 t220 (IntKind.u64.wrap (a0_0 + 1)) (IntKind.u64.wrap (a0_1 + t206)) ((Go.bits .and .u64 t210 1) == 1) (Go.bits .or .u32 x210003_2 (shl .u32 ((rd t216 (wrap64 (x71_2 - (wrap64 (Go.bits .and .u64 (t210 / 2) 7))))) % 4294967296) (wrap64 (24 - (wrap64 (8 * x71_2)))))) ((t210 / 16) % 256) 0 0 0) else (none)) else (none)) else (none))) else (if 0 ≤ (wrap64 (24 - (wrap64 (8 * x71_2)))) then (change_Decode.l0 k2 l1 (wrap64 (Go.bits .and .u64 (t210 / 2) 7)) t216 t215 (wrap64 (x71_2 + 1)) a0_0 a0_1 a0_2 a0_3 a0_4 a0_5 a0_6 a0_7 t219 t220 (IntKind.u64.wrap (a0_0 + 1)) (IntKind.u64.wrap (a0_1 + t206)) ((Go.bits .and .u64 t210 1) == 1) (Go.bits .or .u32 x210003_2 (shl .u32 ((t221) % 4294967296) (wrap64 (24 - (wrap64 (8 * x71_2)))))) ((t210 / 16) % 256) 0 0 0) else (none))) = some (r1, r2, r3, r4, r5, r6, r7, r8, r9) := H; have A49 := Aside0.mk A490; clear A490
        by_cases c50 : x71_2 ≥ (wrap64 (Go.bits .and .u64 (t210 / 2) 7))
        · rw [if_pos c50] at H
          have c50b0 : decide ((wrap64 (Go.bits .and .u64 (t210 / 2) 7)) ≤ x71_2) = true := decide_eq_true c50; clear c50
          by_cases c51 : (wrap64 (x71_2 - (wrap64 (Go.bits .and .u64 (t210 / 2) 7)))) ≥ (t216.length : Int)
          · rw [if_pos c51] at H
            have c51b0 : decide ((t216.length : Int) ≤ (wrap64 (x71_2 - (wrap64 (Go.bits .and .u64 (t210 / 2) 7))))) = true := decide_eq_true c51; clear c51; have H' := Aside0.mk H; clear H; have hnb52 := NB201_202.out; have hnc52 := NB202_201.out; have hnb53 := NB201_209.out; have hnc53 := NB209_201.out; have hnb54 := NB201_205.out; have hnc54 := NB205_201.out; have hcz55_0 : wr.cell? ⟨gb201, 0, none⟩ = some (.int .u64 a0_0) := (blk_cell BK201.out 0).trans rfl; have hcz55_1 : wr.cell? ⟨gb201, 1, none⟩ = some (.int .u64 a0_1) := (blk_cell BK201.out 1).trans rfl; have hcz55_2 : wr.cell? ⟨gb201, 2, none⟩ = some (.bool a0_2) := (blk_cell BK201.out 2).trans rfl; have hcz55_3 : wr.cell? ⟨gb201, 3, none⟩ = some (.int .u32 a0_3) := (blk_cell BK201.out 3).trans rfl; have hcz55_4 : wr.cell? ⟨gb201, 4, none⟩ = some (.int .u8 a0_4) := (blk_cell BK201.out 4).trans rfl; have hcz55_5 : wr.cell? ⟨gb201, 5, none⟩ = some (.int .i64 a0_5) := (blk_cell BK201.out 5).trans rfl; have hcz55_6 : wr.cell? ⟨gb201, 6, none⟩ = some (.int .u16 a0_6) := (blk_cell BK201.out 6).trans rfl; have hcz55_7 : wr.cell? ⟨gb201, 7, none⟩ = some (.int .u16 a0_7) := (blk_cell BK201.out 7).trans rfl; have hfz55_0 := blk_frozen BK201.out 0; have hfz55_1 := blk_frozen BK201.out 1; have hfz55_2 := blk_frozen BK201.out 2; have hfz55_3 := blk_frozen BK201.out 3; have hfz55_4 := blk_frozen BK201.out 4; have hfz55_5 := blk_frozen BK201.out 5; have hfz55_6 := blk_frozen BK201.out 6; have hfz55_7 := blk_frozen BK201.out 7
            go_wp2_with (first | ((with_reducible refine gate_callee (f := 29) rfl ?_); refine goesL_ (some 79) rfl rfl Try.func29 (by kernel_rfl) rfl #[.int .u32 a0_3, .int .i64 x71_2] rfl (by (try simp only [List.map_toArray, List.map_cons, List.map_nil]); first | rfl | (refine qa_arr ?_; (repeat' (first | rfl | refine qa_cons ?_ ?_ | refine qa_int ?_ | refine qa_agg ?_ | refine qa_arr ?_ | omega)); done)) ?_; (with_reducible refine (change_octet.calls a0_3 x71_2 t221 _ A49.out).mono ?_); rintro e w' ⟨rfl, ⟨nd, rfl⟩⟩; refine ⟨_, rfl, ?_⟩; obtain ⟨Ao56, co56, eo56⟩ := Kd.R_slice HO_11.out; subst eo56))
            go_meet
            case rel => exact ⟨_, (x210003_2), H', ⟨by have := HJ5.out; have := HK2.out; first | omega⟩, ⟨by (with_reducible repeat (first | refine blk_drewN ?_ _ | refine blk_alloc ?_ _)); exact BK201.out⟩, ⟨by (with_reducible repeat (first | refine blk_drewN ?_ _ | refine blk_alloc ?_ _)); exact BK202.out⟩, ⟨by (with_reducible repeat (first | refine blk_drewN ?_ _ | refine blk_alloc ?_ _)); exact BK209.out⟩, ⟨by repeat (first | (with_reducible first | exact HI205.out | apply IsS100.drewN | refine IsS100.far ?_ NB205_209.out _))⟩, ⟨by repeat (first | (with_reducible first | exact HB.out | apply pw_below_drewN | refine below_set ?_ GE209.out))⟩⟩
          rw [if_neg c51] at H; have c51b0 : decide ((t216.length : Int) ≤ (wrap64 (x71_2 - (wrap64 (Go.bits .and .u64 (t210 / 2) 7))))) = false := decide_eq_false c51; clear c51
          obtain ⟨ji57, hji57⟩ : ∃ j_ : Int, (wrap64 (x71_2 - (wrap64 (Go.bits .and .u64 (t210 / 2) 7)))) = j_ := ⟨_, rfl⟩
          replace H : (if 0 ≤ (ji57) then (if (ji57) < (t216.length : Int) then (if 0 ≤ (wrap64 (24 - (wrap64 (8 * x71_2)))) then (change_Decode.l0 k2 l1 (wrap64 (Go.bits .and .u64 (t210 / 2) 7)) t216 t215 (wrap64 (x71_2 + 1)) a0_0 a0_1 a0_2 a0_3 a0_4 a0_5 a0_6 a0_7 t219 t220 (IntKind.u64.wrap (a0_0 + 1)) (IntKind.u64.wrap (a0_1 + t206)) ((Go.bits .and .u64 t210 1) == 1) (Go.bits .or .u32 x210003_2 (shl .u32 ((rd t216 (ji57)) % 4294967296) (wrap64 (24 - (wrap64 (8 * x71_2)))))) ((t210 / 16) % 256) 0 0 0) else (none)) else (none)) else (none)) = some (r1, r2, r3, r4, r5, r6, r7, r8, r9) := by first | (rw [hji57] at H; exact H)
          (try rw [hji57] at c51b0)
          (try rw [hji57] at A49)
          have hji57w : (IntKind.i64.wrap (x71_2 - (wrap64 (Go.bits .and .u64 (t210 / 2) 7)))) = ji57 := (i64_w _).trans hji57
          by_cases c58 : 0 ≤ (ji57)
          · rw [if_pos c58] at H
            have c58b0 : decide (0 ≤ (ji57)) = true := decide_eq_true c58; clear c58
            by_cases c59 : (ji57) < (t216.length : Int)
            · rw [if_pos c59] at H
              have c59b0 : decide ((ji57) < (t216.length : Int)) = true := decide_eq_true c59; clear c59
              obtain ⟨ji60, hji60⟩ : ∃ j_ : Int, (wrap64 (24 - (wrap64 (8 * x71_2)))) = j_ := ⟨_, rfl⟩
              replace H : (if 0 ≤ (ji60) then (change_Decode.l0 k2 l1 (wrap64 (Go.bits .and .u64 (t210 / 2) 7)) t216 t215 (wrap64 (x71_2 + 1)) a0_0 a0_1 a0_2 a0_3 a0_4 a0_5 a0_6 a0_7 t219 t220 (IntKind.u64.wrap (a0_0 + 1)) (IntKind.u64.wrap (a0_1 + t206)) ((Go.bits .and .u64 t210 1) == 1) (Go.bits .or .u32 x210003_2 (shl .u32 ((rd t216 (ji57)) % 4294967296) (ji60))) ((t210 / 16) % 256) 0 0 0) else (none)) = some (r1, r2, r3, r4, r5, r6, r7, r8, r9) := by first | (rw [hji60] at H; exact H)
              (try rw [hji60] at A49)
              have hji60w : (IntKind.i64.wrap (24 - (wrap64 (8 * x71_2)))) = ji60 := (i64_w _).trans hji60
              by_cases c61 : 0 ≤ (ji60)
              · rw [if_pos c61] at H
                have c61b0 := eq_true c61; have c61b1 : decide (0 ≤ (ji60)) = true := decide_eq_true c61; clear c61
                obtain ⟨ji62, hji62⟩ : ∃ j_ : Int, (shl .u32 ((rd t216 (ji57)) % 4294967296) (ji60)) = j_ := ⟨_, rfl⟩
                replace H : (change_Decode.l0 k2 l1 (wrap64 (Go.bits .and .u64 (t210 / 2) 7)) t216 t215 (wrap64 (x71_2 + 1)) a0_0 a0_1 a0_2 a0_3 a0_4 a0_5 a0_6 a0_7 t219 t220 (IntKind.u64.wrap (a0_0 + 1)) (IntKind.u64.wrap (a0_1 + t206)) ((Go.bits .and .u64 t210 1) == 1) (Go.bits .or .u32 x210003_2 (ji62)) ((t210 / 16) % 256) 0 0 0) = some (r1, r2, r3, r4, r5, r6, r7, r8, r9) := by first | (rw [hji62] at H; exact H)
                (try rw [hji62] at A49)
                have hji62_ : (IntKind.u32.wrap (((rd t216 (ji57)) % 4294967296) * 2 ^ min (ji60).toNat 32)) = ji62 := hji62; have hji62v : (((rd t216 (ji57)) % 4294967296) * 2 ^ min (ji60).toNat 32) % 4294967296 = ji62 := hji62_; have hji62z : (ji60) ≤ 32 → (IntKind.u32.wrap (((rd t216 (ji57)) % 4294967296) * 2 ^ (ji60).toNat)) = ji62 := shl_small hji62
                (try (have hji62y : 0 ≤ (ji60) := by omega))
                have H' := Aside0.mk H; clear H; have hnb63 := NB201_202.out; have hnc63 := NB202_201.out; have hnb64 := NB201_209.out; have hnc64 := NB209_201.out; have hnb65 := NB201_205.out; have hnc65 := NB205_201.out; have hcz66_0 : wr.cell? ⟨gb201, 0, none⟩ = some (.int .u64 a0_0) := (blk_cell BK201.out 0).trans rfl; have hcz66_1 : wr.cell? ⟨gb201, 1, none⟩ = some (.int .u64 a0_1) := (blk_cell BK201.out 1).trans rfl; have hcz66_2 : wr.cell? ⟨gb201, 2, none⟩ = some (.bool a0_2) := (blk_cell BK201.out 2).trans rfl; have hcz66_3 : wr.cell? ⟨gb201, 3, none⟩ = some (.int .u32 a0_3) := (blk_cell BK201.out 3).trans rfl; have hcz66_4 : wr.cell? ⟨gb201, 4, none⟩ = some (.int .u8 a0_4) := (blk_cell BK201.out 4).trans rfl; have hcz66_5 : wr.cell? ⟨gb201, 5, none⟩ = some (.int .i64 a0_5) := (blk_cell BK201.out 5).trans rfl; have hcz66_6 : wr.cell? ⟨gb201, 6, none⟩ = some (.int .u16 a0_6) := (blk_cell BK201.out 6).trans rfl; have hcz66_7 : wr.cell? ⟨gb201, 7, none⟩ = some (.int .u16 a0_7) := (blk_cell BK201.out 7).trans rfl; have hfz66_0 := blk_frozen BK201.out 0; have hfz66_1 := blk_frozen BK201.out 1; have hfz66_2 := blk_frozen BK201.out 2; have hfz66_3 := blk_frozen BK201.out 3; have hfz66_4 := blk_frozen BK201.out 4; have hfz66_5 := blk_frozen BK201.out 5; have hfz66_6 := blk_frozen BK201.out 6; have hfz66_7 := blk_frozen BK201.out 7
                try go_wp2_with (first | ((with_reducible refine gate_callee (f := 29) rfl ?_); refine goesL_ (some 79) rfl rfl Try.func29 (by kernel_rfl) rfl #[.int .u32 a0_3, .int .i64 x71_2] rfl (by (try simp only [List.map_toArray, List.map_cons, List.map_nil]); first | rfl | (refine qa_arr ?_; (repeat' (first | rfl | refine qa_cons ?_ ?_ | refine qa_int ?_ | refine qa_agg ?_ | refine qa_arr ?_ | omega)); done)) ?_; (with_reducible refine (change_octet.calls a0_3 x71_2 t221 _ A49.out).mono ?_); rintro e w' ⟨rfl, ⟨nd, rfl⟩⟩; refine ⟨_, rfl, ?_⟩; (try (rw [drewN_self wr]; generalize hq_ : World.drewN wr _ = wr; have n0_ : Aside0 (Kd.R (Kd.int .u8) 5 wr w.heap.size (fun _ => True) v217 t216) := ⟨by rw [← hq_]; exact (by (with_reducible repeat (first | apply Kd.R_drewN)); exact HO_11.out)⟩; have n1_ : Aside0 (wr.heap[gb201]? = some (.cells #[.int .u64 a0_0, .int .u64 a0_1, .bool a0_2, .int .u32 a0_3, .int .u8 a0_4, .int .i64 a0_5, .int .u16 a0_6, .int .u16 a0_7] 31 (0, 0))) := ⟨by rw [← hq_]; exact (by (with_reducible repeat (first | refine blk_drewN ?_ _ | refine blk_alloc ?_ _)); exact BK201.out)⟩; have n2_ : Aside0 (wr.heap[gb202]? = some (.cells #[.int .u64 0, .int .u64 0, .bool false, .int .u32 0, .int .u8 0, .int .i64 0, .int .u16 0, .int .u16 0] 31 (0, 0))) := ⟨by rw [← hq_]; exact (by (with_reducible repeat (first | refine blk_drewN ?_ _ | refine blk_alloc ?_ _)); exact BK202.out)⟩; have n3_ : Aside0 (wr.heap[gb209]? = some (.cells #[.int .u64 (IntKind.u64.wrap (a0_0 + 1)), .int .u64 (IntKind.u64.wrap (a0_1 + t206)), .bool ((Go.bits .and .u64 t210 1) == 1), .int .u32 x210003_2, .int .u8 ((t210 / 16) % 256), .int .i64 0, .int .u16 0, .int .u16 0] 31 (0, 0))) := ⟨by rw [← hq_]; exact (by (with_reducible repeat (first | refine blk_drewN ?_ _ | refine blk_alloc ?_ _)); exact BK209.out)⟩; have n4_ : Aside0 (IsS100 w wr g205 t219 t220) := ⟨by rw [← hq_]; exact (by repeat (first | (with_reducible first | exact HI205.out | apply IsS100.drewN | refine IsS100.far ?_ NB205_209.out _)))⟩; have n5_ : Aside0 (Below w.heap.size w wr) := ⟨by rw [← hq_]; exact (by repeat (first | (with_reducible first | exact HB.out | apply pw_below_drewN | refine below_set ?_ GE209.out)))⟩; clear HO_11 BK201 BK202 BK209 HI205 HB hq_; revert n0_ n1_ n2_ n3_ n4_ n5_; intro HO_11 BK201 BK202 BK209 HI205 HB)); obtain ⟨Ao67, co67, eo67⟩ := Kd.R_slice HO_11.out; subst eo67; have p222 : 0 ≤ ((ji57) : Int) := of_decide_eq_true (by with_reducible assumption); have q222 : (ji57) < (t216.length : Int) := of_decide_eq_true (by with_reducible assumption); obtain ⟨ad222, e222, hx222_0⟩ := Kd.at_int (Kd.R_reads' HO_11.out).2.2 (ji57) p222 q222; cases e222; replace p222 := eq_true p222; replace q222 := eq_true q222))
                have n0_ := Aside0.mk (Kd.R_drew HO_11.out); have n1_ := Aside0.mk (blk_drew BK201.out); have n2_ := Aside0.mk (blk_drew BK202.out); have n3_ := Aside0.mk (blk_drew BK209.out); have n4_ := Aside0.mk (IsS100.drew HI205.out); have n5_ := Aside0.mk (below_drew1 HB.out); clear HO_11; clear BK201; clear BK202; clear BK209; clear HI205; clear HB; have HO_11 := n0_; have BK201 := n1_; have BK202 := n2_; have BK209 := n3_; have HI205 := n4_; have HB := n5_; clear n0_ n1_ n2_ n3_ n4_ n5_
                refine start_ (n := 15) (S := fun w' => w'.cell? ⟨gb209, 0, none⟩ = some (.int .u64 (IntKind.u64.wrap (a0_0 + 1))) ∧ w'.cell? ⟨gb209, 1, none⟩ = some (.int .u64 (IntKind.u64.wrap (a0_1 + t206))) ∧ w'.cell? ⟨gb209, 2, none⟩ = some (.bool ((Go.bits .and .u64 t210 1) == 1)) ∧ w'.cell? ⟨gb209, 3, none⟩ = some (.int .u32 x210003_2) ∧ w'.cell? ⟨gb209, 4, none⟩ = some (.int .u8 ((t210 / 16) % 256)) ∧ w'.cell? ⟨gb209, 5, none⟩ = some (.int .i64 0) ∧ w'.cell? ⟨gb209, 6, none⟩ = some (.int .u16 0) ∧ w'.cell? ⟨gb209, 7, none⟩ = some (.int .u16 0)) (ds := [14]) #[O,O,O,O,O,O,O,O,O,O,O,O,O,O,O] (by kernel_rfl) rfl rfl ⟨(blk_cell BK209.out 0).trans rfl, (blk_cell BK209.out 1).trans rfl, (blk_cell BK209.out 2).trans rfl, (blk_cell BK209.out 3).trans rfl, (blk_cell BK209.out 4).trans rfl, (blk_cell BK209.out 5).trans rfl, (blk_cell BK209.out 6).trans rfl, (blk_cell BK209.out 7).trans rfl⟩ (fun hHeld => ?_); refine with_tabW change_Decode.tab17 change_Decode.bits17 (fun HT_ HW_ => ?_)
                generalize wr.drew = w68 at HO_11 BK201 BK202 BK209 HI205 HB hHeld ⊢; refine pure_ (i := 0) (N := some 95) (v := ?_) (a' := ?_) #[I,O,O,O,O,O,O,O,O,O,O,O,O,O,O] rfl rfl (any_of HT_.out (by kernel_rfl)) (fun _ _ _ h => h) (Or.inl ⟨by rfl, ?_⟩) ?_ ?_; rotate_left; · intro w'; go_simp; with_reducible rfl
                rotate_left; · simp only [Act.put, la0, la1, la2, i64_w, i32_w]; rfl
                refine pure_ (i := 1) (N := some 96) (v := ?_) (a' := ?_) #[I,I,O,O,O,O,O,O,O,O,O,O,O,O,O] rfl rfl (any_of HT_.out (by kernel_rfl)) (fun _ _ _ h => h) (Or.inl ⟨by rfl, ?_⟩) ?_ ?_; rotate_left; · intro w'; go_simp; with_reducible rfl
                rotate_left; · simp only [Act.put, la0, la1, la2, i64_w, i32_w]; rfl
                refine pure_ (i := 2) (N := some 97) (v := ?_) (a' := ?_) #[I,I,I,O,O,O,O,O,O,O,O,O,O,O,O] rfl rfl (any_of HT_.out (by kernel_rfl)) (fun _ _ _ h => h) (Or.inl ⟨by rfl, ?_⟩) ?_ ?_; rotate_left; · intro w'; go_simp; with_reducible rfl
                rotate_left; · simp only [Act.put, la0, la1, la2, i64_w, i32_w]; rfl
                refine pure_ (i := 4) (N := some 99) (v := ?_) (a' := ?_) #[I,I,I,O,I,O,O,O,O,O,O,O,O,O,O] rfl rfl (any_of HT_.out (by kernel_rfl)) (fun _ _ _ h => h) (Or.inl ⟨by rfl, ?_⟩) ?_ ?_; rotate_left; · intro w'; go_simp; with_reducible rfl
                rotate_left; · simp only [Act.put, la0, la1, la2, i64_w, i32_w]; rfl
                refine pure_ (i := 5) (N := some 100) (v := ?_) (a' := ?_) #[I,I,I,O,I,I,O,O,O,O,O,O,O,O,O] rfl rfl (any_of HT_.out (by kernel_rfl)) (fun _ _ _ h => h) (Or.inl ⟨by rfl, ?_⟩) ?_ ?_; rotate_left; · intro w'; go_simp; with_reducible rfl
                rotate_left; · simp only [Act.put, la0, la1, la2, i64_w, i32_w]; rfl
                refine pure_ (i := 6) (N := some 101) (v := ?_) (a' := ?_) #[I,I,I,O,I,I,I,O,O,O,O,O,O,O,O] rfl rfl (any_of HT_.out (by kernel_rfl)) (fun _ _ _ h => h) (Or.inl ⟨by rfl, ?_⟩) ?_ ?_; rotate_left; · intro w'; go_simp; with_reducible rfl
                rotate_left; · simp only [Act.put, la0, la1, la2, i64_w, i32_w]; rfl
                refine pure_ (i := 7) (N := some 102) (v := ?_) (a' := ?_) #[I,I,I,O,I,I,I,I,O,O,O,O,O,O,O] rfl rfl (any_of HT_.out (by kernel_rfl)) (fun _ _ _ h => h) (Or.inl ⟨by rfl, ?_⟩) ?_ ?_; rotate_left; · intro w'; go_simp; with_reducible rfl
                rotate_left; · simp only [Act.put, la0, la1, la2, i64_w, i32_w]; rfl
                refine pure_ (i := 8) (N := some 103) (v := ?_) (a' := ?_) #[I,I,I,O,I,I,I,I,I,O,O,O,O,O,O] rfl rfl (any_of HT_.out (by kernel_rfl)) (fun _ _ _ h => h) (Or.inl ⟨by rfl, ?_⟩) ?_ ?_; rotate_left; · intro w'; go_simp; with_reducible rfl
                rotate_left; · simp only [Act.put, la0, la1, la2, i64_w, i32_w]; rfl
                refine pure_ (i := 9) (N := some 104) (v := ?_) (a' := ?_) #[I,I,I,O,I,I,I,I,I,I,O,O,O,O,O] rfl rfl (any_of HT_.out (by kernel_rfl)) (fun _ _ _ h => h) (Or.inl ⟨by rfl, ?_⟩) ?_ ?_; rotate_left; · intro w'; go_simp; with_reducible rfl
                rotate_left; · simp only [Act.put, la0, la1, la2, i64_w, i32_w]; rfl
                refine take_ (i := 3) (N := some 98) (v := ?_) (a' := ?_) #[I,I,I,I,I,I,I,I,I,I,O,O,O,O,O] rfl rfl (take_ofW HT_.out HW_.out (by kernel_rfl)) (fun _ _ _ h => h) (Or.inl ⟨by rfl, ?_⟩) hHeld ?_ ?_; rotate_left; · rintro w' ⟨s0, s1, s2, s3, s4, s5, s6, s7⟩; go_simp; with_reducible rfl
                rotate_left; · simp only [Act.put, la0, la1, la2, i64_w, i32_w]; rfl
                refine pure_ (i := 10) (N := some 105) (v := ?_) (a' := ?_) #[I,I,I,I,I,I,I,I,I,I,I,O,O,O,O] rfl rfl (any_of HT_.out (by kernel_rfl)) (fun _ _ _ h => h) (Or.inl ⟨by rfl, ?_⟩) ?_ ?_; rotate_left; · intro w'; go_simp; with_reducible rfl
                rotate_left; · simp only [Act.put, la0, la1, la2, i64_w, i32_w]; rfl
                refine pure_ (i := 11) (N := some 106) (v := ?_) (a' := ?_) #[I,I,I,I,I,I,I,I,I,I,I,I,O,O,O] rfl rfl (any_of HT_.out (by kernel_rfl)) (fun _ _ _ h => h) (Or.inl ⟨by rfl, ?_⟩) ?_ ?_; rotate_left; · intro w'; go_simp; with_reducible rfl
                rotate_left; · simp only [Act.put, la0, la1, la2, i64_w, i32_w]; rfl
                refine pure_ (i := 12) (N := some 107) (v := ?_) (a' := ?_) #[I,I,I,I,I,I,I,I,I,I,I,I,I,O,O] rfl rfl (any_of HT_.out (by kernel_rfl)) (fun _ _ _ h => h) (Or.inl ⟨by rfl, ?_⟩) ?_ ?_; rotate_left; · intro w'; go_simp; with_reducible rfl
                rotate_left; · simp only [Act.put, la0, la1, la2, i64_w, i32_w]; rfl
                refine pure_ (i := 13) (N := some 108) (v := ?_) (a' := ?_) #[I,I,I,I,I,I,I,I,I,I,I,I,I,I,O] rfl rfl (any_of HT_.out (by kernel_rfl)) (fun _ _ _ h => h) (Or.inl ⟨by rfl, ?_⟩) ?_ ?_; rotate_left; · intro w'; go_simp; with_reducible rfl
                rotate_left; · simp only [Act.put, la0, la1, la2, i64_w, i32_w]; rfl
                refine last_ (i := 14) (N := none) #[I,I,I,I,I,I,I,I,I,I,I,I,I,I,I] rfl rfl (one_of HT_.out (by kernel_rfl)) (by decide) (fun K hK => ?_); have hs69 : w68.cell? ⟨gb209, 3, none⟩ = some (.int .u32 x210003_2) := (blk_cell BK209.out 3).trans rfl; have hfs69 := blk_frozen BK209.out 3; have hns69_0 := NB201_209.out; have hns69_1 := NB202_209.out; have hms69_0 := NB209_201.out; have hms69_1 := NB209_202.out; refine skip_ (w1 := ?_) (by rfl) rfl ?_ ?_; rotate_left; · go_simp; rfl
                refine hK.out _ _ ?_; clear hK K; refine done_ (done_of HT_.out (by kernel_rfl)) ?_
                try go_wp2
                go_roundg k2
                case measure => have := HJ5.out; have := HK2.out; omega
                case rel => (try simp only [hji62v]); exact ⟨(wrap64 (x71_2 + 1)), (Go.bits .or .u32 x210003_2 (ji62)), (by first | rfl | (refine qa_int ?_; simp <;> omega)), H', ⟨by have := HJ5.out; have := HK2.out; omega⟩, ⟨by exact Kd.R_mono (Kd.R_far (p := ⟨gb209, 3, none⟩) (Kd.R_types HO_11.out BK209.out (by decide)) (fun _ hk => hk.2) (.int .u32 (Go.bits .or .u32 x210003_2 (ji62)))) (fun _ hk => trivial)⟩, ⟨by refine blk_far ?_ NB201_209.out _; exact BK201.out⟩, ⟨by refine blk_far ?_ NB202_209.out _; exact BK202.out⟩, ⟨by refine blk_put (cs := #[.int .u64 (IntKind.u64.wrap (a0_0 + 1)), .int .u64 (IntKind.u64.wrap (a0_1 + t206)), .bool ((Go.bits .and .u64 t210 1) == 1), .int .u32 x210003_2, .int .u8 ((t210 / 16) % 256), .int .i64 0, .int .u16 0, .int .u16 0]) ?_ 3 _ rfl; exact BK209.out⟩, ⟨by repeat (first | (with_reducible first | exact HI205.out | refine IsS100.far ?_ NB205_209.out _))⟩, ⟨by repeat (first | (with_reducible first | exact HB.out | refine below_set ?_ GE209.out))⟩⟩
              rw [if_neg c61] at H; exact absurd H (by simp)
            rw [if_neg c59] at H; exact absurd H (by simp)
          rw [if_neg c58] at H; exact absurd H (by simp)
        rw [if_neg c50] at H; have c50b0 : decide ((wrap64 (Go.bits .and .u64 (t210 / 2) 7)) ≤ x71_2) = false := decide_eq_false c50; clear c50
        obtain ⟨ji70, hji70⟩ : ∃ j_ : Int, (wrap64 (24 - (wrap64 (8 * x71_2)))) = j_ := ⟨_, rfl⟩
        replace H : (if 0 ≤ (ji70) then (change_Decode.l0 k2 l1 (wrap64 (Go.bits .and .u64 (t210 / 2) 7)) t216 t215 (wrap64 (x71_2 + 1)) a0_0 a0_1 a0_2 a0_3 a0_4 a0_5 a0_6 a0_7 t219 t220 (IntKind.u64.wrap (a0_0 + 1)) (IntKind.u64.wrap (a0_1 + t206)) ((Go.bits .and .u64 t210 1) == 1) (Go.bits .or .u32 x210003_2 (shl .u32 ((t221) % 4294967296) (ji70))) ((t210 / 16) % 256) 0 0 0) else (none)) = some (r1, r2, r3, r4, r5, r6, r7, r8, r9) := by first | (rw [hji70] at H; exact H)
        (try rw [hji70] at A49)
        have hji70w : (IntKind.i64.wrap (24 - (wrap64 (8 * x71_2)))) = ji70 := (i64_w _).trans hji70
        (try rw [hji70] at hji60)
        (try rw [hji70] at hji60w)
        by_cases c71 : 0 ≤ (ji70)
        · rw [if_pos c71] at H
          have c71b0 := eq_true c71; have c71b1 : decide (0 ≤ (ji70)) = true := decide_eq_true c71; clear c71
          obtain ⟨ji72, hji72⟩ : ∃ j_ : Int, (shl .u32 ((t221) % 4294967296) (ji70)) = j_ := ⟨_, rfl⟩
          replace H : (change_Decode.l0 k2 l1 (wrap64 (Go.bits .and .u64 (t210 / 2) 7)) t216 t215 (wrap64 (x71_2 + 1)) a0_0 a0_1 a0_2 a0_3 a0_4 a0_5 a0_6 a0_7 t219 t220 (IntKind.u64.wrap (a0_0 + 1)) (IntKind.u64.wrap (a0_1 + t206)) ((Go.bits .and .u64 t210 1) == 1) (Go.bits .or .u32 x210003_2 (ji72)) ((t210 / 16) % 256) 0 0 0) = some (r1, r2, r3, r4, r5, r6, r7, r8, r9) := by first | (rw [hji72] at H; exact H)
          (try rw [hji72] at A49)
          have hji72_ : (IntKind.u32.wrap (((t221) % 4294967296) * 2 ^ min (ji70).toNat 32)) = ji72 := hji72; have hji72v : (((t221) % 4294967296) * 2 ^ min (ji70).toNat 32) % 4294967296 = ji72 := hji72_; have hji72z : (ji70) ≤ 32 → (IntKind.u32.wrap (((t221) % 4294967296) * 2 ^ (ji70).toNat)) = ji72 := shl_small hji72
          (try (have hji72y : 0 ≤ (ji70) := by omega))
          have H' := Aside0.mk H; clear H; have hnb73 := NB201_202.out; have hnc73 := NB202_201.out; have hnb74 := NB201_209.out; have hnc74 := NB209_201.out; have hnb75 := NB201_205.out; have hnc75 := NB205_201.out; have hcz76_0 : wr.cell? ⟨gb201, 0, none⟩ = some (.int .u64 a0_0) := (blk_cell BK201.out 0).trans rfl; have hcz76_1 : wr.cell? ⟨gb201, 1, none⟩ = some (.int .u64 a0_1) := (blk_cell BK201.out 1).trans rfl; have hcz76_2 : wr.cell? ⟨gb201, 2, none⟩ = some (.bool a0_2) := (blk_cell BK201.out 2).trans rfl; have hcz76_3 : wr.cell? ⟨gb201, 3, none⟩ = some (.int .u32 a0_3) := (blk_cell BK201.out 3).trans rfl; have hcz76_4 : wr.cell? ⟨gb201, 4, none⟩ = some (.int .u8 a0_4) := (blk_cell BK201.out 4).trans rfl; have hcz76_5 : wr.cell? ⟨gb201, 5, none⟩ = some (.int .i64 a0_5) := (blk_cell BK201.out 5).trans rfl; have hcz76_6 : wr.cell? ⟨gb201, 6, none⟩ = some (.int .u16 a0_6) := (blk_cell BK201.out 6).trans rfl; have hcz76_7 : wr.cell? ⟨gb201, 7, none⟩ = some (.int .u16 a0_7) := (blk_cell BK201.out 7).trans rfl; have hfz76_0 := blk_frozen BK201.out 0; have hfz76_1 := blk_frozen BK201.out 1; have hfz76_2 := blk_frozen BK201.out 2; have hfz76_3 := blk_frozen BK201.out 3; have hfz76_4 := blk_frozen BK201.out 4; have hfz76_5 := blk_frozen BK201.out 5; have hfz76_6 := blk_frozen BK201.out 6; have hfz76_7 := blk_frozen BK201.out 7
          try go_wp2_with (first | ((with_reducible refine gate_callee (f := 29) rfl ?_); refine goesL_ (some 79) rfl rfl Try.func29 (by kernel_rfl) rfl #[.int .u32 a0_3, .int .i64 x71_2] rfl (by (try simp only [List.map_toArray, List.map_cons, List.map_nil]); first | rfl | (refine qa_arr ?_; (repeat' (first | rfl | refine qa_cons ?_ ?_ | refine qa_int ?_ | refine qa_agg ?_ | refine qa_arr ?_ | omega)); done)) ?_; (with_reducible refine (change_octet.calls a0_3 x71_2 t221 _ A49.out).mono ?_); rintro e w' ⟨rfl, ⟨nd, rfl⟩⟩; refine ⟨_, rfl, ?_⟩; (try (rw [drewN_self wr]; generalize hq_ : World.drewN wr _ = wr; have n0_ : Aside0 (Kd.R (Kd.int .u8) 5 wr w.heap.size (fun _ => True) v217 t216) := ⟨by rw [← hq_]; exact (by (with_reducible repeat (first | apply Kd.R_drewN)); exact HO_11.out)⟩; have n1_ : Aside0 (wr.heap[gb201]? = some (.cells #[.int .u64 a0_0, .int .u64 a0_1, .bool a0_2, .int .u32 a0_3, .int .u8 a0_4, .int .i64 a0_5, .int .u16 a0_6, .int .u16 a0_7] 31 (0, 0))) := ⟨by rw [← hq_]; exact (by (with_reducible repeat (first | refine blk_drewN ?_ _ | refine blk_alloc ?_ _)); exact BK201.out)⟩; have n2_ : Aside0 (wr.heap[gb202]? = some (.cells #[.int .u64 0, .int .u64 0, .bool false, .int .u32 0, .int .u8 0, .int .i64 0, .int .u16 0, .int .u16 0] 31 (0, 0))) := ⟨by rw [← hq_]; exact (by (with_reducible repeat (first | refine blk_drewN ?_ _ | refine blk_alloc ?_ _)); exact BK202.out)⟩; have n3_ : Aside0 (wr.heap[gb209]? = some (.cells #[.int .u64 (IntKind.u64.wrap (a0_0 + 1)), .int .u64 (IntKind.u64.wrap (a0_1 + t206)), .bool ((Go.bits .and .u64 t210 1) == 1), .int .u32 x210003_2, .int .u8 ((t210 / 16) % 256), .int .i64 0, .int .u16 0, .int .u16 0] 31 (0, 0))) := ⟨by rw [← hq_]; exact (by (with_reducible repeat (first | refine blk_drewN ?_ _ | refine blk_alloc ?_ _)); exact BK209.out)⟩; have n4_ : Aside0 (IsS100 w wr g205 t219 t220) := ⟨by rw [← hq_]; exact (by repeat (first | (with_reducible first | exact HI205.out | apply IsS100.drewN | refine IsS100.far ?_ NB205_209.out _)))⟩; have n5_ : Aside0 (Below w.heap.size w wr) := ⟨by rw [← hq_]; exact (by repeat (first | (with_reducible first | exact HB.out | apply pw_below_drewN | refine below_set ?_ GE209.out)))⟩; clear HO_11 BK201 BK202 BK209 HI205 HB hq_; revert n0_ n1_ n2_ n3_ n4_ n5_; intro HO_11 BK201 BK202 BK209 HI205 HB))))
          have n0_ := Aside0.mk (Kd.R_drew HO_11.out); have n1_ := Aside0.mk (blk_drew BK201.out); have n2_ := Aside0.mk (blk_drew BK202.out); have n3_ := Aside0.mk (blk_drew BK209.out); have n4_ := Aside0.mk (IsS100.drew HI205.out); have n5_ := Aside0.mk (below_drew1 HB.out); clear HO_11; clear BK201; clear BK202; clear BK209; clear HI205; clear HB; have HO_11 := n0_; have BK201 := n1_; have BK202 := n2_; have BK209 := n3_; have HI205 := n4_; have HB := n5_; clear n0_ n1_ n2_ n3_ n4_ n5_
          refine start_ (n := 15) (S := fun w' => w'.cell? ⟨gb209, 0, none⟩ = some (.int .u64 (IntKind.u64.wrap (a0_0 + 1))) ∧ w'.cell? ⟨gb209, 1, none⟩ = some (.int .u64 (IntKind.u64.wrap (a0_1 + t206))) ∧ w'.cell? ⟨gb209, 2, none⟩ = some (.bool ((Go.bits .and .u64 t210 1) == 1)) ∧ w'.cell? ⟨gb209, 3, none⟩ = some (.int .u32 x210003_2) ∧ w'.cell? ⟨gb209, 4, none⟩ = some (.int .u8 ((t210 / 16) % 256)) ∧ w'.cell? ⟨gb209, 5, none⟩ = some (.int .i64 0) ∧ w'.cell? ⟨gb209, 6, none⟩ = some (.int .u16 0) ∧ w'.cell? ⟨gb209, 7, none⟩ = some (.int .u16 0)) (ds := [14]) #[O,O,O,O,O,O,O,O,O,O,O,O,O,O,O] (by kernel_rfl) rfl rfl ⟨(blk_cell BK209.out 0).trans rfl, (blk_cell BK209.out 1).trans rfl, (blk_cell BK209.out 2).trans rfl, (blk_cell BK209.out 3).trans rfl, (blk_cell BK209.out 4).trans rfl, (blk_cell BK209.out 5).trans rfl, (blk_cell BK209.out 6).trans rfl, (blk_cell BK209.out 7).trans rfl⟩ (fun hHeld => ?_); refine with_tabW change_Decode.tab17 change_Decode.bits17 (fun HT_ HW_ => ?_)
          generalize wr.drew = w77 at HO_11 BK201 BK202 BK209 HI205 HB hHeld ⊢; refine pure_ (i := 0) (N := some 95) (v := ?_) (a' := ?_) #[I,O,O,O,O,O,O,O,O,O,O,O,O,O,O] rfl rfl (any_of HT_.out (by kernel_rfl)) (fun _ _ _ h => h) (Or.inl ⟨by rfl, ?_⟩) ?_ ?_; rotate_left; · intro w'; go_simp; with_reducible rfl
          rotate_left; · simp only [Act.put, la0, la1, la2, i64_w, i32_w]; rfl
          refine pure_ (i := 1) (N := some 96) (v := ?_) (a' := ?_) #[I,I,O,O,O,O,O,O,O,O,O,O,O,O,O] rfl rfl (any_of HT_.out (by kernel_rfl)) (fun _ _ _ h => h) (Or.inl ⟨by rfl, ?_⟩) ?_ ?_; rotate_left; · intro w'; go_simp; with_reducible rfl
          rotate_left; · simp only [Act.put, la0, la1, la2, i64_w, i32_w]; rfl
          refine pure_ (i := 2) (N := some 97) (v := ?_) (a' := ?_) #[I,I,I,O,O,O,O,O,O,O,O,O,O,O,O] rfl rfl (any_of HT_.out (by kernel_rfl)) (fun _ _ _ h => h) (Or.inl ⟨by rfl, ?_⟩) ?_ ?_; rotate_left; · intro w'; go_simp; with_reducible rfl
          rotate_left; · simp only [Act.put, la0, la1, la2, i64_w, i32_w]; rfl
          refine pure_ (i := 4) (N := some 99) (v := ?_) (a' := ?_) #[I,I,I,O,I,O,O,O,O,O,O,O,O,O,O] rfl rfl (any_of HT_.out (by kernel_rfl)) (fun _ _ _ h => h) (Or.inl ⟨by rfl, ?_⟩) ?_ ?_; rotate_left; · intro w'; go_simp; with_reducible rfl
          rotate_left; · simp only [Act.put, la0, la1, la2, i64_w, i32_w]; rfl
          refine pure_ (i := 5) (N := some 100) (v := ?_) (a' := ?_) #[I,I,I,O,I,I,O,O,O,O,O,O,O,O,O] rfl rfl (any_of HT_.out (by kernel_rfl)) (fun _ _ _ h => h) (Or.inl ⟨by rfl, ?_⟩) ?_ ?_; rotate_left; · intro w'; go_simp; with_reducible rfl
          rotate_left; · simp only [Act.put, la0, la1, la2, i64_w, i32_w]; rfl
          refine pure_ (i := 6) (N := some 101) (v := ?_) (a' := ?_) #[I,I,I,O,I,I,I,O,O,O,O,O,O,O,O] rfl rfl (any_of HT_.out (by kernel_rfl)) (fun _ _ _ h => h) (Or.inl ⟨by rfl, ?_⟩) ?_ ?_; rotate_left; · intro w'; go_simp; with_reducible rfl
          rotate_left; · simp only [Act.put, la0, la1, la2, i64_w, i32_w]; rfl
          refine pure_ (i := 7) (N := some 102) (v := ?_) (a' := ?_) #[I,I,I,O,I,I,I,I,O,O,O,O,O,O,O] rfl rfl (any_of HT_.out (by kernel_rfl)) (fun _ _ _ h => h) (Or.inl ⟨by rfl, ?_⟩) ?_ ?_; rotate_left; · intro w'; go_simp; with_reducible rfl
          rotate_left; · simp only [Act.put, la0, la1, la2, i64_w, i32_w]; rfl
          refine pure_ (i := 8) (N := some 103) (v := ?_) (a' := ?_) #[I,I,I,O,I,I,I,I,I,O,O,O,O,O,O] rfl rfl (any_of HT_.out (by kernel_rfl)) (fun _ _ _ h => h) (Or.inl ⟨by rfl, ?_⟩) ?_ ?_; rotate_left; · intro w'; go_simp; with_reducible rfl
          rotate_left; · simp only [Act.put, la0, la1, la2, i64_w, i32_w]; rfl
          refine pure_ (i := 9) (N := some 104) (v := ?_) (a' := ?_) #[I,I,I,O,I,I,I,I,I,I,O,O,O,O,O] rfl rfl (any_of HT_.out (by kernel_rfl)) (fun _ _ _ h => h) (Or.inl ⟨by rfl, ?_⟩) ?_ ?_; rotate_left; · intro w'; go_simp; with_reducible rfl
          rotate_left; · simp only [Act.put, la0, la1, la2, i64_w, i32_w]; rfl
          refine take_ (i := 3) (N := some 98) (v := ?_) (a' := ?_) #[I,I,I,I,I,I,I,I,I,I,O,O,O,O,O] rfl rfl (take_ofW HT_.out HW_.out (by kernel_rfl)) (fun _ _ _ h => h) (Or.inl ⟨by rfl, ?_⟩) hHeld ?_ ?_; rotate_left; · rintro w' ⟨s0, s1, s2, s3, s4, s5, s6, s7⟩; go_simp; with_reducible rfl
          rotate_left; · simp only [Act.put, la0, la1, la2, i64_w, i32_w]; rfl
          refine pure_ (i := 10) (N := some 105) (v := ?_) (a' := ?_) #[I,I,I,I,I,I,I,I,I,I,I,O,O,O,O] rfl rfl (any_of HT_.out (by kernel_rfl)) (fun _ _ _ h => h) (Or.inl ⟨by rfl, ?_⟩) ?_ ?_; rotate_left; · intro w'; go_simp; with_reducible rfl
          rotate_left; · simp only [Act.put, la0, la1, la2, i64_w, i32_w]; rfl
          refine pure_ (i := 11) (N := some 106) (v := ?_) (a' := ?_) #[I,I,I,I,I,I,I,I,I,I,I,I,O,O,O] rfl rfl (any_of HT_.out (by kernel_rfl)) (fun _ _ _ h => h) (Or.inl ⟨by rfl, ?_⟩) ?_ ?_; rotate_left; · intro w'; go_simp; with_reducible rfl
          rotate_left; · simp only [Act.put, la0, la1, la2, i64_w, i32_w]; rfl
          refine pure_ (i := 12) (N := some 107) (v := ?_) (a' := ?_) #[I,I,I,I,I,I,I,I,I,I,I,I,I,O,O] rfl rfl (any_of HT_.out (by kernel_rfl)) (fun _ _ _ h => h) (Or.inl ⟨by rfl, ?_⟩) ?_ ?_; rotate_left; · intro w'; go_simp; with_reducible rfl
          rotate_left; · simp only [Act.put, la0, la1, la2, i64_w, i32_w]; rfl
          refine pure_ (i := 13) (N := some 108) (v := ?_) (a' := ?_) #[I,I,I,I,I,I,I,I,I,I,I,I,I,I,O] rfl rfl (any_of HT_.out (by kernel_rfl)) (fun _ _ _ h => h) (Or.inl ⟨by rfl, ?_⟩) ?_ ?_; rotate_left; · intro w'; go_simp; with_reducible rfl
          rotate_left; · simp only [Act.put, la0, la1, la2, i64_w, i32_w]; rfl
          refine last_ (i := 14) (N := none) #[I,I,I,I,I,I,I,I,I,I,I,I,I,I,I] rfl rfl (one_of HT_.out (by kernel_rfl)) (by decide) (fun K hK => ?_); have hs78 : w77.cell? ⟨gb209, 3, none⟩ = some (.int .u32 x210003_2) := (blk_cell BK209.out 3).trans rfl; have hfs78 := blk_frozen BK209.out 3; have hns78_0 := NB201_209.out; have hns78_1 := NB202_209.out; have hms78_0 := NB209_201.out; have hms78_1 := NB209_202.out; refine skip_ (w1 := ?_) (by rfl) rfl ?_ ?_; rotate_left; · go_simp; rfl
          refine hK.out _ _ ?_; clear hK K; refine done_ (done_of HT_.out (by kernel_rfl)) ?_
          try go_wp2
          go_roundg k2
          case measure => have := HJ5.out; have := HK2.out; omega
          case rel => (try simp only [hji72v]); exact ⟨(wrap64 (x71_2 + 1)), (Go.bits .or .u32 x210003_2 (ji72)), (by first | rfl | (refine qa_int ?_; simp <;> omega)), H', ⟨by have := HJ5.out; have := HK2.out; omega⟩, ⟨by exact Kd.R_mono (Kd.R_far (p := ⟨gb209, 3, none⟩) (Kd.R_types HO_11.out BK209.out (by decide)) (fun _ hk => hk.2) (.int .u32 (Go.bits .or .u32 x210003_2 (ji72)))) (fun _ hk => trivial)⟩, ⟨by refine blk_far ?_ NB201_209.out _; exact BK201.out⟩, ⟨by refine blk_far ?_ NB202_209.out _; exact BK202.out⟩, ⟨by refine blk_put (cs := #[.int .u64 (IntKind.u64.wrap (a0_0 + 1)), .int .u64 (IntKind.u64.wrap (a0_1 + t206)), .bool ((Go.bits .and .u64 t210 1) == 1), .int .u32 x210003_2, .int .u8 ((t210 / 16) % 256), .int .i64 0, .int .u16 0, .int .u16 0]) ?_ 3 _ rfl; exact BK209.out⟩, ⟨by repeat (first | (with_reducible first | exact HI205.out | refine IsS100.far ?_ NB205_209.out _))⟩, ⟨by repeat (first | (with_reducible first | exact HB.out | refine below_set ?_ GE209.out))⟩⟩
        rw [if_neg c71] at H; exact absurd H (by simp)
      rw [if_neg c48] at H; have c48b0 : decide (x71_2 < t215) = false := decide_eq_false c48; clear c48
      (first | skip)
      have H' := Aside0.mk H; clear H; go_wp2; go_meet
      case rel => exact ⟨_, (x210003_2), H', ⟨by have := HJ5.out; have := HK2.out; first | omega⟩, ⟨by exact BK201.out⟩, ⟨by exact BK202.out⟩, ⟨by exact BK209.out⟩, ⟨by repeat (first | (with_reducible first | exact HI205.out | refine IsS100.far ?_ NB205_209.out _))⟩, ⟨by repeat (first | (with_reducible first | exact HB.out | refine below_set ?_ GE209.out))⟩⟩
   case rest =>
    clear HC42
    try clear c2
    try clear p2
    try clear q2
    try clear hx2
    try clear c3
    try clear c4
    try clear c5
    try clear c6
    try clear p6
    try clear c7
    try clear p22
    try clear q22
    try clear hx22
    try clear c23
    try clear c24
    try clear c25
    try clear c27
    try clear c27b0
    try clear c28
    try clear c29
    try clear c35
    try clear c36
    try clear c37
    try clear c38
    try clear c39
    try clear c40
    try clear c43
    try clear c44
    try clear c45
    try clear c48
    try clear c48b0
    try clear c50
    try clear c50b0
    try clear c51
    try clear c51b0
    try clear c52
    try clear c53
    try clear c54
    try clear c58
    try clear c58b0
    try clear c59
    try clear c59b0
    try clear c61
    try clear c61b0
    try clear c61b1
    try clear c63
    try clear c64
    try clear p64
    try clear c65
    try clear c71
    try clear c71b0
    try clear c71b1
    try clear c73
    try clear c74
    try clear c75
    try clear hcz26_0
    try clear hcz26_1
    try clear hcz26_2
    try clear hcz26_3
    try clear hcz26_4
    try clear hcz26_5
    try clear hcz26_6
    try clear hcz26_7
    try clear hcz39_0
    try clear hcz39_1
    try clear hcz39_2
    try clear hcz39_3
    try clear hcz39_4
    try clear hcz39_5
    try clear hcz39_6
    try clear hcz39_7
    try clear hcz46_0
    try clear hcz46_1
    try clear hcz46_2
    try clear hcz46_3
    try clear hcz46_4
    try clear hcz46_5
    try clear hcz46_6
    try clear hcz46_7
    try clear hcz55_0
    try clear hcz55_1
    try clear hcz55_2
    try clear hcz55_3
    try clear hcz55_4
    try clear hcz55_5
    try clear hcz55_6
    try clear hcz55_7
    try clear hcz66_0
    try clear hcz66_1
    try clear hcz66_2
    try clear hcz66_3
    try clear hcz66_4
    try clear hcz66_5
    try clear hcz66_6
    try clear hcz66_7
    try clear hcz76_0
    try clear hcz76_1
    try clear hcz76_2
    try clear hcz76_3
    try clear hcz76_4
    try clear hcz76_5
    try clear hcz76_6
    try clear hcz76_7
    try clear hfz26_0
    try clear hfz26_1
    try clear hfz26_2
    try clear hfz26_3
    try clear hfz26_4
    try clear hfz26_5
    try clear hfz26_6
    try clear hfz26_7
    try clear hfz39_0
    try clear hfz39_1
    try clear hfz39_2
    try clear hfz39_3
    try clear hfz39_4
    try clear hfz39_5
    try clear hfz39_6
    try clear hfz39_7
    try clear hfz46_0
    try clear hfz46_1
    try clear hfz46_2
    try clear hfz46_3
    try clear hfz46_4
    try clear hfz46_5
    try clear hfz46_6
    try clear hfz46_7
    try clear hfz55_0
    try clear hfz55_1
    try clear hfz55_2
    try clear hfz55_3
    try clear hfz55_4
    try clear hfz55_5
    try clear hfz55_6
    try clear hfz55_7
    try clear hfz66_0
    try clear hfz66_1
    try clear hfz66_2
    try clear hfz66_3
    try clear hfz66_4
    try clear hfz66_5
    try clear hfz66_6
    try clear hfz66_7
    try clear hfz76_0
    try clear hfz76_1
    try clear hfz76_2
    try clear hfz76_3
    try clear hfz76_4
    try clear hfz76_5
    try clear hfz76_6
    try clear hfz76_7
    try clear hx222_0
    try clear p2
    try clear p222
    try clear p6
    try clear q222
    obtain ⟨kq, x210003_41, HA, HJ41, BK201, BK202, BK209, HI205, HB⟩ := hcut
    cases kq with
    | zero => exact absurd HA.out (by simp [change_Decode.j2])
    | succ kj41 =>
     have H := HA.out; clear HA
     simp only [change_Decode.j2] at H
     have HC79 := Aside0.mk H; clear H; have hnb80 := NB209_201.out; have hnc80 := NB201_209.out; have hnb81 := NB209_202.out; have hnc81 := NB202_209.out; have hnb82 := NB209_205.out; have hnc82 := NB205_209.out; have hcz83_0 : wc.cell? ⟨gb209, 0, none⟩ = some (.int .u64 (IntKind.u64.wrap (a0_0 + 1))) := (blk_cell BK209.out 0).trans rfl; have hcz83_1 : wc.cell? ⟨gb209, 1, none⟩ = some (.int .u64 (IntKind.u64.wrap (a0_1 + t206))) := (blk_cell BK209.out 1).trans rfl; have hcz83_2 : wc.cell? ⟨gb209, 2, none⟩ = some (.bool ((Go.bits .and .u64 t210 1) == 1)) := (blk_cell BK209.out 2).trans rfl; have hcz83_3 : wc.cell? ⟨gb209, 3, none⟩ = some (.int .u32 x210003_41) := (blk_cell BK209.out 3).trans rfl; have hcz83_4 : wc.cell? ⟨gb209, 4, none⟩ = some (.int .u8 ((t210 / 16) % 256)) := (blk_cell BK209.out 4).trans rfl; have hcz83_5 : wc.cell? ⟨gb209, 5, none⟩ = some (.int .i64 0) := (blk_cell BK209.out 5).trans rfl; have hcz83_6 : wc.cell? ⟨gb209, 6, none⟩ = some (.int .u16 0) := (blk_cell BK209.out 6).trans rfl; have hcz83_7 : wc.cell? ⟨gb209, 7, none⟩ = some (.int .u16 0) := (blk_cell BK209.out 7).trans rfl; have hfz83_0 := blk_frozen BK209.out 0; have hfz83_1 := blk_frozen BK209.out 1; have hfz83_2 := blk_frozen BK209.out 2; have hfz83_3 := blk_frozen BK209.out 3; have hfz83_4 := blk_frozen BK209.out 4; have hfz83_5 := blk_frozen BK209.out 5; have hfz83_6 := blk_frozen BK209.out 6; have hfz83_7 := blk_frozen BK209.out 7
     go_upto_if 112 with (fail)
     go_cut [] (fun wc => ∃ (kq : Nat) (x203000_78 : Int) (x203001_78 : Int) (x203002_78 : Bool) (x203003_78 : Int) (x203004_78 : Int) (x203005_78 : Int) (x203006_78 : Int) (x203007_78 : Int) (x206000_78 : List Int) (x206001_78 : Int) (x210005_78 : Int) (x210006_78 : Int) (x210007_78 : Int), Aside0 (change_Decode.j4 kq l1 a0_0 a0_1 a0_2 a0_3 a0_4 a0_5 a0_6 a0_7 x206000_78 x206001_78 (IntKind.u64.wrap (a0_0 + 1)) (IntKind.u64.wrap (a0_1 + t206)) ((Go.bits .and .u64 t210 1) == 1) x210003_41 ((t210 / 16) % 256) x210005_78 x210006_78 x210007_78 = some (r1, r2, r3, r4, r5, r6, r7, r8, r9)) ∧ Aside0 (kq ≤ kj41) ∧ Aside0 (wc.heap[gb201]? = some (.cells #[.int .u64 a0_0, .int .u64 a0_1, .bool a0_2, .int .u32 a0_3, .int .u8 a0_4, .int .i64 a0_5, .int .u16 a0_6, .int .u16 a0_7] 31 (0, 0))) ∧ Aside0 (wc.heap[gb202]? = some (.cells #[.int .u64 x203000_78, .int .u64 x203001_78, .bool x203002_78, .int .u32 x203003_78, .int .u8 x203004_78, .int .i64 x203005_78, .int .u16 x203006_78, .int .u16 x203007_78] 31 (0, 0))) ∧ Aside0 (wc.heap[gb209]? = some (.cells #[.int .u64 (IntKind.u64.wrap (a0_0 + 1)), .int .u64 (IntKind.u64.wrap (a0_1 + t206)), .bool ((Go.bits .and .u64 t210 1) == 1), .int .u32 x210003_41, .int .u8 ((t210 / 16) % 256), .int .i64 x210005_78, .int .u16 x210006_78, .int .u16 x210007_78] 31 (0, 0))) ∧ Aside0 (IsS100 w wc g205 x206000_78 x206001_78) ∧ Aside0 (Below w.heap.size w wc))
     case first =>
      have H := HC79.out; clear HC79
      by_cases c84 : ((Go.bits .and .u64 t210 1) == 1) = true
      · rw [if_pos c84] at H
        have c84b0 : ((Go.bits .and .u64 t210 1) == 1) = true := c84
        (try (have c84b1 : decide ((Go.bits .and .u64 t210 1) = 1) = true := by simpa using c84))
        (try (have c84b2 : ((Go.bits .and .u64 t210 1) == 1) = true := by simpa using c84))
        clear c84
        (first | rw [c84b0] | skip)
        have H' := Aside0.mk H; clear H; go_wp2; go_meet
        case rel => exact ⟨_, (0), (0), (false), (0), (0), (0), (0), (0), (t219), (t220), (0), (0), (0), H', ⟨by have := HJ5.out; have := HJ41.out; first | omega⟩, ⟨by exact BK201.out⟩, ⟨by exact BK202.out⟩, ⟨by exact BK209.out⟩, ⟨by repeat (first | (with_reducible first | exact HI205.out | refine IsS100.far ?_ NB205_209.out _))⟩, ⟨by repeat (first | (with_reducible first | exact HB.out | refine below_set ?_ GE209.out))⟩⟩
      rw [if_neg c84] at H
      have c84b0 : ((Go.bits .and .u64 t210 1) == 1) = false := by simpa using c84
      (try (have c84b1 : decide ((Go.bits .and .u64 t210 1) = 1) = false := by simpa using c84))
      (try (have c84b2 : ((Go.bits .and .u64 t210 1) == 1) = false := by simpa using c84))
      (try (have c84b3 : ¬ ((Go.bits .and .u64 t210 1) = 1) := by simpa using c84))
      clear c84
      (first | rw [c84b0] | skip)
      replace H := Option.bind_eq_some_iff.mp H; obtain ⟨⟨t223, t224, t225⟩, A850, H⟩ := H; replace H : ((coin_Open.f t223).bind fun t226 => ((coin_Purse_Take.f kj41 t224 t225 9223372036854775808).bind fun bt227 => ((coin_Open.f bt227.1).bind fun t230 => (if (wrap64 (a0_5 + t226)) < 0 then (change_Decode.j3 kj41 l1 (wrap64 (a0_5 + t226)) (wrap64 ((wrap64 (a0_6)) + t230)) true a0_0 a0_1 a0_2 a0_3 a0_4 a0_5 a0_6 a0_7 bt227.2.1 bt227.2.2 (IntKind.u64.wrap (a0_0 + 1)) (IntKind.u64.wrap (a0_1 + t206)) ((Go.bits .and .u64 t210 1) == 1) x210003_41 ((t210 / 16) % 256) 0 0 0) else (if (wrap64 (a0_5 + t226)) ≥ 16 then (change_Decode.j3 kj41 l1 (wrap64 (a0_5 + t226)) (wrap64 ((wrap64 (a0_6)) + t230)) true a0_0 a0_1 a0_2 a0_3 a0_4 a0_5 a0_6 a0_7 bt227.2.1 bt227.2.2 (IntKind.u64.wrap (a0_0 + 1)) (IntKind.u64.wrap (a0_1 + t206)) ((Go.bits .and .u64 t210 1) == 1) x210003_41 ((t210 / 16) % 256) 0 0 0) else (if (wrap64 ((wrap64 (a0_6)) + t230)) < 0 then (change_Decode.j3 kj41 l1 (wrap64 (a0_5 + t226)) (wrap64 ((wrap64 (a0_6)) + t230)) true a0_0 a0_1 a0_2 a0_3 a0_4 a0_5 a0_6 a0_7 bt227.2.1 bt227.2.2 (IntKind.u64.wrap (a0_0 + 1)) (IntKind.u64.wrap (a0_1 + t206)) ((Go.bits .and .u64 t210 1) == 1) x210003_41 ((t210 / 16) % 256) 0 0 0) else (change_Decode.j3 kj41 l1 (wrap64 (a0_5 + t226)) (wrap64 ((wrap64 (a0_6)) + t230)) (decide ((wrap64 ((wrap64 (a0_6)) + t230)) ≥ 65535)) a0_0 a0_1 a0_2 a0_3 a0_4 a0_5 a0_6 a0_7 bt227.2.1 bt227.2.2 (IntKind.u64.wrap (a0_0 + 1)) (IntKind.u64.wrap (a0_1 + t206)) ((Go.bits .and .u64 t210 1) == 1) x210003_41 ((t210 / 16) % 256) 0 0 0))))))) = some (r1, r2, r3, r4, r5, r6, r7, r8, r9) := H; have A85 := Aside0.mk A850; clear A850; replace H := Option.bind_eq_some_iff.mp H; obtain ⟨t226, A860, H⟩ := H; replace H : ((coin_Purse_Take.f kj41 t224 t225 9223372036854775808).bind fun bt227 => ((coin_Open.f bt227.1).bind fun t230 => (if (wrap64 (a0_5 + t226)) < 0 then (change_Decode.j3 kj41 l1 (wrap64 (a0_5 + t226)) (wrap64 ((wrap64 (a0_6)) + t230)) true a0_0 a0_1 a0_2 a0_3 a0_4 a0_5 a0_6 a0_7 bt227.2.1 bt227.2.2 (IntKind.u64.wrap (a0_0 + 1)) (IntKind.u64.wrap (a0_1 + t206)) ((Go.bits .and .u64 t210 1) == 1) x210003_41 ((t210 / 16) % 256) 0 0 0) else (if (wrap64 (a0_5 + t226)) ≥ 16 then (change_Decode.j3 kj41 l1 (wrap64 (a0_5 + t226)) (wrap64 ((wrap64 (a0_6)) + t230)) true a0_0 a0_1 a0_2 a0_3 a0_4 a0_5 a0_6 a0_7 bt227.2.1 bt227.2.2 (IntKind.u64.wrap (a0_0 + 1)) (IntKind.u64.wrap (a0_1 + t206)) ((Go.bits .and .u64 t210 1) == 1) x210003_41 ((t210 / 16) % 256) 0 0 0) else (if (wrap64 ((wrap64 (a0_6)) + t230)) < 0 then (change_Decode.j3 kj41 l1 (wrap64 (a0_5 + t226)) (wrap64 ((wrap64 (a0_6)) + t230)) true a0_0 a0_1 a0_2 a0_3 a0_4 a0_5 a0_6 a0_7 bt227.2.1 bt227.2.2 (IntKind.u64.wrap (a0_0 + 1)) (IntKind.u64.wrap (a0_1 + t206)) ((Go.bits .and .u64 t210 1) == 1) x210003_41 ((t210 / 16) % 256) 0 0 0) else (change_Decode.j3 kj41 l1 (wrap64 (a0_5 + t226)) (wrap64 ((wrap64 (a0_6)) + t230)) (decide ((wrap64 ((wrap64 (a0_6)) + t230)) ≥ 65535)) a0_0 a0_1 a0_2 a0_3 a0_4 a0_5 a0_6 a0_7 bt227.2.1 bt227.2.2 (IntKind.u64.wrap (a0_0 + 1)) (IntKind.u64.wrap (a0_1 + t206)) ((Go.bits .and .u64 t210 1) == 1) x210003_41 ((t210 / 16) % 256) 0 0 0)))))) = some (r1, r2, r3, r4, r5, r6, r7, r8, r9) := H; have A86 := Aside0.mk A860; clear A860; replace H := Option.bind_eq_some_iff.mp H; obtain ⟨⟨t227, t228, t229⟩, A870, H⟩ := H; replace H : ((coin_Open.f t227).bind fun t230 => (if (wrap64 (a0_5 + t226)) < 0 then (change_Decode.j3 kj41 l1 (wrap64 (a0_5 + t226)) (wrap64 ((wrap64 (a0_6)) + t230)) true a0_0 a0_1 a0_2 a0_3 a0_4 a0_5 a0_6 a0_7 t228 t229 (IntKind.u64.wrap (a0_0 + 1)) (IntKind.u64.wrap (a0_1 + t206)) ((Go.bits .and .u64 t210 1) == 1) x210003_41 ((t210 / 16) % 256) 0 0 0) else (if (wrap64 (a0_5 + t226)) ≥ 16 then (change_Decode.j3 kj41 l1 (wrap64 (a0_5 + t226)) (wrap64 ((wrap64 (a0_6)) + t230)) true a0_0 a0_1 a0_2 a0_3 a0_4 a0_5 a0_6 a0_7 t228 t229 (IntKind.u64.wrap (a0_0 + 1)) (IntKind.u64.wrap (a0_1 + t206)) ((Go.bits .and .u64 t210 1) == 1) x210003_41 ((t210 / 16) % 256) 0 0 0) else (if (wrap64 ((wrap64 (a0_6)) + t230)) < 0 then (change_Decode.j3 kj41 l1 (wrap64 (a0_5 + t226)) (wrap64 ((wrap64 (a0_6)) + t230)) true a0_0 a0_1 a0_2 a0_3 a0_4 a0_5 a0_6 a0_7 t228 t229 (IntKind.u64.wrap (a0_0 + 1)) (IntKind.u64.wrap (a0_1 + t206)) ((Go.bits .and .u64 t210 1) == 1) x210003_41 ((t210 / 16) % 256) 0 0 0) else (change_Decode.j3 kj41 l1 (wrap64 (a0_5 + t226)) (wrap64 ((wrap64 (a0_6)) + t230)) (decide ((wrap64 ((wrap64 (a0_6)) + t230)) ≥ 65535)) a0_0 a0_1 a0_2 a0_3 a0_4 a0_5 a0_6 a0_7 t228 t229 (IntKind.u64.wrap (a0_0 + 1)) (IntKind.u64.wrap (a0_1 + t206)) ((Go.bits .and .u64 t210 1) == 1) x210003_41 ((t210 / 16) % 256) 0 0 0))))) = some (r1, r2, r3, r4, r5, r6, r7, r8, r9) := H
      have A87 := Aside0.mk A870; clear A870; replace H := Option.bind_eq_some_iff.mp H; obtain ⟨t230, A880, H⟩ := H; replace H : (if (wrap64 (a0_5 + t226)) < 0 then (change_Decode.j3 kj41 l1 (wrap64 (a0_5 + t226)) (wrap64 ((wrap64 (a0_6)) + t230)) true a0_0 a0_1 a0_2 a0_3 a0_4 a0_5 a0_6 a0_7 t228 t229 (IntKind.u64.wrap (a0_0 + 1)) (IntKind.u64.wrap (a0_1 + t206)) ((Go.bits .and .u64 t210 1) == 1) x210003_41 ((t210 / 16) % 256) 0 0 0) else (if (wrap64 (a0_5 + t226)) ≥ 16 then (change_Decode.j3 kj41 l1 (wrap64 (a0_5 + t226)) (wrap64 ((wrap64 (a0_6)) + t230)) true a0_0 a0_1 a0_2 a0_3 a0_4 a0_5 a0_6 a0_7 t228 t229 (IntKind.u64.wrap (a0_0 + 1)) (IntKind.u64.wrap (a0_1 + t206)) ((Go.bits .and .u64 t210 1) == 1) x210003_41 ((t210 / 16) % 256) 0 0 0) else (if (wrap64 ((wrap64 (a0_6)) + t230)) < 0 then (change_Decode.j3 kj41 l1 (wrap64 (a0_5 + t226)) (wrap64 ((wrap64 (a0_6)) + t230)) true a0_0 a0_1 a0_2 a0_3 a0_4 a0_5 a0_6 a0_7 t228 t229 (IntKind.u64.wrap (a0_0 + 1)) (IntKind.u64.wrap (a0_1 + t206)) ((Go.bits .and .u64 t210 1) == 1) x210003_41 ((t210 / 16) % 256) 0 0 0) else (change_Decode.j3 kj41 l1 (wrap64 (a0_5 + t226)) (wrap64 ((wrap64 (a0_6)) + t230)) (decide ((wrap64 ((wrap64 (a0_6)) + t230)) ≥ 65535)) a0_0 a0_1 a0_2 a0_3 a0_4 a0_5 a0_6 a0_7 t228 t229 (IntKind.u64.wrap (a0_0 + 1)) (IntKind.u64.wrap (a0_1 + t206)) ((Go.bits .and .u64 t210 1) == 1) x210003_41 ((t210 / 16) % 256) 0 0 0)))) = some (r1, r2, r3, r4, r5, r6, r7, r8, r9) := H; have A88 := Aside0.mk A880; clear A880; have HC89 := Aside0.mk H; clear H
      try go_wp2
      have n0_ := Aside0.mk (blk_drew BK201.out); have n1_ := Aside0.mk (blk_drew BK202.out); have n2_ := Aside0.mk (blk_drew BK209.out); have n3_ := Aside0.mk (IsS100.drew HI205.out); have n4_ := Aside0.mk (below_drew1 HB.out); clear BK201; clear BK202; clear BK209; clear HI205; clear HB; have BK201 := n0_; have BK202 := n1_; have BK209 := n2_; have HI205 := n3_; have HB := n4_; clear n0_ n1_ n2_ n3_ n4_
      refine start_ (n := 8) (S := fun w' => w'.cell? ⟨gb201, 0, none⟩ = some (.int .u64 a0_0) ∧ w'.cell? ⟨gb201, 1, none⟩ = some (.int .u64 a0_1) ∧ w'.cell? ⟨gb201, 2, none⟩ = some (.bool a0_2) ∧ w'.cell? ⟨gb201, 3, none⟩ = some (.int .u32 a0_3) ∧ w'.cell? ⟨gb201, 4, none⟩ = some (.int .u8 a0_4) ∧ w'.cell? ⟨gb201, 5, none⟩ = some (.int .i64 a0_5) ∧ w'.cell? ⟨gb201, 6, none⟩ = some (.int .u16 a0_6) ∧ w'.cell? ⟨gb201, 7, none⟩ = some (.int .u16 a0_7)) (ds := []) #[O,O,O,O,O,O,O,O] (by kernel_rfl) rfl rfl ⟨(blk_cell BK201.out 0).trans rfl, (blk_cell BK201.out 1).trans rfl, (blk_cell BK201.out 2).trans rfl, (blk_cell BK201.out 3).trans rfl, (blk_cell BK201.out 4).trans rfl, (blk_cell BK201.out 5).trans rfl, (blk_cell BK201.out 6).trans rfl, (blk_cell BK201.out 7).trans rfl⟩ (fun hHeld => ?_); refine with_tabW change_Decode.tab20 change_Decode.bits20 (fun HT_ HW_ => ?_)
      generalize wc.drew = w90 at BK201 BK202 BK209 HI205 HB hHeld ⊢; refine pure_ (i := 0) (N := some 113) (v := ?_) (a' := ?_) #[I,O,O,O,O,O,O,O] rfl rfl (any_of HT_.out (by kernel_rfl)) (fun _ _ _ h => h) (Or.inl ⟨by rfl, ?_⟩) ?_ ?_; rotate_left; · intro w'; go_simp; with_reducible rfl
      rotate_left; · simp only [Act.put, la0, la1, la2, i64_w, i32_w]; rfl
      refine pure_ (i := 1) (N := some 114) (v := ?_) (a' := ?_) #[I,I,O,O,O,O,O,O] rfl rfl (any_of HT_.out (by kernel_rfl)) (fun _ _ _ h => h) (Or.inl ⟨by rfl, ?_⟩) ?_ ?_; rotate_left; · intro w'; go_simp; with_reducible rfl
      rotate_left; · simp only [Act.put, la0, la1, la2, i64_w, i32_w]; rfl
      refine pure_ (i := 3) (N := some 116) (v := ?_) (a' := ?_) #[I,I,O,I,O,O,O,O] rfl rfl (any_of HT_.out (by kernel_rfl)) (fun _ _ _ h => h) (Or.inl ⟨by rfl, ?_⟩) ?_ ?_; rotate_left; · intro w'; go_simp; with_reducible rfl
      rotate_left; · simp only [Act.put, la0, la1, la2, i64_w, i32_w]; rfl
      refine take_ (i := 2) (N := some 115) (v := ?_) (a' := ?_) #[I,I,I,I,O,O,O,O] rfl rfl (take_ofW HT_.out HW_.out (by kernel_rfl)) (fun _ _ _ h => h) (Or.inl ⟨by rfl, ?_⟩) hHeld ?_ ?_; rotate_left; · rintro w' ⟨s0, s1, s2, s3, s4, s5, s6, s7⟩; go_simp; with_reducible rfl
      rotate_left; · simp only [Act.put, la0, la1, la2, i64_w, i32_w]; rfl
      refine one_ (i := 4) (N := some 117) #[I,I,I,I,I,O,O,O] rfl rfl (one_of HT_.out (by kernel_rfl)) (by decide) (fun K hK => ?_); refine goes_ Try.func39 (by kernel_rfl) rfl #[.pointer (some ⟨g205, 0, none⟩), .int .u64 9223372036854775808] (by rfl) rfl rfl (by (try simp only [List.map_toArray, List.map_cons, List.map_nil]); first | rfl) ?_
      with_reducible refine (coin_Purse_Take.calls kj41 g205 t219 t220 9223372036854775808 t223 t224 t225 w _ ?side1 ?side2 A85.out).mono ?_
      (case side1 => repeat (first | (with_reducible first | exact HI205.out | refine IsS100.far ?_ NB205_209.out _)))
      (case side2 => repeat (first | (with_reducible first | exact HB.out | refine below_set ?_ GE209.out)))
      rintro e w91 ⟨rfl, hi, hb, hk⟩; refine ⟨_, rfl, ?_⟩; have n0_ := Aside0.mk (KeepBut.blk hk (g' := gb201) (o := .cells #[.int .u64 a0_0, .int .u64 a0_1, .bool a0_2, .int .u32 a0_3, .int .u8 a0_4, .int .i64 a0_5, .int .u16 a0_6, .int .u16 a0_7] 31 (0, 0)) BK201.out NB201_205.out (by simp)); have n1_ := Aside0.mk (KeepBut.blk hk (g' := gb202) (o := .cells #[.int .u64 0, .int .u64 0, .bool false, .int .u32 0, .int .u8 0, .int .i64 0, .int .u16 0, .int .u16 0] 31 (0, 0)) BK202.out NB202_205.out (by simp)); have n2_ := Aside0.mk (KeepBut.blk hk (g' := gb209) (o := .cells #[.int .u64 (IntKind.u64.wrap (a0_0 + 1)), .int .u64 (IntKind.u64.wrap (a0_1 + t206)), .bool ((Go.bits .and .u64 t210 1) == 1), .int .u32 x210003_41, .int .u8 ((t210 / 16) % 256), .int .i64 0, .int .u16 0, .int .u16 0] 31 (0, 0)) BK209.out NB209_205.out (by simp)); have n3_ := Aside0.mk (hb); have n4_ := Aside0.mk (hi); clear BK201; clear BK202; clear BK209; clear HB; clear HI205; have BK201 := n0_; have BK202 := n1_; have BK209 := n2_; have HB := n3_; have HI205 := n4_; clear n0_ n1_ n2_ n3_ n4_
      (try clear hb)
      (try clear hb2)
      (try clear hk)
      (try clear hi)
      refine hK.out _ _ ⟨(blk_cell BK201.out 0).trans rfl, (blk_cell BK201.out 1).trans rfl, (blk_cell BK201.out 2).trans rfl, (blk_cell BK201.out 3).trans rfl, (blk_cell BK201.out 4).trans rfl, (blk_cell BK201.out 5).trans rfl, (blk_cell BK201.out 6).trans rfl, (blk_cell BK201.out 7).trans rfl⟩ (fun hHeld => ?_); clear hK K; refine norm_ (a' := ?_) ?_ ?_; rotate_left
      · show Act.put _ (some 117) _ = _
        simp only [Act.put, la0, la1, la2, i64_w, i32_w]
        rfl
      refine one_ (i := 5) (N := some 118) #[I,I,I,I,I,I,O,O] rfl rfl (one_of HT_.out (by kernel_rfl)) (by decide) (fun K hK => ?_); refine goes_ Try.func41 (by kernel_rfl) rfl #[.int .u64 t223] (by rfl) rfl rfl (by (try simp only [List.map_toArray, List.map_cons, List.map_nil]); first | rfl) ?_
      with_reducible refine (coin_Open.calls t223 t226 _ A86.out).mono ?_
      rintro e w' ⟨rfl, ⟨nd, rfl⟩⟩; refine ⟨_, rfl, ?_⟩; refine hK.out _ _ ⟨(blk_cell BK201.out 0).trans rfl, (blk_cell BK201.out 1).trans rfl, (blk_cell BK201.out 2).trans rfl, (blk_cell BK201.out 3).trans rfl, (blk_cell BK201.out 4).trans rfl, (blk_cell BK201.out 5).trans rfl, (blk_cell BK201.out 6).trans rfl, (blk_cell BK201.out 7).trans rfl⟩ (fun hHeld => ?_); clear hK K; refine norm_ (a' := ?_) ?_ ?_; rotate_left
      · show Act.put _ (some 118) _ = _
        simp only [Act.put, la0, la1, la2, i64_w, i32_w]
        rfl
      refine pure_ (i := 6) (N := some 119) (v := ?_) (a' := ?_) #[I,I,I,I,I,I,I,O] rfl rfl (any_of HT_.out (by kernel_rfl)) (fun _ _ _ h => h) (Or.inl ⟨by rfl, ?_⟩) ?_ ?_; rotate_left; · intro w'; go_simp; with_reducible rfl
      rotate_left; · simp only [Act.put, la0, la1, la2, i64_w, i32_w]; rfl
      refine pure_ (i := 7) (N := some 14) (v := ?_) (a' := ?_) #[I,I,I,I,I,I,I,I] rfl rfl (any_of HT_.out (by kernel_rfl)) (fun _ _ _ h => h) (Or.inl ⟨by rfl, ?_⟩) ?_ ?_; rotate_left; · intro w'; go_simp; with_reducible rfl
      rotate_left; · simp only [Act.put, la0, la1, la2, i64_w, i32_w]; rfl
      refine done_ (done_of HT_.out (by kernel_rfl)) ?_
      try go_wp2
      (try (rw [drewN_self w91]; generalize hq_ : World.drewN w91 _ = w91; have n0_ : Aside0 (w91.heap[gb201]? = some (.cells #[.int .u64 a0_0, .int .u64 a0_1, .bool a0_2, .int .u32 a0_3, .int .u8 a0_4, .int .i64 a0_5, .int .u16 a0_6, .int .u16 a0_7] 31 (0, 0))) := ⟨by rw [← hq_]; exact (by (with_reducible repeat (first | refine blk_drewN ?_ _ | refine blk_alloc ?_ _)); exact BK201.out)⟩; have n1_ : Aside0 (w91.heap[gb202]? = some (.cells #[.int .u64 0, .int .u64 0, .bool false, .int .u32 0, .int .u8 0, .int .i64 0, .int .u16 0, .int .u16 0] 31 (0, 0))) := ⟨by rw [← hq_]; exact (by (with_reducible repeat (first | refine blk_drewN ?_ _ | refine blk_alloc ?_ _)); exact BK202.out)⟩; have n2_ : Aside0 (w91.heap[gb209]? = some (.cells #[.int .u64 (IntKind.u64.wrap (a0_0 + 1)), .int .u64 (IntKind.u64.wrap (a0_1 + t206)), .bool ((Go.bits .and .u64 t210 1) == 1), .int .u32 x210003_41, .int .u8 ((t210 / 16) % 256), .int .i64 0, .int .u16 0, .int .u16 0] 31 (0, 0))) := ⟨by rw [← hq_]; exact (by (with_reducible repeat (first | refine blk_drewN ?_ _ | refine blk_alloc ?_ _)); exact BK209.out)⟩; have n3_ : Aside0 (IsS100 w w91 g205 t224 t225) := ⟨by rw [← hq_]; exact (by repeat (first | (with_reducible first | exact HI205.out | apply IsS100.drewN | refine IsS100.far ?_ NB205_209.out _)))⟩; have n4_ : Aside0 (Below w.heap.size w w91) := ⟨by rw [← hq_]; exact (by repeat (first | (with_reducible first | exact HB.out | apply pw_below_drewN | refine below_set ?_ GE209.out)))⟩; clear BK201 BK202 BK209 HI205 HB hq_; revert n0_ n1_ n2_ n3_ n4_; intro BK201 BK202 BK209 HI205 HB))
      have n0_ := Aside0.mk (blk_drew BK201.out); have n1_ := Aside0.mk (blk_drew BK202.out); have n2_ := Aside0.mk (blk_drew BK209.out); have n3_ := Aside0.mk (IsS100.drew HI205.out); have n4_ := Aside0.mk (below_drew1 HB.out); clear BK201; clear BK202; clear BK209; clear HI205; clear HB; have BK201 := n0_; have BK202 := n1_; have BK209 := n2_; have HI205 := n3_; have HB := n4_; clear n0_ n1_ n2_ n3_ n4_
      refine start_ (n := 9) (S := fun w' => w'.cell? ⟨gb201, 0, none⟩ = some (.int .u64 a0_0) ∧ w'.cell? ⟨gb201, 1, none⟩ = some (.int .u64 a0_1) ∧ w'.cell? ⟨gb201, 2, none⟩ = some (.bool a0_2) ∧ w'.cell? ⟨gb201, 3, none⟩ = some (.int .u32 a0_3) ∧ w'.cell? ⟨gb201, 4, none⟩ = some (.int .u8 a0_4) ∧ w'.cell? ⟨gb201, 5, none⟩ = some (.int .i64 a0_5) ∧ w'.cell? ⟨gb201, 6, none⟩ = some (.int .u16 a0_6) ∧ w'.cell? ⟨gb201, 7, none⟩ = some (.int .u16 a0_7)) (ds := []) #[O,O,O,O,O,O,O,O,O] (by kernel_rfl) rfl rfl ⟨(blk_cell BK201.out 0).trans rfl, (blk_cell BK201.out 1).trans rfl, (blk_cell BK201.out 2).trans rfl, (blk_cell BK201.out 3).trans rfl, (blk_cell BK201.out 4).trans rfl, (blk_cell BK201.out 5).trans rfl, (blk_cell BK201.out 6).trans rfl, (blk_cell BK201.out 7).trans rfl⟩ (fun hHeld => ?_); refine with_tabW change_Decode.tab21 change_Decode.bits21 (fun HT_ HW_ => ?_)
      generalize w91.drew = w92 at BK201 BK202 BK209 HI205 HB hHeld ⊢; refine pure_ (i := 0) (N := some 120) (v := ?_) (a' := ?_) #[I,O,O,O,O,O,O,O,O] rfl rfl (any_of HT_.out (by kernel_rfl)) (fun _ _ _ h => h) (Or.inl ⟨by rfl, ?_⟩) ?_ ?_; rotate_left; · intro w'; go_simp; with_reducible rfl
      rotate_left; · simp only [Act.put, la0, la1, la2, i64_w, i32_w]; rfl
      refine pure_ (i := 1) (N := some 121) (v := ?_) (a' := ?_) #[I,I,O,O,O,O,O,O,O] rfl rfl (any_of HT_.out (by kernel_rfl)) (fun _ _ _ h => h) (Or.inl ⟨by rfl, ?_⟩) ?_ ?_; rotate_left; · intro w'; go_simp; with_reducible rfl
      rotate_left; · simp only [Act.put, la0, la1, la2, i64_w, i32_w]; rfl
      refine pure_ (i := 4) (N := some 124) (v := ?_) (a' := ?_) #[I,I,O,O,I,O,O,O,O] rfl rfl (any_of HT_.out (by kernel_rfl)) (fun _ _ _ h => h) (Or.inl ⟨by rfl, ?_⟩) ?_ ?_; rotate_left; · intro w'; go_simp; with_reducible rfl
      rotate_left; · simp only [Act.put, la0, la1, la2, i64_w, i32_w]; rfl
      refine take_ (i := 2) (N := some 122) (v := ?_) (a' := ?_) #[I,I,I,O,I,O,O,O,O] rfl rfl (take_ofW HT_.out HW_.out (by kernel_rfl)) (fun _ _ _ h => h) (Or.inl ⟨by rfl, ?_⟩) hHeld ?_ ?_; rotate_left; · rintro w' ⟨s0, s1, s2, s3, s4, s5, s6, s7⟩; go_simp; with_reducible rfl
      rotate_left; · simp only [Act.put, la0, la1, la2, i64_w, i32_w]; rfl
      refine pure_ (i := 3) (N := some 123) (v := ?_) (a' := ?_) #[I,I,I,I,I,O,O,O,O] rfl rfl (any_of HT_.out (by kernel_rfl)) (fun _ _ _ h => h) (Or.inl ⟨by rfl, ?_⟩) ?_ ?_; rotate_left; · intro w'; go_simp; with_reducible rfl
      rotate_left; · simp only [Act.put, la0, la1, la2, i64_w, i32_w]; rfl
      refine one_ (i := 5) (N := some 125) #[I,I,I,I,I,I,O,O,O] rfl rfl (one_of HT_.out (by kernel_rfl)) (by decide) (fun K hK => ?_); refine goes_ Try.func39 (by kernel_rfl) rfl #[.pointer (some ⟨g205, 0, none⟩), .int .u64 9223372036854775808] (by rfl) rfl rfl (by (try simp only [List.map_toArray, List.map_cons, List.map_nil]); first | rfl) ?_
      with_reducible refine (coin_Purse_Take.calls kj41 g205 t224 t225 9223372036854775808 t227 t228 t229 w _ ?side1 ?side2 A87.out).mono ?_
      (case side1 => repeat (first | (with_reducible first | exact HI205.out | refine IsS100.far ?_ NB205_209.out _)))
      (case side2 => repeat (first | (with_reducible first | exact HB.out | refine below_set ?_ GE209.out)))
      rintro e w93 ⟨rfl, hi, hb, hk⟩; refine ⟨_, rfl, ?_⟩; have n0_ := Aside0.mk (KeepBut.blk hk (g' := gb201) (o := .cells #[.int .u64 a0_0, .int .u64 a0_1, .bool a0_2, .int .u32 a0_3, .int .u8 a0_4, .int .i64 a0_5, .int .u16 a0_6, .int .u16 a0_7] 31 (0, 0)) BK201.out NB201_205.out (by simp)); have n1_ := Aside0.mk (KeepBut.blk hk (g' := gb202) (o := .cells #[.int .u64 0, .int .u64 0, .bool false, .int .u32 0, .int .u8 0, .int .i64 0, .int .u16 0, .int .u16 0] 31 (0, 0)) BK202.out NB202_205.out (by simp)); have n2_ := Aside0.mk (KeepBut.blk hk (g' := gb209) (o := .cells #[.int .u64 (IntKind.u64.wrap (a0_0 + 1)), .int .u64 (IntKind.u64.wrap (a0_1 + t206)), .bool ((Go.bits .and .u64 t210 1) == 1), .int .u32 x210003_41, .int .u8 ((t210 / 16) % 256), .int .i64 0, .int .u16 0, .int .u16 0] 31 (0, 0)) BK209.out NB209_205.out (by simp)); have n3_ := Aside0.mk (hb); have n4_ := Aside0.mk (hi); clear BK201; clear BK202; clear BK209; clear HB; clear HI205; have BK201 := n0_; have BK202 := n1_; have BK209 := n2_; have HB := n3_; have HI205 := n4_; clear n0_ n1_ n2_ n3_ n4_
      (try clear hb)
      (try clear hb2)
      (try clear hk)
      (try clear hi)
      refine hK.out _ _ ⟨(blk_cell BK201.out 0).trans rfl, (blk_cell BK201.out 1).trans rfl, (blk_cell BK201.out 2).trans rfl, (blk_cell BK201.out 3).trans rfl, (blk_cell BK201.out 4).trans rfl, (blk_cell BK201.out 5).trans rfl, (blk_cell BK201.out 6).trans rfl, (blk_cell BK201.out 7).trans rfl⟩ (fun hHeld => ?_); clear hK K; refine norm_ (a' := ?_) ?_ ?_; rotate_left
      · show Act.put _ (some 125) _ = _
        simp only [Act.put, la0, la1, la2, i64_w, i32_w]
        rfl
      refine one_ (i := 6) (N := some 126) #[I,I,I,I,I,I,I,O,O] rfl rfl (one_of HT_.out (by kernel_rfl)) (by decide) (fun K hK => ?_); refine goes_ Try.func41 (by kernel_rfl) rfl #[.int .u64 t227] (by rfl) rfl rfl (by (try simp only [List.map_toArray, List.map_cons, List.map_nil]); first | rfl) ?_
      with_reducible refine (coin_Open.calls t227 t230 _ A88.out).mono ?_
      rintro e w' ⟨rfl, ⟨nd, rfl⟩⟩; refine ⟨_, rfl, ?_⟩; refine hK.out _ _ ⟨(blk_cell BK201.out 0).trans rfl, (blk_cell BK201.out 1).trans rfl, (blk_cell BK201.out 2).trans rfl, (blk_cell BK201.out 3).trans rfl, (blk_cell BK201.out 4).trans rfl, (blk_cell BK201.out 5).trans rfl, (blk_cell BK201.out 6).trans rfl, (blk_cell BK201.out 7).trans rfl⟩ (fun hHeld => ?_); clear hK K; refine norm_ (a' := ?_) ?_ ?_; rotate_left
      · show Act.put _ (some 126) _ = _
        simp only [Act.put, la0, la1, la2, i64_w, i32_w]
        rfl
      refine pure_ (i := 7) (N := some 127) (v := ?_) (a' := ?_) #[I,I,I,I,I,I,I,I,O] rfl rfl (any_of HT_.out (by kernel_rfl)) (fun _ _ _ h => h) (Or.inl ⟨by rfl, ?_⟩) ?_ ?_; rotate_left; · intro w'; go_simp; with_reducible rfl
      rotate_left; · simp only [Act.put, la0, la1, la2, i64_w, i32_w]; rfl
      refine pure_ (i := 8) (N := some 15) (v := ?_) (a' := ?_) #[I,I,I,I,I,I,I,I,I] rfl rfl (any_of HT_.out (by kernel_rfl)) (fun _ _ _ h => h) (Or.inl ⟨by rfl, ?_⟩) ?_ ?_; rotate_left; · intro w'; go_simp; with_reducible rfl
      rotate_left; · simp only [Act.put, la0, la1, la2, i64_w, i32_w]; rfl
      refine done_ (done_of HT_.out (by kernel_rfl)) ?_
      go_upto_region 22 with (fail)
      go_cut [141] (fun v141 wc => ∃ (kq : Nat) (x141_88 : Bool), v141 = .bool x141_88 ∧ Aside0 (change_Decode.j3 kq l1 (wrap64 (a0_5 + t226)) (wrap64 ((wrap64 (a0_6)) + t230)) x141_88 a0_0 a0_1 a0_2 a0_3 a0_4 a0_5 a0_6 a0_7 t228 t229 (IntKind.u64.wrap (a0_0 + 1)) (IntKind.u64.wrap (a0_1 + t206)) ((Go.bits .and .u64 t210 1) == 1) x210003_41 ((t210 / 16) % 256) 0 0 0 = some (r1, r2, r3, r4, r5, r6, r7, r8, r9)) ∧ Aside0 (kq ≤ kj41) ∧ Aside0 (wc.heap[gb201]? = some (.cells #[.int .u64 a0_0, .int .u64 a0_1, .bool a0_2, .int .u32 a0_3, .int .u8 a0_4, .int .i64 a0_5, .int .u16 a0_6, .int .u16 a0_7] 31 (0, 0))) ∧ Aside0 (wc.heap[gb202]? = some (.cells #[.int .u64 0, .int .u64 0, .bool false, .int .u32 0, .int .u8 0, .int .i64 0, .int .u16 0, .int .u16 0] 31 (0, 0))) ∧ Aside0 (wc.heap[gb209]? = some (.cells #[.int .u64 (IntKind.u64.wrap (a0_0 + 1)), .int .u64 (IntKind.u64.wrap (a0_1 + t206)), .bool ((Go.bits .and .u64 t210 1) == 1), .int .u32 x210003_41, .int .u8 ((t210 / 16) % 256), .int .i64 0, .int .u16 0, .int .u16 0] 31 (0, 0))) ∧ Aside0 (IsS100 w wc g205 t228 t229) ∧ Aside0 (Below w.heap.size w wc))
      case first =>
       have H := HC89.out; clear HC89
       by_cases c94 : (wrap64 (a0_5 + t226)) < 0
       · rw [if_pos c94] at H
         have c94b0 : decide ((wrap64 (a0_5 + t226)) < 0) = true := decide_eq_true c94; clear c94
         (first | skip)
         have H' := Aside0.mk H; clear H; go_wp2; go_meet
         case rel => exact ⟨_, (true), (by first | rfl | (refine qa_int ?_; simp <;> omega)), H', ⟨by have := HJ5.out; have := HJ41.out; first | omega⟩, ⟨by (with_reducible repeat (first | refine blk_drewN ?_ _ | refine blk_alloc ?_ _)); exact BK201.out⟩, ⟨by (with_reducible repeat (first | refine blk_drewN ?_ _ | refine blk_alloc ?_ _)); exact BK202.out⟩, ⟨by (with_reducible repeat (first | refine blk_drewN ?_ _ | refine blk_alloc ?_ _)); exact BK209.out⟩, ⟨by repeat (first | (with_reducible first | exact HI205.out | apply IsS100.drewN | refine IsS100.far ?_ NB205_209.out _))⟩, ⟨by repeat (first | (with_reducible first | exact HB.out | apply pw_below_drewN | refine below_set ?_ GE209.out))⟩⟩
       rw [if_neg c94] at H; have c94b0 : decide ((wrap64 (a0_5 + t226)) < 0) = false := decide_eq_false c94; clear c94
       (first | skip)
       by_cases c95 : (wrap64 (a0_5 + t226)) ≥ 16
       · rw [if_pos c95] at H
         have c95b0 : decide (16 ≤ (wrap64 (a0_5 + t226))) = true := decide_eq_true c95; clear c95; have H' := Aside0.mk H; clear H; go_wp2; go_meet
         case rel => exact ⟨_, (true), (by first | rfl | (refine qa_int ?_; simp <;> omega)), H', ⟨by have := HJ5.out; have := HJ41.out; first | omega⟩, ⟨by (with_reducible repeat (first | refine blk_drewN ?_ _ | refine blk_alloc ?_ _)); exact BK201.out⟩, ⟨by (with_reducible repeat (first | refine blk_drewN ?_ _ | refine blk_alloc ?_ _)); exact BK202.out⟩, ⟨by (with_reducible repeat (first | refine blk_drewN ?_ _ | refine blk_alloc ?_ _)); exact BK209.out⟩, ⟨by repeat (first | (with_reducible first | exact HI205.out | apply IsS100.drewN | refine IsS100.far ?_ NB205_209.out _))⟩, ⟨by repeat (first | (with_reducible first | exact HB.out | apply pw_below_drewN | refine below_set ?_ GE209.out))⟩⟩
       rw [if_neg c95] at H; have c95b0 : decide (16 ≤ (wrap64 (a0_5 + t226))) = false := decide_eq_false c95; clear c95
       by_cases c96 : (wrap64 ((wrap64 (a0_6)) + t230)) < 0
       · rw [if_pos c96] at H
         have c96b0 : decide ((wrap64 ((wrap64 (a0_6)) + t230)) < 0) = true := decide_eq_true c96; clear c96; have H' := Aside0.mk H; clear H; go_wp2; go_meet
         case rel => exact ⟨_, (true), (by first | rfl | (refine qa_int ?_; simp <;> omega)), H', ⟨by have := HJ5.out; have := HJ41.out; first | omega⟩, ⟨by (with_reducible repeat (first | refine blk_drewN ?_ _ | refine blk_alloc ?_ _)); exact BK201.out⟩, ⟨by (with_reducible repeat (first | refine blk_drewN ?_ _ | refine blk_alloc ?_ _)); exact BK202.out⟩, ⟨by (with_reducible repeat (first | refine blk_drewN ?_ _ | refine blk_alloc ?_ _)); exact BK209.out⟩, ⟨by repeat (first | (with_reducible first | exact HI205.out | apply IsS100.drewN | refine IsS100.far ?_ NB205_209.out _))⟩, ⟨by repeat (first | (with_reducible first | exact HB.out | apply pw_below_drewN | refine below_set ?_ GE209.out))⟩⟩
       rw [if_neg c96] at H; have c96b0 : decide ((wrap64 ((wrap64 (a0_6)) + t230)) < 0) = false := decide_eq_false c96; clear c96; have H' := Aside0.mk H; clear H; go_wp2; go_meet
       case rel => exact ⟨_, (decide ((wrap64 ((wrap64 (a0_6)) + t230)) ≥ 65535)), (by first | rfl | (refine qa_int ?_; simp <;> omega)), H', ⟨by have := HJ5.out; have := HJ41.out; first | omega⟩, ⟨by (with_reducible repeat (first | refine blk_drewN ?_ _ | refine blk_alloc ?_ _)); exact BK201.out⟩, ⟨by (with_reducible repeat (first | refine blk_drewN ?_ _ | refine blk_alloc ?_ _)); exact BK202.out⟩, ⟨by (with_reducible repeat (first | refine blk_drewN ?_ _ | refine blk_alloc ?_ _)); exact BK209.out⟩, ⟨by repeat (first | (with_reducible first | exact HI205.out | apply IsS100.drewN | refine IsS100.far ?_ NB205_209.out _))⟩, ⟨by repeat (first | (with_reducible first | exact HB.out | apply pw_below_drewN | refine below_set ?_ GE209.out))⟩⟩
      case rest =>
       clear HC89
       try clear c2
       try clear p2
       try clear q2
       try clear hx2
       try clear c3
       try clear c4
       try clear c5
       try clear c6
       try clear p6
       try clear c7
       try clear c8
       try clear c9
       try clear p22
       try clear q22
       try clear hx22
       try clear c23
       try clear c24
       try clear c25
       try clear c27
       try clear c27b0
       try clear c28
       try clear c29
       try clear c35
       try clear c36
       try clear c37
       try clear c38
       try clear c39
       try clear c40
       try clear c41
       try clear c43
       try clear c44
       try clear c45
       try clear c48
       try clear c48b0
       try clear c50
       try clear c50b0
       try clear c51
       try clear c51b0
       try clear c52
       try clear c53
       try clear c54
       try clear c58
       try clear c58b0
       try clear c59
       try clear c59b0
       try clear c61
       try clear c61b0
       try clear c61b1
       try clear c63
       try clear c64
       try clear p64
       try clear c65
       try clear c71
       try clear c71b0
       try clear c71b1
       try clear c73
       try clear c74
       try clear c75
       try clear c80
       try clear c81
       try clear c82
       try clear c84
       try clear c84b0
       try clear c84b1
       try clear c84b2
       try clear c94
       try clear c94b0
       try clear c95
       try clear c95b0
       try clear c96
       try clear c96b0
       try clear hcz26_0
       try clear hcz26_1
       try clear hcz26_2
       try clear hcz26_3
       try clear hcz26_4
       try clear hcz26_5
       try clear hcz26_6
       try clear hcz26_7
       try clear hcz39_0
       try clear hcz39_1
       try clear hcz39_2
       try clear hcz39_3
       try clear hcz39_4
       try clear hcz39_5
       try clear hcz39_6
       try clear hcz39_7
       try clear hcz46_0
       try clear hcz46_1
       try clear hcz46_2
       try clear hcz46_3
       try clear hcz46_4
       try clear hcz46_5
       try clear hcz46_6
       try clear hcz46_7
       try clear hcz55_0
       try clear hcz55_1
       try clear hcz55_2
       try clear hcz55_3
       try clear hcz55_4
       try clear hcz55_5
       try clear hcz55_6
       try clear hcz55_7
       try clear hcz66_0
       try clear hcz66_1
       try clear hcz66_2
       try clear hcz66_3
       try clear hcz66_4
       try clear hcz66_5
       try clear hcz66_6
       try clear hcz66_7
       try clear hcz76_0
       try clear hcz76_1
       try clear hcz76_2
       try clear hcz76_3
       try clear hcz76_4
       try clear hcz76_5
       try clear hcz76_6
       try clear hcz76_7
       try clear hcz83_0
       try clear hcz83_1
       try clear hcz83_2
       try clear hcz83_3
       try clear hcz83_4
       try clear hcz83_5
       try clear hcz83_6
       try clear hcz83_7
       try clear hfz26_0
       try clear hfz26_1
       try clear hfz26_2
       try clear hfz26_3
       try clear hfz26_4
       try clear hfz26_5
       try clear hfz26_6
       try clear hfz26_7
       try clear hfz39_0
       try clear hfz39_1
       try clear hfz39_2
       try clear hfz39_3
       try clear hfz39_4
       try clear hfz39_5
       try clear hfz39_6
       try clear hfz39_7
       try clear hfz46_0
       try clear hfz46_1
       try clear hfz46_2
       try clear hfz46_3
       try clear hfz46_4
       try clear hfz46_5
       try clear hfz46_6
       try clear hfz46_7
       try clear hfz55_0
       try clear hfz55_1
       try clear hfz55_2
       try clear hfz55_3
       try clear hfz55_4
       try clear hfz55_5
       try clear hfz55_6
       try clear hfz55_7
       try clear hfz66_0
       try clear hfz66_1
       try clear hfz66_2
       try clear hfz66_3
       try clear hfz66_4
       try clear hfz66_5
       try clear hfz66_6
       try clear hfz66_7
       try clear hfz76_0
       try clear hfz76_1
       try clear hfz76_2
       try clear hfz76_3
       try clear hfz76_4
       try clear hfz76_5
       try clear hfz76_6
       try clear hfz76_7
       try clear hfz83_0
       try clear hfz83_1
       try clear hfz83_2
       try clear hfz83_3
       try clear hfz83_4
       try clear hfz83_5
       try clear hfz83_6
       try clear hfz83_7
       try clear hx222_0
       try clear p2
       try clear p22
       try clear p222
       try clear p6
       try clear p64
       try clear q2
       try clear q22
       try clear q222
       obtain ⟨kq, x141_88, rfl, HA, HJ88, BK201, BK202, BK209, HI205, HB⟩ := hcut
       cases kq with
       | zero => exact absurd HA.out (by simp [change_Decode.j3])
       | succ kj88 =>
        have H := HA.out; clear HA
        simp only [change_Decode.j3] at H
        by_cases c97 : x141_88 = true
        · subst c97
          have H1 : ((coin_Purse_Fault.f t228 t229).bind fun bt231 => (some (0, 0, false, 0, 0, 0, 0, 0, mx bt231.1 4))) = some (r1, r2, r3, r4, r5, r6, r7, r8, r9) := by rw [if_pos rfl] at H; exact H
          clear H; have H := H1; clear H1; replace H := Option.bind_eq_some_iff.mp H; obtain ⟨⟨t231, t232, t233⟩, A980, H⟩ := H; replace H : (some (0, 0, false, 0, 0, 0, 0, 0, mx t231 4)) = some (r1, r2, r3, r4, r5, r6, r7, r8, r9) := H; have A98 := Aside0.mk A980; clear A980
          obtain ⟨ji99, hji99⟩ : ∃ j_ : Int, (mx t231 4) = j_ := ⟨_, rfl⟩
          replace H : (some (0, 0, false, 0, 0, 0, 0, 0, ji99)) = some (r1, r2, r3, r4, r5, r6, r7, r8, r9) := by first | (rw [hji99] at H; exact H)
          (try rw [hji99] at A98)
          (try (have hji99l : 4 ≤ ji99 := by (rw [← hji99]; unfold mx; (repeat' split) <;> omega)))
          (try (have hji99m : 0 ≤ ji99 := by omega))
          have hji99_ : (if t231 < 4 then 4 else t231) = ji99 := hji99
          simp only [Option.some.injEq, Prod.mk.injEq] at H
          obtain ⟨rfl, rfl, rfl, rfl, rfl, rfl, rfl, rfl, rfl⟩ := H
          go_wp2_with (first | ((with_reducible refine gate_callee (f := 42) rfl ?_); refine goesL_ (some 144) rfl rfl Try.func42 (by kernel_rfl) rfl #[.pointer (some ⟨g205, 0, none⟩)] rfl (by (try simp only [List.map_toArray, List.map_cons, List.map_nil]); first | rfl | (refine qa_arr ?_; (repeat' (first | rfl | refine qa_cons ?_ ?_ | refine qa_int ?_ | refine qa_agg ?_ | refine qa_arr ?_ | omega)); done)) ?_; (with_reducible refine (coin_Purse_Fault.calls g205 t228 t229 t231 t232 t233 w _ ?side1 ?side2 A98.out).mono ?_); (case side1 => repeat (first | (with_reducible first | exact HI205.out | refine IsS100.far ?_ NB205_209.out _))); (case side2 => repeat (first | (with_reducible first | exact HB.out | refine below_set ?_ GE209.out))); rintro e w100 ⟨rfl, hi, hb, hk⟩; refine ⟨_, rfl, ?_⟩; have n0_ := Aside0.mk (KeepBut.blk hk (g' := gb201) (o := .cells #[.int .u64 a0_0, .int .u64 a0_1, .bool a0_2, .int .u32 a0_3, .int .u8 a0_4, .int .i64 a0_5, .int .u16 a0_6, .int .u16 a0_7] 31 (0, 0)) BK201.out NB201_205.out (by simp)); have n1_ := Aside0.mk (KeepBut.blk hk (g' := gb202) (o := .cells #[.int .u64 0, .int .u64 0, .bool false, .int .u32 0, .int .u8 0, .int .i64 0, .int .u16 0, .int .u16 0] 31 (0, 0)) BK202.out NB202_205.out (by simp)); have n2_ := Aside0.mk (KeepBut.blk hk (g' := gb209) (o := .cells #[.int .u64 (IntKind.u64.wrap (a0_0 + 1)), .int .u64 (IntKind.u64.wrap (a0_1 + t206)), .bool ((Go.bits .and .u64 t210 1) == 1), .int .u32 x210003_41, .int .u8 ((t210 / 16) % 256), .int .i64 0, .int .u16 0, .int .u16 0] 31 (0, 0)) BK209.out NB209_205.out (by simp)); have n3_ := Aside0.mk (hb); have n4_ := Aside0.mk (hi); clear BK201 BK202 BK209 HB HI205; revert n0_ n1_ n2_ n3_ n4_; intro BK201 BK202 BK209 HB HI205; (try clear hb); (try clear hb2); (try clear hk); (try clear hi); have hnb101 := NB202_201.out; have hnc101 := NB201_202.out; have hnb102 := NB202_209.out; have hnc102 := NB209_202.out; have hnb103 := NB202_205.out; have hnc103 := NB205_202.out; have hcz104_0 : w100.cell? ⟨gb202, 0, none⟩ = some (.int .u64 0) := (blk_cell BK202.out 0).trans rfl; have hcz104_1 : w100.cell? ⟨gb202, 1, none⟩ = some (.int .u64 0) := (blk_cell BK202.out 1).trans rfl; have hcz104_2 : w100.cell? ⟨gb202, 2, none⟩ = some (.bool false) := (blk_cell BK202.out 2).trans rfl; have hcz104_3 : w100.cell? ⟨gb202, 3, none⟩ = some (.int .u32 0) := (blk_cell BK202.out 3).trans rfl; have hcz104_4 : w100.cell? ⟨gb202, 4, none⟩ = some (.int .u8 0) := (blk_cell BK202.out 4).trans rfl; have hcz104_5 : w100.cell? ⟨gb202, 5, none⟩ = some (.int .i64 0) := (blk_cell BK202.out 5).trans rfl; have hcz104_6 : w100.cell? ⟨gb202, 6, none⟩ = some (.int .u16 0) := (blk_cell BK202.out 6).trans rfl; have hcz104_7 : w100.cell? ⟨gb202, 7, none⟩ = some (.int .u16 0) := (blk_cell BK202.out 7).trans rfl; have hfz104_0 := blk_frozen BK202.out 0; have hfz104_1 := blk_frozen BK202.out 1; have hfz104_2 := blk_frozen BK202.out 2; have hfz104_3 := blk_frozen BK202.out 3; have hfz104_4 := blk_frozen BK202.out 4; have hfz104_5 := blk_frozen BK202.out 5; have hfz104_6 := blk_frozen BK202.out 6; have hfz104_7 := blk_frozen BK202.out 7))
          refine bodyPost_ret (results_ct rfl _ _ gb202 31 #[.int .u64 0, .int .u64 0, .bool false, .int .u32 0, .int .u8 0, .int .i64 0, .int .u16 0, .int .u16 0] (0, 0) _ rfl (by refine blk_put (cs := #[.int .u64 0, .int .u64 0, .bool false, .int .u32 0, .int .u8 0, .int .i64 0, .int .u16 0, .int .u16 0]) ?_ 7 _ rfl; refine blk_put (cs := #[.int .u64 0, .int .u64 0, .bool false, .int .u32 0, .int .u8 0, .int .i64 0, .int .u16 0, .int .u16 0]) ?_ 6 _ rfl; refine blk_put (cs := #[.int .u64 0, .int .u64 0, .bool false, .int .u32 0, .int .u8 0, .int .i64 0, .int .u16 0, .int .u16 0]) ?_ 5 _ rfl; refine blk_put (cs := #[.int .u64 0, .int .u64 0, .bool false, .int .u32 0, .int .u8 0, .int .i64 0, .int .u16 0, .int .u16 0]) ?_ 4 _ rfl; refine blk_put (cs := #[.int .u64 0, .int .u64 0, .bool false, .int .u32 0, .int .u8 0, .int .i64 0, .int .u16 0, .int .u16 0]) ?_ 3 _ rfl; refine blk_put (cs := #[.int .u64 0, .int .u64 0, .bool false, .int .u32 0, .int .u8 0, .int .i64 0, .int .u16 0, .int .u16 0]) ?_ 2 _ rfl; refine blk_put (cs := #[.int .u64 0, .int .u64 0, .bool false, .int .u32 0, .int .u8 0, .int .i64 0, .int .u16 0, .int .u16 0]) ?_ 1 _ rfl; refine blk_put (cs := #[.int .u64 0, .int .u64 0, .bool false, .int .u32 0, .int .u8 0, .int .i64 0, .int .u16 0, .int .u16 0]) ?_ 0 _ rfl; exact BK202.out) Try.underlying31 rfl (by kernel_rfl)) rfl ?_; exact ⟨by first | rfl | (simp [*, errW_none, errW_some] <;> rfl), by repeat (first | (with_reducible first | exact HB.out | refine below_set ?_ GE202.out))⟩
        replace c97 := Bool.eq_false_iff.mpr c97; subst c97
        have H1 : ((coin_Purse_Take.f kj88 t228 t229 65535).bind fun bt234 => (change_Decode.j4 kj88 l1 a0_0 a0_1 a0_2 a0_3 a0_4 a0_5 a0_6 a0_7 bt234.2.1 bt234.2.2 (IntKind.u64.wrap (a0_0 + 1)) (IntKind.u64.wrap (a0_1 + t206)) ((Go.bits .and .u64 t210 1) == 1) x210003_41 ((t210 / 16) % 256) (wrap64 (a0_5 + t226)) (IntKind.u16.wrap ((wrap64 ((wrap64 (a0_6)) + t230)))) (IntKind.u16.wrap (a0_7 + (IntKind.u16.wrap (bt234.1)))))) = some (r1, r2, r3, r4, r5, r6, r7, r8, r9) := by rw [if_neg (show ¬ (false = true) by decide)] at H; exact H
        clear H; have H := H1; clear H1; replace H := Option.bind_eq_some_iff.mp H; obtain ⟨⟨t234, t235, t236⟩, A1050, H⟩ := H; replace H : (change_Decode.j4 kj88 l1 a0_0 a0_1 a0_2 a0_3 a0_4 a0_5 a0_6 a0_7 t235 t236 (IntKind.u64.wrap (a0_0 + 1)) (IntKind.u64.wrap (a0_1 + t206)) ((Go.bits .and .u64 t210 1) == 1) x210003_41 ((t210 / 16) % 256) (wrap64 (a0_5 + t226)) (IntKind.u16.wrap ((wrap64 ((wrap64 (a0_6)) + t230)))) (IntKind.u16.wrap (a0_7 + (IntKind.u16.wrap (t234))))) = some (r1, r2, r3, r4, r5, r6, r7, r8, r9) := H; have A105 := Aside0.mk A1050; clear A1050; have H' := Aside0.mk H; clear H
        try go_wp2
        have n0_ := Aside0.mk (blk_drew BK201.out); have n1_ := Aside0.mk (blk_drew BK202.out); have n2_ := Aside0.mk (blk_drew BK209.out); have n3_ := Aside0.mk (IsS100.drew HI205.out); have n4_ := Aside0.mk (below_drew1 HB.out); clear BK201; clear BK202; clear BK209; clear HI205; clear HB; have BK201 := n0_; have BK202 := n1_; have BK209 := n2_; have HI205 := n3_; have HB := n4_; clear n0_ n1_ n2_ n3_ n4_
        refine start_ (n := 19) (S := fun w' => w'.cell? ⟨gb201, 0, none⟩ = some (.int .u64 a0_0) ∧ w'.cell? ⟨gb201, 1, none⟩ = some (.int .u64 a0_1) ∧ w'.cell? ⟨gb201, 2, none⟩ = some (.bool a0_2) ∧ w'.cell? ⟨gb201, 3, none⟩ = some (.int .u32 a0_3) ∧ w'.cell? ⟨gb201, 4, none⟩ = some (.int .u8 a0_4) ∧ w'.cell? ⟨gb201, 5, none⟩ = some (.int .i64 a0_5) ∧ w'.cell? ⟨gb201, 6, none⟩ = some (.int .u16 a0_6) ∧ w'.cell? ⟨gb201, 7, none⟩ = some (.int .u16 a0_7)) (ds := []) #[O,O,O,O,O,O,O,O,O,O,O,O,O,O,O,O,O,O,O] (by kernel_rfl) rfl rfl ⟨(blk_cell BK201.out 0).trans rfl, (blk_cell BK201.out 1).trans rfl, (blk_cell BK201.out 2).trans rfl, (blk_cell BK201.out 3).trans rfl, (blk_cell BK201.out 4).trans rfl, (blk_cell BK201.out 5).trans rfl, (blk_cell BK201.out 6).trans rfl, (blk_cell BK201.out 7).trans rfl⟩ (fun hHeld => ?_); refine with_tabW change_Decode.tab24 change_Decode.bits24 (fun HT_ HW_ => ?_)
        generalize wc.drew = w106 at BK201 BK202 BK209 HI205 HB hHeld ⊢; refine pure_ (i := 0) (N := some 146) (v := ?_) (a' := ?_) #[I,O,O,O,O,O,O,O,O,O,O,O,O,O,O,O,O,O,O] rfl rfl (any_of HT_.out (by kernel_rfl)) (fun _ _ _ h => h) (Or.inl ⟨by rfl, ?_⟩) ?_ ?_; rotate_left; · intro w'; go_simp; with_reducible rfl
        rotate_left; · simp only [Act.put, la0, la1, la2, i64_w, i32_w]; rfl
        refine pure_ (i := 1) (N := some 147) (v := ?_) (a' := ?_) #[I,I,O,O,O,O,O,O,O,O,O,O,O,O,O,O,O,O,O] rfl rfl (any_of HT_.out (by kernel_rfl)) (fun _ _ _ h => h) (Or.inl ⟨by rfl, ?_⟩) ?_ ?_; rotate_left; · intro w'; go_simp; with_reducible rfl
        rotate_left; · simp only [Act.put, la0, la1, la2, i64_w, i32_w]; rfl
        refine pure_ (i := 2) (N := some 148) (v := ?_) (a' := ?_) #[I,I,I,O,O,O,O,O,O,O,O,O,O,O,O,O,O,O,O] rfl rfl (any_of HT_.out (by kernel_rfl)) (fun _ _ _ h => h) (Or.inl ⟨by rfl, ?_⟩) ?_ ?_; rotate_left; · intro w'; go_simp; with_reducible rfl
        rotate_left; · simp only [Act.put, la0, la1, la2, i64_w, i32_w]; rfl
        refine pure_ (i := 3) (N := some 149) (v := ?_) (a' := ?_) #[I,I,I,I,O,O,O,O,O,O,O,O,O,O,O,O,O,O,O] rfl rfl (any_of HT_.out (by kernel_rfl)) (fun _ _ _ h => h) (Or.inl ⟨by rfl, ?_⟩) ?_ ?_; rotate_left; · intro w'; go_simp; with_reducible rfl
        rotate_left; · simp only [Act.put, la0, la1, la2, i64_w, i32_w]; rfl
        refine pure_ (i := 4) (N := some 150) (v := ?_) (a' := ?_) #[I,I,I,I,I,O,O,O,O,O,O,O,O,O,O,O,O,O,O] rfl rfl (any_of HT_.out (by kernel_rfl)) (fun _ _ _ h => h) (Or.inl ⟨by rfl, ?_⟩) ?_ ?_; rotate_left; · intro w'; go_simp; with_reducible rfl
        rotate_left; · simp only [Act.put, la0, la1, la2, i64_w, i32_w]; rfl
        refine pure_ (i := 6) (N := some 152) (v := ?_) (a' := ?_) #[I,I,I,I,I,O,I,O,O,O,O,O,O,O,O,O,O,O,O] rfl rfl (any_of HT_.out (by kernel_rfl)) (fun _ _ _ h => h) (Or.inl ⟨by rfl, ?_⟩) ?_ ?_; rotate_left; · intro w'; go_simp; with_reducible rfl
        rotate_left; · simp only [Act.put, la0, la1, la2, i64_w, i32_w]; rfl
        refine pure_ (i := 10) (N := some 156) (v := ?_) (a' := ?_) #[I,I,I,I,I,O,I,O,O,O,I,O,O,O,O,O,O,O,O] rfl rfl (any_of HT_.out (by kernel_rfl)) (fun _ _ _ h => h) (Or.inl ⟨by rfl, ?_⟩) ?_ ?_; rotate_left; · intro w'; go_simp; with_reducible rfl
        rotate_left; · simp only [Act.put, la0, la1, la2, i64_w, i32_w]; rfl
        refine pure_ (i := 11) (N := some 157) (v := ?_) (a' := ?_) #[I,I,I,I,I,O,I,O,O,O,I,I,O,O,O,O,O,O,O] rfl rfl (any_of HT_.out (by kernel_rfl)) (fun _ _ _ h => h) (Or.inl ⟨by rfl, ?_⟩) ?_ ?_; rotate_left; · intro w'; go_simp; with_reducible rfl
        rotate_left; · simp only [Act.put, la0, la1, la2, i64_w, i32_w]; rfl
        refine take_ (i := 5) (N := some 151) (v := ?_) (a' := ?_) #[I,I,I,I,I,I,I,O,O,O,I,I,O,O,O,O,O,O,O] rfl rfl (take_ofW HT_.out HW_.out (by kernel_rfl)) (fun _ _ _ h => h) (Or.inl ⟨by rfl, ?_⟩) hHeld ?_ ?_; rotate_left; · rintro w' ⟨s0, s1, s2, s3, s4, s5, s6, s7⟩; go_simp; with_reducible rfl
        rotate_left; · simp only [Act.put, la0, la1, la2, i64_w, i32_w]; rfl
        refine one_ (i := 7) (N := some 153) #[I,I,I,I,I,I,I,I,O,O,I,I,O,O,O,O,O,O,O] rfl rfl (one_of HT_.out (by kernel_rfl)) (by decide) (fun K hK => ?_); refine goes_ Try.func39 (by kernel_rfl) rfl #[.pointer (some ⟨g205, 0, none⟩), .int .u64 65535] (by rfl) rfl rfl (by (try simp only [List.map_toArray, List.map_cons, List.map_nil]); first | rfl) ?_
        with_reducible refine (coin_Purse_Take.calls kj88 g205 t228 t229 65535 t234 t235 t236 w _ ?side1 ?side2 A105.out).mono ?_
        (case side1 => repeat (first | (with_reducible first | exact HI205.out | refine IsS100.far ?_ NB205_209.out _)))
        (case side2 => repeat (first | (with_reducible first | exact HB.out | refine below_set ?_ GE209.out)))
        rintro e w107 ⟨rfl, hi, hb, hk⟩; refine ⟨_, rfl, ?_⟩; have n0_ := Aside0.mk (KeepBut.blk hk (g' := gb201) (o := .cells #[.int .u64 a0_0, .int .u64 a0_1, .bool a0_2, .int .u32 a0_3, .int .u8 a0_4, .int .i64 a0_5, .int .u16 a0_6, .int .u16 a0_7] 31 (0, 0)) BK201.out NB201_205.out (by simp)); have n1_ := Aside0.mk (KeepBut.blk hk (g' := gb202) (o := .cells #[.int .u64 0, .int .u64 0, .bool false, .int .u32 0, .int .u8 0, .int .i64 0, .int .u16 0, .int .u16 0] 31 (0, 0)) BK202.out NB202_205.out (by simp)); have n2_ := Aside0.mk (KeepBut.blk hk (g' := gb209) (o := .cells #[.int .u64 (IntKind.u64.wrap (a0_0 + 1)), .int .u64 (IntKind.u64.wrap (a0_1 + t206)), .bool ((Go.bits .and .u64 t210 1) == 1), .int .u32 x210003_41, .int .u8 ((t210 / 16) % 256), .int .i64 0, .int .u16 0, .int .u16 0] 31 (0, 0)) BK209.out NB209_205.out (by simp)); have n3_ := Aside0.mk (hb); have n4_ := Aside0.mk (hi); clear BK201; clear BK202; clear BK209; clear HB; clear HI205; have BK201 := n0_; have BK202 := n1_; have BK209 := n2_; have HB := n3_; have HI205 := n4_; clear n0_ n1_ n2_ n3_ n4_
        (try clear hb)
        (try clear hb2)
        (try clear hk)
        (try clear hi)
        refine hK.out _ _ ⟨(blk_cell BK201.out 0).trans rfl, (blk_cell BK201.out 1).trans rfl, (blk_cell BK201.out 2).trans rfl, (blk_cell BK201.out 3).trans rfl, (blk_cell BK201.out 4).trans rfl, (blk_cell BK201.out 5).trans rfl, (blk_cell BK201.out 6).trans rfl, (blk_cell BK201.out 7).trans rfl⟩ (fun hHeld => ?_); clear hK K; refine norm_ (a' := ?_) ?_ ?_; rotate_left
        · show Act.put _ (some 153) _ = _
          simp only [Act.put, la0, la1, la2, i64_w, i32_w]
          rfl
        refine pure_ (i := 8) (N := some 154) (v := ?_) (a' := ?_) #[I,I,I,I,I,I,I,I,I,O,I,I,O,O,O,O,O,O,O] rfl rfl (any_of HT_.out (by kernel_rfl)) (fun _ _ _ h => h) (Or.inl ⟨by rfl, ?_⟩) ?_ ?_; rotate_left; · intro w'; go_simp; with_reducible rfl
        rotate_left; · simp only [Act.put, la0, la1, la2, i64_w, i32_w]; rfl
        refine pure_ (i := 9) (N := some 155) (v := ?_) (a' := ?_) #[I,I,I,I,I,I,I,I,I,I,I,I,O,O,O,O,O,O,O] rfl rfl (any_of HT_.out (by kernel_rfl)) (fun _ _ _ h => h) (Or.inl ⟨by rfl, ?_⟩) ?_ ?_; rotate_left; · intro w'; go_simp; with_reducible rfl
        rotate_left; · simp only [Act.put, la0, la1, la2, i64_w, i32_w]; rfl
        refine one_ (i := 12) (N := none) #[I,I,I,I,I,I,I,I,I,I,I,I,I,O,O,O,O,O,O] rfl rfl (one_of HT_.out (by kernel_rfl)) (by decide) (fun K hK => ?_); have hs108 : w107.cell? ⟨gb209, 5, none⟩ = some (.int .i64 0) := (blk_cell BK209.out 5).trans rfl; have hfs108 := blk_frozen BK209.out 5; have hns108_0 := NB201_209.out; have hns108_1 := NB202_209.out; have hms108_0 := NB209_201.out; have hms108_1 := NB209_202.out; refine skip_ (w1 := ?_) (by rfl) rfl ?_ ?_; rotate_left; · go_simp; rfl
        refine hK.out _ _ ⟨((cell_far (p := ⟨gb209, _, none⟩) NB201_209.out _).trans (hHeld.1)), ((cell_far (p := ⟨gb209, _, none⟩) NB201_209.out _).trans (hHeld.2.1)), ((cell_far (p := ⟨gb209, _, none⟩) NB201_209.out _).trans (hHeld.2.2.1)), ((cell_far (p := ⟨gb209, _, none⟩) NB201_209.out _).trans (hHeld.2.2.2.1)), ((cell_far (p := ⟨gb209, _, none⟩) NB201_209.out _).trans (hHeld.2.2.2.2.1)), ((cell_far (p := ⟨gb209, _, none⟩) NB201_209.out _).trans (hHeld.2.2.2.2.2.1)), ((cell_far (p := ⟨gb209, _, none⟩) NB201_209.out _).trans (hHeld.2.2.2.2.2.2.1)), ((cell_far (p := ⟨gb209, _, none⟩) NB201_209.out _).trans (hHeld.2.2.2.2.2.2.2))⟩ (fun hHeld => ?_); clear hK K; refine pure_ (i := 13) (N := some 158) (v := ?_) (a' := ?_) #[I,I,I,I,I,I,I,I,I,I,I,I,I,I,O,O,O,O,O] rfl rfl (any_of HT_.out (by kernel_rfl)) (fun _ _ _ h => h) (Or.inl ⟨by rfl, ?_⟩) ?_ ?_; rotate_left; · intro w'; go_simp; with_reducible rfl
        rotate_left; · simp only [Act.put, la0, la1, la2, i64_w, i32_w]; rfl
        refine pure_ (i := 14) (N := some 159) (v := ?_) (a' := ?_) #[I,I,I,I,I,I,I,I,I,I,I,I,I,I,I,O,O,O,O] rfl rfl (any_of HT_.out (by kernel_rfl)) (fun _ _ _ h => h) (Or.inl ⟨by rfl, ?_⟩) ?_ ?_; rotate_left; · intro w'; go_simp; with_reducible rfl
        rotate_left; · simp only [Act.put, la0, la1, la2, i64_w, i32_w]; rfl
        refine one_ (i := 15) (N := none) #[I,I,I,I,I,I,I,I,I,I,I,I,I,I,I,I,O,O,O] rfl rfl (one_of HT_.out (by kernel_rfl)) (by decide) (fun K hK => ?_); have hs109 : w107.cell? ⟨gb209, 6, none⟩ = some (.int .u16 0) := (blk_cell BK209.out 6).trans rfl; have hfs109 := blk_frozen BK209.out 6; have hns109_0 := NB201_209.out; have hns109_1 := NB202_209.out; have hms109_0 := NB209_201.out; have hms109_1 := NB209_202.out; refine skip_ (w1 := ?_) (by rfl) rfl ?_ ?_; rotate_left; · go_simp; rfl
        refine hK.out _ _ ⟨((cell_far (p := ⟨gb209, _, none⟩) NB201_209.out _).trans (hHeld.1)), ((cell_far (p := ⟨gb209, _, none⟩) NB201_209.out _).trans (hHeld.2.1)), ((cell_far (p := ⟨gb209, _, none⟩) NB201_209.out _).trans (hHeld.2.2.1)), ((cell_far (p := ⟨gb209, _, none⟩) NB201_209.out _).trans (hHeld.2.2.2.1)), ((cell_far (p := ⟨gb209, _, none⟩) NB201_209.out _).trans (hHeld.2.2.2.2.1)), ((cell_far (p := ⟨gb209, _, none⟩) NB201_209.out _).trans (hHeld.2.2.2.2.2.1)), ((cell_far (p := ⟨gb209, _, none⟩) NB201_209.out _).trans (hHeld.2.2.2.2.2.2.1)), ((cell_far (p := ⟨gb209, _, none⟩) NB201_209.out _).trans (hHeld.2.2.2.2.2.2.2))⟩ (fun hHeld => ?_); clear hK K; refine pure_ (i := 16) (N := some 160) (v := ?_) (a' := ?_) #[I,I,I,I,I,I,I,I,I,I,I,I,I,I,I,I,I,O,O] rfl rfl (any_of HT_.out (by kernel_rfl)) (fun _ _ _ h => h) (Or.inl ⟨by rfl, ?_⟩) ?_ ?_; rotate_left; · intro w'; go_simp; with_reducible rfl
        rotate_left; · simp only [Act.put, la0, la1, la2, i64_w, i32_w]; rfl
        refine pure_ (i := 17) (N := some 161) (v := ?_) (a' := ?_) #[I,I,I,I,I,I,I,I,I,I,I,I,I,I,I,I,I,I,O] rfl rfl (any_of HT_.out (by kernel_rfl)) (fun _ _ _ h => h) (Or.inl ⟨by rfl, ?_⟩) ?_ ?_; rotate_left; · intro w'; go_simp; with_reducible rfl
        rotate_left; · simp only [Act.put, la0, la1, la2, i64_w, i32_w]; rfl
        refine one_ (i := 18) (N := none) #[I,I,I,I,I,I,I,I,I,I,I,I,I,I,I,I,I,I,I] rfl rfl (one_of HT_.out (by kernel_rfl)) (by decide) (fun K hK => ?_); have hs110 : w107.cell? ⟨gb209, 7, none⟩ = some (.int .u16 0) := (blk_cell BK209.out 7).trans rfl; have hfs110 := blk_frozen BK209.out 7; have hns110_0 := NB201_209.out; have hns110_1 := NB202_209.out; have hms110_0 := NB209_201.out; have hms110_1 := NB209_202.out; refine skip_ (w1 := ?_) (by rfl) rfl ?_ ?_; rotate_left; · go_simp; rfl
        refine hK.out _ _ ⟨((cell_far (p := ⟨gb209, _, none⟩) NB201_209.out _).trans (hHeld.1)), ((cell_far (p := ⟨gb209, _, none⟩) NB201_209.out _).trans (hHeld.2.1)), ((cell_far (p := ⟨gb209, _, none⟩) NB201_209.out _).trans (hHeld.2.2.1)), ((cell_far (p := ⟨gb209, _, none⟩) NB201_209.out _).trans (hHeld.2.2.2.1)), ((cell_far (p := ⟨gb209, _, none⟩) NB201_209.out _).trans (hHeld.2.2.2.2.1)), ((cell_far (p := ⟨gb209, _, none⟩) NB201_209.out _).trans (hHeld.2.2.2.2.2.1)), ((cell_far (p := ⟨gb209, _, none⟩) NB201_209.out _).trans (hHeld.2.2.2.2.2.2.1)), ((cell_far (p := ⟨gb209, _, none⟩) NB201_209.out _).trans (hHeld.2.2.2.2.2.2.2))⟩ (fun hHeld => ?_); clear hK K; refine done_ (done_of HT_.out (by kernel_rfl)) ?_
        try go_wp2
        go_meet
        case rel => exact ⟨_, (0), (0), (false), (0), (0), (0), (0), (0), (t235), (t236), ((wrap64 (a0_5 + t226))), (IntKind.u16.wrap ((wrap64 ((wrap64 (a0_6)) + t230)))), (IntKind.u16.wrap (a0_7 + (IntKind.u16.wrap (t234)))), H', ⟨by have := HJ5.out; have := HJ41.out; have := HJ88.out; first | omega⟩, ⟨by refine blk_far ?_ NB201_209.out _; refine blk_far ?_ NB201_209.out _; refine blk_far ?_ NB201_209.out _; exact BK201.out⟩, ⟨by refine blk_far ?_ NB202_209.out _; refine blk_far ?_ NB202_209.out _; refine blk_far ?_ NB202_209.out _; exact BK202.out⟩, ⟨by refine blk_put (cs := #[.int .u64 (IntKind.u64.wrap (a0_0 + 1)), .int .u64 (IntKind.u64.wrap (a0_1 + t206)), .bool ((Go.bits .and .u64 t210 1) == 1), .int .u32 x210003_41, .int .u8 ((t210 / 16) % 256), .int .i64 (wrap64 (a0_5 + t226)), .int .u16 (IntKind.u16.wrap ((wrap64 ((wrap64 (a0_6)) + t230)))), .int .u16 0]) ?_ 7 _ rfl; refine blk_put (cs := #[.int .u64 (IntKind.u64.wrap (a0_0 + 1)), .int .u64 (IntKind.u64.wrap (a0_1 + t206)), .bool ((Go.bits .and .u64 t210 1) == 1), .int .u32 x210003_41, .int .u8 ((t210 / 16) % 256), .int .i64 (wrap64 (a0_5 + t226)), .int .u16 0, .int .u16 0]) ?_ 6 _ rfl; refine blk_put (cs := #[.int .u64 (IntKind.u64.wrap (a0_0 + 1)), .int .u64 (IntKind.u64.wrap (a0_1 + t206)), .bool ((Go.bits .and .u64 t210 1) == 1), .int .u32 x210003_41, .int .u8 ((t210 / 16) % 256), .int .i64 0, .int .u16 0, .int .u16 0]) ?_ 5 _ rfl; exact BK209.out⟩, ⟨by repeat (first | (with_reducible first | exact HI205.out | refine IsS100.far ?_ NB205_209.out _))⟩, ⟨by repeat (first | (with_reducible first | exact HB.out | refine below_set ?_ GE209.out))⟩⟩
     case rest =>
      clear HC79
      try clear c1
      try clear c2
      try clear p2
      try clear q2
      try clear hx2
      try clear c3
      try clear c4
      try clear c5
      try clear c6
      try clear p6
      try clear c7
      try clear c8
      try clear c9
      try clear c10
      try clear p22
      try clear q22
      try clear hx22
      try clear c23
      try clear c24
      try clear c25
      try clear c27
      try clear c27b0
      try clear c28
      try clear c29
      try clear c35
      try clear c36
      try clear c37
      try clear c38
      try clear c39
      try clear c40
      try clear c41
      try clear c42
      try clear c43
      try clear c44
      try clear c45
      try clear c48
      try clear c48b0
      try clear c50
      try clear c50b0
      try clear c51
      try clear c51b0
      try clear c52
      try clear c53
      try clear c54
      try clear c58
      try clear c58b0
      try clear c59
      try clear c59b0
      try clear c61
      try clear c61b0
      try clear c61b1
      try clear c63
      try clear c64
      try clear p64
      try clear c65
      try clear c71
      try clear c71b0
      try clear c71b1
      try clear c73
      try clear c74
      try clear c75
      try clear c80
      try clear c81
      try clear c82
      try clear c84
      try clear c84b0
      try clear c84b1
      try clear c84b2
      try clear c94
      try clear c94b0
      try clear c95
      try clear c95b0
      try clear c96
      try clear c96b0
      try clear c97
      try clear c101
      try clear c102
      try clear c103
      try clear hcz104_0
      try clear hcz104_1
      try clear hcz104_2
      try clear hcz104_3
      try clear hcz104_4
      try clear hcz104_5
      try clear hcz104_6
      try clear hcz104_7
      try clear hcz26_0
      try clear hcz26_1
      try clear hcz26_2
      try clear hcz26_3
      try clear hcz26_4
      try clear hcz26_5
      try clear hcz26_6
      try clear hcz26_7
      try clear hcz39_0
      try clear hcz39_1
      try clear hcz39_2
      try clear hcz39_3
      try clear hcz39_4
      try clear hcz39_5
      try clear hcz39_6
      try clear hcz39_7
      try clear hcz46_0
      try clear hcz46_1
      try clear hcz46_2
      try clear hcz46_3
      try clear hcz46_4
      try clear hcz46_5
      try clear hcz46_6
      try clear hcz46_7
      try clear hcz55_0
      try clear hcz55_1
      try clear hcz55_2
      try clear hcz55_3
      try clear hcz55_4
      try clear hcz55_5
      try clear hcz55_6
      try clear hcz55_7
      try clear hcz66_0
      try clear hcz66_1
      try clear hcz66_2
      try clear hcz66_3
      try clear hcz66_4
      try clear hcz66_5
      try clear hcz66_6
      try clear hcz66_7
      try clear hcz76_0
      try clear hcz76_1
      try clear hcz76_2
      try clear hcz76_3
      try clear hcz76_4
      try clear hcz76_5
      try clear hcz76_6
      try clear hcz76_7
      try clear hcz83_0
      try clear hcz83_1
      try clear hcz83_2
      try clear hcz83_3
      try clear hcz83_4
      try clear hcz83_5
      try clear hcz83_6
      try clear hcz83_7
      try clear hfz104_0
      try clear hfz104_1
      try clear hfz104_2
      try clear hfz104_3
      try clear hfz104_4
      try clear hfz104_5
      try clear hfz104_6
      try clear hfz104_7
      try clear hfz26_0
      try clear hfz26_1
      try clear hfz26_2
      try clear hfz26_3
      try clear hfz26_4
      try clear hfz26_5
      try clear hfz26_6
      try clear hfz26_7
      try clear hfz39_0
      try clear hfz39_1
      try clear hfz39_2
      try clear hfz39_3
      try clear hfz39_4
      try clear hfz39_5
      try clear hfz39_6
      try clear hfz39_7
      try clear hfz46_0
      try clear hfz46_1
      try clear hfz46_2
      try clear hfz46_3
      try clear hfz46_4
      try clear hfz46_5
      try clear hfz46_6
      try clear hfz46_7
      try clear hfz55_0
      try clear hfz55_1
      try clear hfz55_2
      try clear hfz55_3
      try clear hfz55_4
      try clear hfz55_5
      try clear hfz55_6
      try clear hfz55_7
      try clear hfz66_0
      try clear hfz66_1
      try clear hfz66_2
      try clear hfz66_3
      try clear hfz66_4
      try clear hfz66_5
      try clear hfz66_6
      try clear hfz66_7
      try clear hfz76_0
      try clear hfz76_1
      try clear hfz76_2
      try clear hfz76_3
      try clear hfz76_4
      try clear hfz76_5
      try clear hfz76_6
      try clear hfz76_7
      try clear hfz83_0
      try clear hfz83_1
      try clear hfz83_2
      try clear hfz83_3
      try clear hfz83_4
      try clear hfz83_5
      try clear hfz83_6
      try clear hfz83_7
      try clear hx222_0
      try clear p2
      try clear p22
      try clear p222
      try clear p6
      try clear p64
      try clear q2
      try clear q22
      try clear q222
      obtain ⟨kq, x203000_78, x203001_78, x203002_78, x203003_78, x203004_78, x203005_78, x203006_78, x203007_78, x206000_78, x206001_78, x210005_78, x210006_78, x210007_78, HA, HJ78, BK201, BK202, BK209, HI205, HB⟩ := hcut
      cases kq with
      | zero => exact absurd HA.out (by simp [change_Decode.j4])
      | succ kj78 =>
       have H := HA.out; clear HA
       simp only [change_Decode.j4] at H
       replace H := Option.bind_eq_some_iff.mp H; obtain ⟨⟨t237, t238, t239⟩, A1110, H⟩ := H; replace H : (if t237 = 0 then ((change_Right.f kj78 (IntKind.u64.wrap (a0_0 + 1)) (IntKind.u64.wrap (a0_1 + t206)) ((Go.bits .and .u64 t210 1) == 1) x210003_41 ((t210 / 16) % 256) x210005_78 x210006_78 x210007_78).bind fun t240 => (if t240 = 0 then ((change_Encode.f kj78 a0_0 a0_1 a0_2 a0_3 a0_4 a0_5 a0_6 a0_7 (IntKind.u64.wrap (a0_0 + 1)) (IntKind.u64.wrap (a0_1 + t206)) ((Go.bits .and .u64 t210 1) == 1) x210003_41 ((t210 / 16) % 256) x210005_78 x210006_78 x210007_78).bind fun t241 => (if (strOfNums t241).toList = (strOfNums l1).toList then (some ((IntKind.u64.wrap (a0_0 + 1)), (IntKind.u64.wrap (a0_1 + t206)), ((Go.bits .and .u64 t210 1) == 1), x210003_41, ((t210 / 16) % 256), x210005_78, x210006_78, x210007_78, 0)) else (some (0, 0, false, 0, 0, 0, 0, 0, 4)))) else (some (0, 0, false, 0, 0, 0, 0, 0, 4)))) else (some (0, 0, false, 0, 0, 0, 0, 0, t237))) = some (r1, r2, r3, r4, r5, r6, r7, r8, r9) := H; have A111 := Aside0.mk A1110; clear A1110
       by_cases c112 : t237 = 0
       · rw [if_pos c112] at H
         have c112b0 : (t237 == 0) = true := beq_iff_eq.mpr c112; have c112b1 : (t237 != 0) = false := bne_eq_false_iff_eq.mpr c112; clear c112; replace H := Option.bind_eq_some_iff.mp H; obtain ⟨t240, A1130, H⟩ := H; replace H : (if t240 = 0 then ((change_Encode.f kj78 a0_0 a0_1 a0_2 a0_3 a0_4 a0_5 a0_6 a0_7 (IntKind.u64.wrap (a0_0 + 1)) (IntKind.u64.wrap (a0_1 + t206)) ((Go.bits .and .u64 t210 1) == 1) x210003_41 ((t210 / 16) % 256) x210005_78 x210006_78 x210007_78).bind fun t241 => (if (strOfNums t241).toList = (strOfNums l1).toList then (some ((IntKind.u64.wrap (a0_0 + 1)), (IntKind.u64.wrap (a0_1 + t206)), ((Go.bits .and .u64 t210 1) == 1), x210003_41, ((t210 / 16) % 256), x210005_78, x210006_78, x210007_78, 0)) else (some (0, 0, false, 0, 0, 0, 0, 0, 4)))) else (some (0, 0, false, 0, 0, 0, 0, 0, 4))) = some (r1, r2, r3, r4, r5, r6, r7, r8, r9) := H; have A113 := Aside0.mk A1130; clear A1130
         by_cases c114 : t240 = 0
         · rw [if_pos c114] at H
           have c114b0 : (t240 == 0) = true := beq_iff_eq.mpr c114; have c114b1 : (t240 != 0) = false := bne_eq_false_iff_eq.mpr c114; clear c114; replace H := Option.bind_eq_some_iff.mp H; obtain ⟨t241, A1150, H⟩ := H; replace H : (if (strOfNums t241).toList = (strOfNums l1).toList then (some ((IntKind.u64.wrap (a0_0 + 1)), (IntKind.u64.wrap (a0_1 + t206)), ((Go.bits .and .u64 t210 1) == 1), x210003_41, ((t210 / 16) % 256), x210005_78, x210006_78, x210007_78, 0)) else (some (0, 0, false, 0, 0, 0, 0, 0, 4))) = some (r1, r2, r3, r4, r5, r6, r7, r8, r9) := H; have A115 := Aside0.mk A1150; clear A1150
           by_cases c116 : (strOfNums t241).toList = (strOfNums l1).toList
           · rw [if_pos c116] at H
             have c116b0 : ((strOfNums t241).toList == (strOfNums l1).toList) = true := beq_iff_eq.mpr c116; have c116b1 : ((strOfNums t241).toList != (strOfNums l1).toList) = false := bne_eq_false_iff_eq.mpr c116; clear c116
             simp only [Option.some.injEq, Prod.mk.injEq] at H
             obtain ⟨rfl, rfl, rfl, rfl, rfl, rfl, rfl, rfl, rfl⟩ := H
             try go_wp2_with (first | ((with_reducible refine gate_callee (f := 43) rfl ?_); refine goesL_ (some 163) rfl rfl Try.func43 (by kernel_rfl) rfl #[.pointer (some ⟨g205, 0, none⟩)] rfl (by (try simp only [List.map_toArray, List.map_cons, List.map_nil]); first | rfl | (refine qa_arr ?_; (repeat' (first | rfl | refine qa_cons ?_ ?_ | refine qa_int ?_ | refine qa_agg ?_ | refine qa_arr ?_ | omega)); done)) ?_; (with_reducible refine (coin_Purse_End.calls g205 x206000_78 x206001_78 t237 t238 t239 w _ ?side1 ?side2 A111.out).mono ?_); (case side1 => repeat (first | (with_reducible first | exact HI205.out | refine IsS100.far ?_ NB205_209.out _))); (case side2 => repeat (first | (with_reducible first | exact HB.out | refine below_set ?_ GE209.out))); rintro e w117 ⟨rfl, hi, hb, hk⟩; refine ⟨_, rfl, ?_⟩; have n0_ := Aside0.mk (KeepBut.blk hk (g' := gb201) (o := .cells #[.int .u64 a0_0, .int .u64 a0_1, .bool a0_2, .int .u32 a0_3, .int .u8 a0_4, .int .i64 a0_5, .int .u16 a0_6, .int .u16 a0_7] 31 (0, 0)) BK201.out NB201_205.out (by simp)); have n1_ := Aside0.mk (KeepBut.blk hk (g' := gb202) (o := .cells #[.int .u64 x203000_78, .int .u64 x203001_78, .bool x203002_78, .int .u32 x203003_78, .int .u8 x203004_78, .int .i64 x203005_78, .int .u16 x203006_78, .int .u16 x203007_78] 31 (0, 0)) BK202.out NB202_205.out (by simp)); have n2_ := Aside0.mk (KeepBut.blk hk (g' := gb209) (o := .cells #[.int .u64 (IntKind.u64.wrap (a0_0 + 1)), .int .u64 (IntKind.u64.wrap (a0_1 + t206)), .bool ((Go.bits .and .u64 t210 1) == 1), .int .u32 x210003_41, .int .u8 ((t210 / 16) % 256), .int .i64 x210005_78, .int .u16 x210006_78, .int .u16 x210007_78] 31 (0, 0)) BK209.out NB209_205.out (by simp)); have n3_ := Aside0.mk (hb); have n4_ := Aside0.mk (hi); clear BK201 BK202 BK209 HB HI205; revert n0_ n1_ n2_ n3_ n4_; intro BK201 BK202 BK209 HB HI205; (try clear hb); (try clear hb2); (try clear hk); (try clear hi)))
             have n0_ := Aside0.mk (blk_drew BK201.out); have n1_ := Aside0.mk (blk_drew BK202.out); have n2_ := Aside0.mk (blk_drew BK209.out); have n3_ := Aside0.mk (IsS100.drew HI205.out); have n4_ := Aside0.mk (below_drew1 HB.out); clear BK201; clear BK202; clear BK209; clear HI205; clear HB; have BK201 := n0_; have BK202 := n1_; have BK209 := n2_; have HI205 := n3_; have HB := n4_; clear n0_ n1_ n2_ n3_ n4_
             refine start_ (n := 12) (S := fun w' => w'.cell? ⟨gb209, 0, none⟩ = some (.int .u64 (IntKind.u64.wrap (a0_0 + 1))) ∧ w'.cell? ⟨gb209, 1, none⟩ = some (.int .u64 (IntKind.u64.wrap (a0_1 + t206))) ∧ w'.cell? ⟨gb209, 2, none⟩ = some (.bool ((Go.bits .and .u64 t210 1) == 1)) ∧ w'.cell? ⟨gb209, 3, none⟩ = some (.int .u32 x210003_41) ∧ w'.cell? ⟨gb209, 4, none⟩ = some (.int .u8 ((t210 / 16) % 256)) ∧ w'.cell? ⟨gb209, 5, none⟩ = some (.int .i64 x210005_78) ∧ w'.cell? ⟨gb209, 6, none⟩ = some (.int .u16 x210006_78) ∧ w'.cell? ⟨gb209, 7, none⟩ = some (.int .u16 x210007_78) ∧ w'.cell? ⟨gb201, 0, none⟩ = some (.int .u64 a0_0) ∧ w'.cell? ⟨gb201, 1, none⟩ = some (.int .u64 a0_1) ∧ w'.cell? ⟨gb201, 2, none⟩ = some (.bool a0_2) ∧ w'.cell? ⟨gb201, 3, none⟩ = some (.int .u32 a0_3) ∧ w'.cell? ⟨gb201, 4, none⟩ = some (.int .u8 a0_4) ∧ w'.cell? ⟨gb201, 5, none⟩ = some (.int .i64 a0_5) ∧ w'.cell? ⟨gb201, 6, none⟩ = some (.int .u16 a0_6) ∧ w'.cell? ⟨gb201, 7, none⟩ = some (.int .u16 a0_7) ∧ (convert 33 9 (.slice A1 l1.length c1)).run Try.prog w' = .ok (.string (strOfNums l1)) w') (ds := []) #[O,O,O,O,O,O,O,O,O,O,O,O] (by kernel_rfl) rfl rfl ⟨(blk_cell BK209.out 0).trans rfl, (blk_cell BK209.out 1).trans rfl, (blk_cell BK209.out 2).trans rfl, (blk_cell BK209.out 3).trans rfl, (blk_cell BK209.out 4).trans rfl, (blk_cell BK209.out 5).trans rfl, (blk_cell BK209.out 6).trans rfl, (blk_cell BK209.out 7).trans rfl, (blk_cell BK201.out 0).trans rfl, (blk_cell BK201.out 1).trans rfl, (blk_cell BK201.out 2).trans rfl, (blk_cell BK201.out 3).trans rfl, (blk_cell BK201.out 4).trans rfl, (blk_cell BK201.out 5).trans rfl, (blk_cell BK201.out 6).trans rfl, (blk_cell BK201.out 7).trans rfl, (by have h_ := Kd.C_string (P := Try.prog) (A := A1) (c := c1) Try.underlying33 Try.underlying5 Try.underlying9 (Kd.C_below HR1.out HB.out); exact h_)⟩ (fun hHeld => ?_); refine with_tabW change_Decode.tab28 change_Decode.bits28 (fun HT_ HW_ => ?_)
             generalize w117.drew = w118 at BK201 BK202 BK209 HI205 HB hHeld ⊢; refine take_ (i := 0) (N := some 168) (v := ?_) (a' := ?_) #[I,O,O,O,O,O,O,O,O,O,O,O] rfl rfl (take_ofW HT_.out HW_.out (by kernel_rfl)) (fun _ _ _ h => h) (Or.inl ⟨by rfl, ?_⟩) hHeld ?_ ?_; rotate_left; · rintro w' ⟨s0, s1, s2, s3, s4, s5, s6, s7, s8, s9, s10, s11, s12, s13, s14, s15, s16⟩; go_simp; with_reducible rfl
             rotate_left; · simp only [Act.put, la0, la1, la2, i64_w, i32_w]; rfl
             refine one_ (i := 1) (N := some 169) #[I,I,O,O,O,O,O,O,O,O,O,O] rfl rfl (one_of HT_.out (by kernel_rfl)) (by decide) (fun K hK => ?_); refine goes_ Try.func44 (by kernel_rfl) rfl #[.agg #[.int .u64 (IntKind.u64.wrap (a0_0 + 1)), .int .u64 (IntKind.u64.wrap (a0_1 + t206)), .bool ((Go.bits .and .u64 t210 1) == 1), .int .u32 x210003_41, .int .u8 ((t210 / 16) % 256), .int .i64 x210005_78, .int .u16 x210006_78, .int .u16 x210007_78]] (by rfl) rfl rfl (by (try simp only [List.map_toArray, List.map_cons, List.map_nil]); first | rfl) ?_
             with_reducible refine (change_Right.calls kj78 (IntKind.u64.wrap (a0_0 + 1)) (IntKind.u64.wrap (a0_1 + t206)) ((Go.bits .and .u64 t210 1) == 1) x210003_41 ((t210 / 16) % 256) x210005_78 x210006_78 x210007_78 t240 _ A113.out).mono ?_
             rintro e w119 ⟨rfl, hb⟩; refine ⟨_, rfl, ?_⟩; have n0_ := Aside0.mk (blk_below BK201.out hb); have n1_ := Aside0.mk (blk_below BK202.out hb); have n2_ := Aside0.mk (blk_below BK209.out hb); have n3_ := Aside0.mk (IsS100.below (by repeat (first | (with_reducible first | exact HI205.out | refine IsS100.far ?_ NB205_209.out _))) hb); have n4_ := Aside0.mk (below_step (by repeat (first | (with_reducible first | exact HB.out | refine below_set ?_ GE209.out))) hb); clear BK201; clear BK202; clear BK209; clear HI205; clear HB; have BK201 := n0_; have BK202 := n1_; have BK209 := n2_; have HI205 := n3_; have HB := n4_; clear n0_ n1_ n2_ n3_ n4_
             (try clear hb)
             (try clear hb2)
             (try clear hk)
             (try clear hi)
             refine hK.out _ _ ⟨(blk_cell BK209.out 0).trans rfl, (blk_cell BK209.out 1).trans rfl, (blk_cell BK209.out 2).trans rfl, (blk_cell BK209.out 3).trans rfl, (blk_cell BK209.out 4).trans rfl, (blk_cell BK209.out 5).trans rfl, (blk_cell BK209.out 6).trans rfl, (blk_cell BK209.out 7).trans rfl, (blk_cell BK201.out 0).trans rfl, (blk_cell BK201.out 1).trans rfl, (blk_cell BK201.out 2).trans rfl, (blk_cell BK201.out 3).trans rfl, (blk_cell BK201.out 4).trans rfl, (blk_cell BK201.out 5).trans rfl, (blk_cell BK201.out 6).trans rfl, (blk_cell BK201.out 7).trans rfl, (by have h_ := Kd.C_string (P := Try.prog) (A := A1) (c := c1) Try.underlying33 Try.underlying5 Try.underlying9 (Kd.C_below HR1.out HB.out); exact h_)⟩ (fun hHeld => ?_); clear hK K; refine norm_ (a' := ?_) ?_ ?_; rotate_left
             · show Act.put _ (some 169) _ = _
               simp only [Act.put, la0, la1, la2, i64_w, i32_w]
               rfl
             refine pure_ (i := 2) (N := some 170) (v := ?_) (a' := ?_) #[I,I,I,O,O,O,O,O,O,O,O,O] rfl rfl (any_of HT_.out (by kernel_rfl)) (fun _ _ _ h => h) (Or.inl ⟨by rfl, ?_⟩) ?_ ?_; rotate_left; · intro w'; go_simp; with_reducible rfl
             rotate_left; · simp only [Act.put, la0, la1, la2, i64_w, i32_w]; rfl
             refine pure_ (i := 3) (N := some 171) (v := ?_) (a' := ?_) #[I,I,I,I,O,O,O,O,O,O,O,O] rfl rfl (any_of HT_.out (by kernel_rfl)) (fun _ _ _ h => h) (Or.inl ⟨by rfl, ?_⟩) ?_ ?_; rotate_left; · intro w'; go_simp; with_reducible rfl
             rotate_left; · simp only [Act.put, la0, la1, la2, i64_w, i32_w]; rfl
             refine pure_ (i := 8) (N := some 176) (v := ?_) (a' := ?_) #[I,I,I,I,O,O,O,O,I,O,O,O] rfl rfl (any_of HT_.out (by kernel_rfl)) (fun _ _ _ h => h) (Or.inl ⟨by rfl, ?_⟩) ?_ ?_; rotate_left; · intro w'; go_simp; with_reducible rfl
             rotate_left; · simp only [Act.put, la0, la1, la2, i64_w, i32_w]; rfl
             refine take_ (i := 4) (N := some 172) (v := ?_) (a' := ?_) #[I,I,I,I,I,O,O,O,I,O,O,O] rfl rfl (take_ofW HT_.out HW_.out (by kernel_rfl)) (fun _ _ _ h => h) (Or.inl ⟨by rfl, ?_⟩) hHeld ?_ ?_; rotate_left; · rintro w' ⟨s0, s1, s2, s3, s4, s5, s6, s7, s8, s9, s10, s11, s12, s13, s14, s15, s16⟩; go_simp; with_reducible rfl
             rotate_left; · simp only [Act.put, la0, la1, la2, i64_w, i32_w]; rfl
             refine take_ (i := 5) (N := some 173) (v := ?_) (a' := ?_) #[I,I,I,I,I,I,O,O,I,O,O,O] rfl rfl (take_ofW HT_.out HW_.out (by kernel_rfl)) (fun _ _ _ h => h) (Or.inl ⟨by rfl, ?_⟩) hHeld ?_ ?_; rotate_left; · rintro w' ⟨s0, s1, s2, s3, s4, s5, s6, s7, s8, s9, s10, s11, s12, s13, s14, s15, s16⟩; go_simp; with_reducible rfl
             rotate_left; · simp only [Act.put, la0, la1, la2, i64_w, i32_w]; rfl
             refine take_ (i := 9) (N := some 177) (v := ?_) (a' := ?_) #[I,I,I,I,I,I,O,O,I,I,O,O] rfl rfl (take_ofW HT_.out HW_.out (by kernel_rfl)) (fun _ _ _ h => h) (Or.inl ⟨by rfl, ?_⟩) hHeld ?_ ?_; rotate_left; · rintro w' ⟨s0, s1, s2, s3, s4, s5, s6, s7, s8, s9, s10, s11, s12, s13, s14, s15, s16⟩; go_simp; with_reducible rfl
             rotate_left; · simp only [Act.put, la0, la1, la2, i64_w, i32_w]; rfl
             refine one_ (i := 6) (N := some 174) #[I,I,I,I,I,I,I,O,I,I,O,O] rfl rfl (one_of HT_.out (by kernel_rfl)) (by decide) (fun K hK => ?_); refine goes_ Try.func13 (by kernel_rfl) rfl #[.agg #[.int .u64 a0_0, .int .u64 a0_1, .bool a0_2, .int .u32 a0_3, .int .u8 a0_4, .int .i64 a0_5, .int .u16 a0_6, .int .u16 a0_7], .agg #[.int .u64 (IntKind.u64.wrap (a0_0 + 1)), .int .u64 (IntKind.u64.wrap (a0_1 + t206)), .bool ((Go.bits .and .u64 t210 1) == 1), .int .u32 x210003_41, .int .u8 ((t210 / 16) % 256), .int .i64 x210005_78, .int .u16 x210006_78, .int .u16 x210007_78]] (by rfl) rfl rfl (by (try simp only [List.map_toArray, List.map_cons, List.map_nil]); first | rfl) ?_
             with_reducible refine (change_Encode.calls kj78 a0_0 a0_1 a0_2 a0_3 a0_4 a0_5 a0_6 a0_7 (IntKind.u64.wrap (a0_0 + 1)) (IntKind.u64.wrap (a0_1 + t206)) ((Go.bits .and .u64 t210 1) == 1) x210003_41 ((t210 / 16) % 256) x210005_78 x210006_78 x210007_78 t241 _ A115.out).mono ?_
             rintro e w120 ⟨v242, rfl, ho0, hb⟩; refine ⟨_, rfl, ?_⟩; have n0_ := Aside0.mk (Kd.R_lower ho0 (below_size (by repeat (first | (with_reducible first | exact HB.out | refine below_set ?_ GE209.out))))); have n1_ := Aside0.mk (blk_below BK201.out hb); have n2_ := Aside0.mk (blk_below BK202.out hb); have n3_ := Aside0.mk (blk_below BK209.out hb); have n4_ := Aside0.mk (IsS100.below (by repeat (first | (with_reducible first | exact HI205.out | refine IsS100.far ?_ NB205_209.out _))) hb); have n5_ := Aside0.mk (below_step (by repeat (first | (with_reducible first | exact HB.out | refine below_set ?_ GE209.out))) hb); clear BK201; clear BK202; clear BK209; clear HI205; clear HB; have HO243 := n0_; have BK201 := n1_; have BK202 := n2_; have BK209 := n3_; have HI205 := n4_; have HB := n5_; clear n0_ n1_ n2_ n3_ n4_ n5_
             (try clear hb)
             (try clear hb2)
             (try clear hk)
             (try clear hi)
             (try clear ho0)
             refine hK.out _ _ ⟨(blk_cell BK209.out 0).trans rfl, (blk_cell BK209.out 1).trans rfl, (blk_cell BK209.out 2).trans rfl, (blk_cell BK209.out 3).trans rfl, (blk_cell BK209.out 4).trans rfl, (blk_cell BK209.out 5).trans rfl, (blk_cell BK209.out 6).trans rfl, (blk_cell BK209.out 7).trans rfl, (blk_cell BK201.out 0).trans rfl, (blk_cell BK201.out 1).trans rfl, (blk_cell BK201.out 2).trans rfl, (blk_cell BK201.out 3).trans rfl, (blk_cell BK201.out 4).trans rfl, (blk_cell BK201.out 5).trans rfl, (blk_cell BK201.out 6).trans rfl, (blk_cell BK201.out 7).trans rfl, (by have h_ := Kd.C_string (P := Try.prog) (A := A1) (c := c1) Try.underlying33 Try.underlying5 Try.underlying9 (Kd.C_below HR1.out HB.out); exact h_)⟩ (fun hHeld => ?_); clear hK K; refine norm_ (a' := ?_) ?_ ?_; rotate_left
             · show Act.put _ (some 174) _ = _
               simp only [Act.put, la0, la1, la2, i64_w, i32_w]
               rfl
             refine one_ (i := 7) (N := some 175) #[I,I,I,I,I,I,I,I,I,I,O,O] rfl rfl (one_of HT_.out (by kernel_rfl)) (by decide) (fun K hK => ?_); have hcv121 := own_string (P := Try.prog) Try.underlying33 Try.underlying5 Try.underlying9 (Kd.own_of_R HO243.out); refine value_ (w1 := ?_) (v := ?_) (by rfl) rfl ?_ ?_; rotate_left 2
             · go_simp
               constructor
               · rfl
               rfl
             clear hcv121; refine hK.out _ _ ⟨(blk_cell BK209.out 0).trans rfl, (blk_cell BK209.out 1).trans rfl, (blk_cell BK209.out 2).trans rfl, (blk_cell BK209.out 3).trans rfl, (blk_cell BK209.out 4).trans rfl, (blk_cell BK209.out 5).trans rfl, (blk_cell BK209.out 6).trans rfl, (blk_cell BK209.out 7).trans rfl, (blk_cell BK201.out 0).trans rfl, (blk_cell BK201.out 1).trans rfl, (blk_cell BK201.out 2).trans rfl, (blk_cell BK201.out 3).trans rfl, (blk_cell BK201.out 4).trans rfl, (blk_cell BK201.out 5).trans rfl, (blk_cell BK201.out 6).trans rfl, (blk_cell BK201.out 7).trans rfl, (by have h_ := Kd.C_string (P := Try.prog) (A := A1) (c := c1) Try.underlying33 Try.underlying5 Try.underlying9 (Kd.C_below HR1.out HB.out); exact h_)⟩ (fun hHeld => ?_); clear hK K; refine norm_ (a' := ?_) ?_ ?_; rotate_left
             · show Act.put _ (some 175) _ = _
               simp only [Act.put, la0, la1, la2, i64_w, i32_w]
               rfl
             refine pure_ (i := 10) (N := some 178) (v := ?_) (a' := ?_) #[I,I,I,I,I,I,I,I,I,I,I,O] rfl rfl (any_of HT_.out (by kernel_rfl)) (fun _ _ _ h => h) (Or.inl ⟨by rfl, ?_⟩) ?_ ?_; rotate_left; · intro w'; go_simp; with_reducible rfl
             rotate_left; · simp only [Act.put, la0, la1, la2, i64_w, i32_w]; rfl
             refine pure_ (i := 11) (N := some 179) (v := ?_) (a' := ?_) #[I,I,I,I,I,I,I,I,I,I,I,I] rfl rfl (any_of HT_.out (by kernel_rfl)) (fun _ _ _ h => h) (Or.inl ⟨by rfl, ?_⟩) ?_ ?_; rotate_left; · intro w'; go_simp; with_reducible rfl
             rotate_left; · simp only [Act.put, la0, la1, la2, i64_w, i32_w]; rfl
             refine done_ (done_of HT_.out (by kernel_rfl)) ?_; have hnb122 := NB209_201.out; have hnc122 := NB201_209.out; have hnb123 := NB209_202.out; have hnc123 := NB202_209.out; have hnb124 := NB209_205.out; have hnc124 := NB205_209.out; have hcz125_0 : w120.cell? ⟨gb209, 0, none⟩ = some (.int .u64 (IntKind.u64.wrap (a0_0 + 1))) := (blk_cell BK209.out 0).trans rfl; have hcz125_1 : w120.cell? ⟨gb209, 1, none⟩ = some (.int .u64 (IntKind.u64.wrap (a0_1 + t206))) := (blk_cell BK209.out 1).trans rfl; have hcz125_2 : w120.cell? ⟨gb209, 2, none⟩ = some (.bool ((Go.bits .and .u64 t210 1) == 1)) := (blk_cell BK209.out 2).trans rfl; have hcz125_3 : w120.cell? ⟨gb209, 3, none⟩ = some (.int .u32 x210003_41) := (blk_cell BK209.out 3).trans rfl; have hcz125_4 : w120.cell? ⟨gb209, 4, none⟩ = some (.int .u8 ((t210 / 16) % 256)) := (blk_cell BK209.out 4).trans rfl; have hcz125_5 : w120.cell? ⟨gb209, 5, none⟩ = some (.int .i64 x210005_78) := (blk_cell BK209.out 5).trans rfl; have hcz125_6 : w120.cell? ⟨gb209, 6, none⟩ = some (.int .u16 x210006_78) := (blk_cell BK209.out 6).trans rfl; have hcz125_7 : w120.cell? ⟨gb209, 7, none⟩ = some (.int .u16 x210007_78) := (blk_cell BK209.out 7).trans rfl; have hfz125_0 := blk_frozen BK209.out 0; have hfz125_1 := blk_frozen BK209.out 1; have hfz125_2 := blk_frozen BK209.out 2; have hfz125_3 := blk_frozen BK209.out 3; have hfz125_4 := blk_frozen BK209.out 4; have hfz125_5 := blk_frozen BK209.out 5; have hfz125_6 := blk_frozen BK209.out 6; have hfz125_7 := blk_frozen BK209.out 7; have hnb126 := NB202_201.out; have hnc126 := NB201_202.out; have hnb127 := NB202_205.out; have hnc127 := NB205_202.out; have hcz128_0 : w120.cell? ⟨gb202, 0, none⟩ = some (.int .u64 x203000_78) := (blk_cell BK202.out 0).trans rfl; have hcz128_1 : w120.cell? ⟨gb202, 1, none⟩ = some (.int .u64 x203001_78) := (blk_cell BK202.out 1).trans rfl; have hcz128_2 : w120.cell? ⟨gb202, 2, none⟩ = some (.bool x203002_78) := (blk_cell BK202.out 2).trans rfl; have hcz128_3 : w120.cell? ⟨gb202, 3, none⟩ = some (.int .u32 x203003_78) := (blk_cell BK202.out 3).trans rfl; have hcz128_4 : w120.cell? ⟨gb202, 4, none⟩ = some (.int .u8 x203004_78) := (blk_cell BK202.out 4).trans rfl; have hcz128_5 : w120.cell? ⟨gb202, 5, none⟩ = some (.int .i64 x203005_78) := (blk_cell BK202.out 5).trans rfl; have hcz128_6 : w120.cell? ⟨gb202, 6, none⟩ = some (.int .u16 x203006_78) := (blk_cell BK202.out 6).trans rfl; have hcz128_7 : w120.cell? ⟨gb202, 7, none⟩ = some (.int .u16 x203007_78) := (blk_cell BK202.out 7).trans rfl; have hfz128_0 := blk_frozen BK202.out 0; have hfz128_1 := blk_frozen BK202.out 1; have hfz128_2 := blk_frozen BK202.out 2; have hfz128_3 := blk_frozen BK202.out 3; have hfz128_4 := blk_frozen BK202.out 4; have hfz128_5 := blk_frozen BK202.out 5; have hfz128_6 := blk_frozen BK202.out 6; have hfz128_7 := blk_frozen BK202.out 7
             try go_wp2
             refine bodyPost_ret (results_ct rfl _ _ gb202 31 #[.int .u64 (IntKind.u64.wrap (a0_0 + 1)), .int .u64 (IntKind.u64.wrap (a0_1 + t206)), .bool ((Go.bits .and .u64 t210 1) == 1), .int .u32 x210003_41, .int .u8 ((t210 / 16) % 256), .int .i64 x210005_78, .int .u16 x210006_78, .int .u16 x210007_78] (0, 0) _ rfl (by refine blk_put (cs := #[.int .u64 (IntKind.u64.wrap (a0_0 + 1)), .int .u64 (IntKind.u64.wrap (a0_1 + t206)), .bool ((Go.bits .and .u64 t210 1) == 1), .int .u32 x210003_41, .int .u8 ((t210 / 16) % 256), .int .i64 x210005_78, .int .u16 x210006_78, .int .u16 x203007_78]) ?_ 7 _ rfl; refine blk_put (cs := #[.int .u64 (IntKind.u64.wrap (a0_0 + 1)), .int .u64 (IntKind.u64.wrap (a0_1 + t206)), .bool ((Go.bits .and .u64 t210 1) == 1), .int .u32 x210003_41, .int .u8 ((t210 / 16) % 256), .int .i64 x210005_78, .int .u16 x203006_78, .int .u16 x203007_78]) ?_ 6 _ rfl; refine blk_put (cs := #[.int .u64 (IntKind.u64.wrap (a0_0 + 1)), .int .u64 (IntKind.u64.wrap (a0_1 + t206)), .bool ((Go.bits .and .u64 t210 1) == 1), .int .u32 x210003_41, .int .u8 ((t210 / 16) % 256), .int .i64 x203005_78, .int .u16 x203006_78, .int .u16 x203007_78]) ?_ 5 _ rfl; refine blk_put (cs := #[.int .u64 (IntKind.u64.wrap (a0_0 + 1)), .int .u64 (IntKind.u64.wrap (a0_1 + t206)), .bool ((Go.bits .and .u64 t210 1) == 1), .int .u32 x210003_41, .int .u8 x203004_78, .int .i64 x203005_78, .int .u16 x203006_78, .int .u16 x203007_78]) ?_ 4 _ rfl; refine blk_put (cs := #[.int .u64 (IntKind.u64.wrap (a0_0 + 1)), .int .u64 (IntKind.u64.wrap (a0_1 + t206)), .bool ((Go.bits .and .u64 t210 1) == 1), .int .u32 x203003_78, .int .u8 x203004_78, .int .i64 x203005_78, .int .u16 x203006_78, .int .u16 x203007_78]) ?_ 3 _ rfl; refine blk_put (cs := #[.int .u64 (IntKind.u64.wrap (a0_0 + 1)), .int .u64 (IntKind.u64.wrap (a0_1 + t206)), .bool x203002_78, .int .u32 x203003_78, .int .u8 x203004_78, .int .i64 x203005_78, .int .u16 x203006_78, .int .u16 x203007_78]) ?_ 2 _ rfl; refine blk_put (cs := #[.int .u64 (IntKind.u64.wrap (a0_0 + 1)), .int .u64 x203001_78, .bool x203002_78, .int .u32 x203003_78, .int .u8 x203004_78, .int .i64 x203005_78, .int .u16 x203006_78, .int .u16 x203007_78]) ?_ 1 _ rfl; refine blk_put (cs := #[.int .u64 x203000_78, .int .u64 x203001_78, .bool x203002_78, .int .u32 x203003_78, .int .u8 x203004_78, .int .i64 x203005_78, .int .u16 x203006_78, .int .u16 x203007_78]) ?_ 0 _ rfl; exact BK202.out) Try.underlying31 rfl (by kernel_rfl)) rfl ?_; exact ⟨by first | rfl | (simp [*, errW_none, errW_some] <;> rfl), by repeat (first | (with_reducible first | exact HB.out | refine below_set ?_ GE202.out))⟩
           rw [if_neg c116] at H; have c116b0 : ((strOfNums t241).toList == (strOfNums l1).toList) = false := beq_eq_false_iff_ne.mpr c116; have c116b1 : ((strOfNums t241).toList != (strOfNums l1).toList) = true := bne_iff_ne.mpr c116
           simp only [Option.some.injEq, Prod.mk.injEq] at H
           obtain ⟨rfl, rfl, rfl, rfl, rfl, rfl, rfl, rfl, rfl⟩ := H
           try go_wp2_with (first | ((with_reducible refine gate_callee (f := 43) rfl ?_); refine goesL_ (some 163) rfl rfl Try.func43 (by kernel_rfl) rfl #[.pointer (some ⟨g205, 0, none⟩)] rfl (by (try simp only [List.map_toArray, List.map_cons, List.map_nil]); first | rfl | (refine qa_arr ?_; (repeat' (first | rfl | refine qa_cons ?_ ?_ | refine qa_int ?_ | refine qa_agg ?_ | refine qa_arr ?_ | omega)); done)) ?_; (with_reducible refine (coin_Purse_End.calls g205 x206000_78 x206001_78 t237 t238 t239 w _ ?side1 ?side2 A111.out).mono ?_); (case side1 => repeat (first | (with_reducible first | exact HI205.out | refine IsS100.far ?_ NB205_209.out _))); (case side2 => repeat (first | (with_reducible first | exact HB.out | refine below_set ?_ GE209.out))); rintro e w129 ⟨rfl, hi, hb, hk⟩; refine ⟨_, rfl, ?_⟩; have n0_ := Aside0.mk (KeepBut.blk hk (g' := gb201) (o := .cells #[.int .u64 a0_0, .int .u64 a0_1, .bool a0_2, .int .u32 a0_3, .int .u8 a0_4, .int .i64 a0_5, .int .u16 a0_6, .int .u16 a0_7] 31 (0, 0)) BK201.out NB201_205.out (by simp)); have n1_ := Aside0.mk (KeepBut.blk hk (g' := gb202) (o := .cells #[.int .u64 x203000_78, .int .u64 x203001_78, .bool x203002_78, .int .u32 x203003_78, .int .u8 x203004_78, .int .i64 x203005_78, .int .u16 x203006_78, .int .u16 x203007_78] 31 (0, 0)) BK202.out NB202_205.out (by simp)); have n2_ := Aside0.mk (KeepBut.blk hk (g' := gb209) (o := .cells #[.int .u64 (IntKind.u64.wrap (a0_0 + 1)), .int .u64 (IntKind.u64.wrap (a0_1 + t206)), .bool ((Go.bits .and .u64 t210 1) == 1), .int .u32 x210003_41, .int .u8 ((t210 / 16) % 256), .int .i64 x210005_78, .int .u16 x210006_78, .int .u16 x210007_78] 31 (0, 0)) BK209.out NB209_205.out (by simp)); have n3_ := Aside0.mk (hb); have n4_ := Aside0.mk (hi); clear BK201 BK202 BK209 HB HI205; revert n0_ n1_ n2_ n3_ n4_; intro BK201 BK202 BK209 HB HI205; (try clear hb); (try clear hb2); (try clear hk); (try clear hi)))
           have n0_ := Aside0.mk (blk_drew BK201.out); have n1_ := Aside0.mk (blk_drew BK202.out); have n2_ := Aside0.mk (blk_drew BK209.out); have n3_ := Aside0.mk (IsS100.drew HI205.out); have n4_ := Aside0.mk (below_drew1 HB.out); clear BK201; clear BK202; clear BK209; clear HI205; clear HB; have BK201 := n0_; have BK202 := n1_; have BK209 := n2_; have HI205 := n3_; have HB := n4_; clear n0_ n1_ n2_ n3_ n4_
           refine start_ (n := 12) (S := fun w' => w'.cell? ⟨gb209, 0, none⟩ = some (.int .u64 (IntKind.u64.wrap (a0_0 + 1))) ∧ w'.cell? ⟨gb209, 1, none⟩ = some (.int .u64 (IntKind.u64.wrap (a0_1 + t206))) ∧ w'.cell? ⟨gb209, 2, none⟩ = some (.bool ((Go.bits .and .u64 t210 1) == 1)) ∧ w'.cell? ⟨gb209, 3, none⟩ = some (.int .u32 x210003_41) ∧ w'.cell? ⟨gb209, 4, none⟩ = some (.int .u8 ((t210 / 16) % 256)) ∧ w'.cell? ⟨gb209, 5, none⟩ = some (.int .i64 x210005_78) ∧ w'.cell? ⟨gb209, 6, none⟩ = some (.int .u16 x210006_78) ∧ w'.cell? ⟨gb209, 7, none⟩ = some (.int .u16 x210007_78) ∧ w'.cell? ⟨gb201, 0, none⟩ = some (.int .u64 a0_0) ∧ w'.cell? ⟨gb201, 1, none⟩ = some (.int .u64 a0_1) ∧ w'.cell? ⟨gb201, 2, none⟩ = some (.bool a0_2) ∧ w'.cell? ⟨gb201, 3, none⟩ = some (.int .u32 a0_3) ∧ w'.cell? ⟨gb201, 4, none⟩ = some (.int .u8 a0_4) ∧ w'.cell? ⟨gb201, 5, none⟩ = some (.int .i64 a0_5) ∧ w'.cell? ⟨gb201, 6, none⟩ = some (.int .u16 a0_6) ∧ w'.cell? ⟨gb201, 7, none⟩ = some (.int .u16 a0_7) ∧ (convert 33 9 (.slice A1 l1.length c1)).run Try.prog w' = .ok (.string (strOfNums l1)) w') (ds := []) #[O,O,O,O,O,O,O,O,O,O,O,O] (by kernel_rfl) rfl rfl ⟨(blk_cell BK209.out 0).trans rfl, (blk_cell BK209.out 1).trans rfl, (blk_cell BK209.out 2).trans rfl, (blk_cell BK209.out 3).trans rfl, (blk_cell BK209.out 4).trans rfl, (blk_cell BK209.out 5).trans rfl, (blk_cell BK209.out 6).trans rfl, (blk_cell BK209.out 7).trans rfl, (blk_cell BK201.out 0).trans rfl, (blk_cell BK201.out 1).trans rfl, (blk_cell BK201.out 2).trans rfl, (blk_cell BK201.out 3).trans rfl, (blk_cell BK201.out 4).trans rfl, (blk_cell BK201.out 5).trans rfl, (blk_cell BK201.out 6).trans rfl, (blk_cell BK201.out 7).trans rfl, (by have h_ := Kd.C_string (P := Try.prog) (A := A1) (c := c1) Try.underlying33 Try.underlying5 Try.underlying9 (Kd.C_below HR1.out HB.out); exact h_)⟩ (fun hHeld => ?_); refine with_tabW change_Decode.tab28 change_Decode.bits28 (fun HT_ HW_ => ?_)
           generalize w129.drew = w130 at BK201 BK202 BK209 HI205 HB hHeld ⊢; refine take_ (i := 0) (N := some 168) (v := ?_) (a' := ?_) #[I,O,O,O,O,O,O,O,O,O,O,O] rfl rfl (take_ofW HT_.out HW_.out (by kernel_rfl)) (fun _ _ _ h => h) (Or.inl ⟨by rfl, ?_⟩) hHeld ?_ ?_; rotate_left; · rintro w' ⟨s0, s1, s2, s3, s4, s5, s6, s7, s8, s9, s10, s11, s12, s13, s14, s15, s16⟩; go_simp; with_reducible rfl
           rotate_left; · simp only [Act.put, la0, la1, la2, i64_w, i32_w]; rfl
           refine one_ (i := 1) (N := some 169) #[I,I,O,O,O,O,O,O,O,O,O,O] rfl rfl (one_of HT_.out (by kernel_rfl)) (by decide) (fun K hK => ?_); refine goes_ Try.func44 (by kernel_rfl) rfl #[.agg #[.int .u64 (IntKind.u64.wrap (a0_0 + 1)), .int .u64 (IntKind.u64.wrap (a0_1 + t206)), .bool ((Go.bits .and .u64 t210 1) == 1), .int .u32 x210003_41, .int .u8 ((t210 / 16) % 256), .int .i64 x210005_78, .int .u16 x210006_78, .int .u16 x210007_78]] (by rfl) rfl rfl (by (try simp only [List.map_toArray, List.map_cons, List.map_nil]); first | rfl) ?_
           with_reducible refine (change_Right.calls kj78 (IntKind.u64.wrap (a0_0 + 1)) (IntKind.u64.wrap (a0_1 + t206)) ((Go.bits .and .u64 t210 1) == 1) x210003_41 ((t210 / 16) % 256) x210005_78 x210006_78 x210007_78 t240 _ A113.out).mono ?_
           rintro e w131 ⟨rfl, hb⟩; refine ⟨_, rfl, ?_⟩; have n0_ := Aside0.mk (blk_below BK201.out hb); have n1_ := Aside0.mk (blk_below BK202.out hb); have n2_ := Aside0.mk (blk_below BK209.out hb); have n3_ := Aside0.mk (IsS100.below (by repeat (first | (with_reducible first | exact HI205.out | refine IsS100.far ?_ NB205_209.out _))) hb); have n4_ := Aside0.mk (below_step (by repeat (first | (with_reducible first | exact HB.out | refine below_set ?_ GE209.out))) hb); clear BK201; clear BK202; clear BK209; clear HI205; clear HB; have BK201 := n0_; have BK202 := n1_; have BK209 := n2_; have HI205 := n3_; have HB := n4_; clear n0_ n1_ n2_ n3_ n4_
           (try clear hb)
           (try clear hb2)
           (try clear hk)
           (try clear hi)
           refine hK.out _ _ ⟨(blk_cell BK209.out 0).trans rfl, (blk_cell BK209.out 1).trans rfl, (blk_cell BK209.out 2).trans rfl, (blk_cell BK209.out 3).trans rfl, (blk_cell BK209.out 4).trans rfl, (blk_cell BK209.out 5).trans rfl, (blk_cell BK209.out 6).trans rfl, (blk_cell BK209.out 7).trans rfl, (blk_cell BK201.out 0).trans rfl, (blk_cell BK201.out 1).trans rfl, (blk_cell BK201.out 2).trans rfl, (blk_cell BK201.out 3).trans rfl, (blk_cell BK201.out 4).trans rfl, (blk_cell BK201.out 5).trans rfl, (blk_cell BK201.out 6).trans rfl, (blk_cell BK201.out 7).trans rfl, (by have h_ := Kd.C_string (P := Try.prog) (A := A1) (c := c1) Try.underlying33 Try.underlying5 Try.underlying9 (Kd.C_below HR1.out HB.out); exact h_)⟩ (fun hHeld => ?_); clear hK K; refine norm_ (a' := ?_) ?_ ?_; rotate_left
           · show Act.put _ (some 169) _ = _
             simp only [Act.put, la0, la1, la2, i64_w, i32_w]
             rfl
           refine pure_ (i := 2) (N := some 170) (v := ?_) (a' := ?_) #[I,I,I,O,O,O,O,O,O,O,O,O] rfl rfl (any_of HT_.out (by kernel_rfl)) (fun _ _ _ h => h) (Or.inl ⟨by rfl, ?_⟩) ?_ ?_; rotate_left; · intro w'; go_simp; with_reducible rfl
           rotate_left; · simp only [Act.put, la0, la1, la2, i64_w, i32_w]; rfl
           refine pure_ (i := 3) (N := some 171) (v := ?_) (a' := ?_) #[I,I,I,I,O,O,O,O,O,O,O,O] rfl rfl (any_of HT_.out (by kernel_rfl)) (fun _ _ _ h => h) (Or.inl ⟨by rfl, ?_⟩) ?_ ?_; rotate_left; · intro w'; go_simp; with_reducible rfl
           rotate_left; · simp only [Act.put, la0, la1, la2, i64_w, i32_w]; rfl
           refine pure_ (i := 8) (N := some 176) (v := ?_) (a' := ?_) #[I,I,I,I,O,O,O,O,I,O,O,O] rfl rfl (any_of HT_.out (by kernel_rfl)) (fun _ _ _ h => h) (Or.inl ⟨by rfl, ?_⟩) ?_ ?_; rotate_left; · intro w'; go_simp; with_reducible rfl
           rotate_left; · simp only [Act.put, la0, la1, la2, i64_w, i32_w]; rfl
           refine take_ (i := 4) (N := some 172) (v := ?_) (a' := ?_) #[I,I,I,I,I,O,O,O,I,O,O,O] rfl rfl (take_ofW HT_.out HW_.out (by kernel_rfl)) (fun _ _ _ h => h) (Or.inl ⟨by rfl, ?_⟩) hHeld ?_ ?_; rotate_left; · rintro w' ⟨s0, s1, s2, s3, s4, s5, s6, s7, s8, s9, s10, s11, s12, s13, s14, s15, s16⟩; go_simp; with_reducible rfl
           rotate_left; · simp only [Act.put, la0, la1, la2, i64_w, i32_w]; rfl
           refine take_ (i := 5) (N := some 173) (v := ?_) (a' := ?_) #[I,I,I,I,I,I,O,O,I,O,O,O] rfl rfl (take_ofW HT_.out HW_.out (by kernel_rfl)) (fun _ _ _ h => h) (Or.inl ⟨by rfl, ?_⟩) hHeld ?_ ?_; rotate_left; · rintro w' ⟨s0, s1, s2, s3, s4, s5, s6, s7, s8, s9, s10, s11, s12, s13, s14, s15, s16⟩; go_simp; with_reducible rfl
           rotate_left; · simp only [Act.put, la0, la1, la2, i64_w, i32_w]; rfl
           refine take_ (i := 9) (N := some 177) (v := ?_) (a' := ?_) #[I,I,I,I,I,I,O,O,I,I,O,O] rfl rfl (take_ofW HT_.out HW_.out (by kernel_rfl)) (fun _ _ _ h => h) (Or.inl ⟨by rfl, ?_⟩) hHeld ?_ ?_; rotate_left; · rintro w' ⟨s0, s1, s2, s3, s4, s5, s6, s7, s8, s9, s10, s11, s12, s13, s14, s15, s16⟩; go_simp; with_reducible rfl
           rotate_left; · simp only [Act.put, la0, la1, la2, i64_w, i32_w]; rfl
           refine one_ (i := 6) (N := some 174) #[I,I,I,I,I,I,I,O,I,I,O,O] rfl rfl (one_of HT_.out (by kernel_rfl)) (by decide) (fun K hK => ?_); refine goes_ Try.func13 (by kernel_rfl) rfl #[.agg #[.int .u64 a0_0, .int .u64 a0_1, .bool a0_2, .int .u32 a0_3, .int .u8 a0_4, .int .i64 a0_5, .int .u16 a0_6, .int .u16 a0_7], .agg #[.int .u64 (IntKind.u64.wrap (a0_0 + 1)), .int .u64 (IntKind.u64.wrap (a0_1 + t206)), .bool ((Go.bits .and .u64 t210 1) == 1), .int .u32 x210003_41, .int .u8 ((t210 / 16) % 256), .int .i64 x210005_78, .int .u16 x210006_78, .int .u16 x210007_78]] (by rfl) rfl rfl (by (try simp only [List.map_toArray, List.map_cons, List.map_nil]); first | rfl) ?_
           with_reducible refine (change_Encode.calls kj78 a0_0 a0_1 a0_2 a0_3 a0_4 a0_5 a0_6 a0_7 (IntKind.u64.wrap (a0_0 + 1)) (IntKind.u64.wrap (a0_1 + t206)) ((Go.bits .and .u64 t210 1) == 1) x210003_41 ((t210 / 16) % 256) x210005_78 x210006_78 x210007_78 t241 _ A115.out).mono ?_
           rintro e w132 ⟨v242, rfl, ho0, hb⟩; refine ⟨_, rfl, ?_⟩; have n0_ := Aside0.mk (Kd.R_lower ho0 (below_size (by repeat (first | (with_reducible first | exact HB.out | refine below_set ?_ GE209.out))))); have n1_ := Aside0.mk (blk_below BK201.out hb); have n2_ := Aside0.mk (blk_below BK202.out hb); have n3_ := Aside0.mk (blk_below BK209.out hb); have n4_ := Aside0.mk (IsS100.below (by repeat (first | (with_reducible first | exact HI205.out | refine IsS100.far ?_ NB205_209.out _))) hb); have n5_ := Aside0.mk (below_step (by repeat (first | (with_reducible first | exact HB.out | refine below_set ?_ GE209.out))) hb); clear BK201; clear BK202; clear BK209; clear HI205; clear HB; have HO243 := n0_; have BK201 := n1_; have BK202 := n2_; have BK209 := n3_; have HI205 := n4_; have HB := n5_; clear n0_ n1_ n2_ n3_ n4_ n5_
           (try clear hb)
           (try clear hb2)
           (try clear hk)
           (try clear hi)
           (try clear ho0)
           refine hK.out _ _ ⟨(blk_cell BK209.out 0).trans rfl, (blk_cell BK209.out 1).trans rfl, (blk_cell BK209.out 2).trans rfl, (blk_cell BK209.out 3).trans rfl, (blk_cell BK209.out 4).trans rfl, (blk_cell BK209.out 5).trans rfl, (blk_cell BK209.out 6).trans rfl, (blk_cell BK209.out 7).trans rfl, (blk_cell BK201.out 0).trans rfl, (blk_cell BK201.out 1).trans rfl, (blk_cell BK201.out 2).trans rfl, (blk_cell BK201.out 3).trans rfl, (blk_cell BK201.out 4).trans rfl, (blk_cell BK201.out 5).trans rfl, (blk_cell BK201.out 6).trans rfl, (blk_cell BK201.out 7).trans rfl, (by have h_ := Kd.C_string (P := Try.prog) (A := A1) (c := c1) Try.underlying33 Try.underlying5 Try.underlying9 (Kd.C_below HR1.out HB.out); exact h_)⟩ (fun hHeld => ?_); clear hK K; refine norm_ (a' := ?_) ?_ ?_; rotate_left
           · show Act.put _ (some 174) _ = _
             simp only [Act.put, la0, la1, la2, i64_w, i32_w]
             rfl
           refine one_ (i := 7) (N := some 175) #[I,I,I,I,I,I,I,I,I,I,O,O] rfl rfl (one_of HT_.out (by kernel_rfl)) (by decide) (fun K hK => ?_); have hcv133 := own_string (P := Try.prog) Try.underlying33 Try.underlying5 Try.underlying9 (Kd.own_of_R HO243.out); refine value_ (w1 := ?_) (v := ?_) (by rfl) rfl ?_ ?_; rotate_left 2
           · go_simp
             constructor
             · rfl
             rfl
           clear hcv133; refine hK.out _ _ ⟨(blk_cell BK209.out 0).trans rfl, (blk_cell BK209.out 1).trans rfl, (blk_cell BK209.out 2).trans rfl, (blk_cell BK209.out 3).trans rfl, (blk_cell BK209.out 4).trans rfl, (blk_cell BK209.out 5).trans rfl, (blk_cell BK209.out 6).trans rfl, (blk_cell BK209.out 7).trans rfl, (blk_cell BK201.out 0).trans rfl, (blk_cell BK201.out 1).trans rfl, (blk_cell BK201.out 2).trans rfl, (blk_cell BK201.out 3).trans rfl, (blk_cell BK201.out 4).trans rfl, (blk_cell BK201.out 5).trans rfl, (blk_cell BK201.out 6).trans rfl, (blk_cell BK201.out 7).trans rfl, (by have h_ := Kd.C_string (P := Try.prog) (A := A1) (c := c1) Try.underlying33 Try.underlying5 Try.underlying9 (Kd.C_below HR1.out HB.out); exact h_)⟩ (fun hHeld => ?_); clear hK K; refine norm_ (a' := ?_) ?_ ?_; rotate_left
           · show Act.put _ (some 175) _ = _
             simp only [Act.put, la0, la1, la2, i64_w, i32_w]
             rfl
           refine pure_ (i := 10) (N := some 178) (v := ?_) (a' := ?_) #[I,I,I,I,I,I,I,I,I,I,I,O] rfl rfl (any_of HT_.out (by kernel_rfl)) (fun _ _ _ h => h) (Or.inl ⟨by rfl, ?_⟩) ?_ ?_; rotate_left; · intro w'; go_simp; with_reducible rfl
           rotate_left; · simp only [Act.put, la0, la1, la2, i64_w, i32_w]; rfl
           refine pure_ (i := 11) (N := some 179) (v := ?_) (a' := ?_) #[I,I,I,I,I,I,I,I,I,I,I,I] rfl rfl (any_of HT_.out (by kernel_rfl)) (fun _ _ _ h => h) (Or.inl ⟨by rfl, ?_⟩) ?_ ?_; rotate_left; · intro w'; go_simp; with_reducible rfl
           rotate_left; · simp only [Act.put, la0, la1, la2, i64_w, i32_w]; rfl
           refine done_ (done_of HT_.out (by kernel_rfl)) ?_; have hnb134 := NB202_201.out; have hnc134 := NB201_202.out; have hnb135 := NB202_209.out; have hnc135 := NB209_202.out; have hnb136 := NB202_205.out; have hnc136 := NB205_202.out; have hcz137_0 : w132.cell? ⟨gb202, 0, none⟩ = some (.int .u64 x203000_78) := (blk_cell BK202.out 0).trans rfl; have hcz137_1 : w132.cell? ⟨gb202, 1, none⟩ = some (.int .u64 x203001_78) := (blk_cell BK202.out 1).trans rfl; have hcz137_2 : w132.cell? ⟨gb202, 2, none⟩ = some (.bool x203002_78) := (blk_cell BK202.out 2).trans rfl; have hcz137_3 : w132.cell? ⟨gb202, 3, none⟩ = some (.int .u32 x203003_78) := (blk_cell BK202.out 3).trans rfl; have hcz137_4 : w132.cell? ⟨gb202, 4, none⟩ = some (.int .u8 x203004_78) := (blk_cell BK202.out 4).trans rfl; have hcz137_5 : w132.cell? ⟨gb202, 5, none⟩ = some (.int .i64 x203005_78) := (blk_cell BK202.out 5).trans rfl; have hcz137_6 : w132.cell? ⟨gb202, 6, none⟩ = some (.int .u16 x203006_78) := (blk_cell BK202.out 6).trans rfl; have hcz137_7 : w132.cell? ⟨gb202, 7, none⟩ = some (.int .u16 x203007_78) := (blk_cell BK202.out 7).trans rfl; have hfz137_0 := blk_frozen BK202.out 0; have hfz137_1 := blk_frozen BK202.out 1; have hfz137_2 := blk_frozen BK202.out 2; have hfz137_3 := blk_frozen BK202.out 3; have hfz137_4 := blk_frozen BK202.out 4; have hfz137_5 := blk_frozen BK202.out 5; have hfz137_6 := blk_frozen BK202.out 6; have hfz137_7 := blk_frozen BK202.out 7
           try go_wp2
           refine bodyPost_ret (results_ct rfl _ _ gb202 31 #[.int .u64 0, .int .u64 0, .bool false, .int .u32 0, .int .u8 0, .int .i64 0, .int .u16 0, .int .u16 0] (0, 0) _ rfl (by refine blk_put (cs := #[.int .u64 0, .int .u64 0, .bool false, .int .u32 0, .int .u8 0, .int .i64 0, .int .u16 0, .int .u16 x203007_78]) ?_ 7 _ rfl; refine blk_put (cs := #[.int .u64 0, .int .u64 0, .bool false, .int .u32 0, .int .u8 0, .int .i64 0, .int .u16 x203006_78, .int .u16 x203007_78]) ?_ 6 _ rfl; refine blk_put (cs := #[.int .u64 0, .int .u64 0, .bool false, .int .u32 0, .int .u8 0, .int .i64 x203005_78, .int .u16 x203006_78, .int .u16 x203007_78]) ?_ 5 _ rfl; refine blk_put (cs := #[.int .u64 0, .int .u64 0, .bool false, .int .u32 0, .int .u8 x203004_78, .int .i64 x203005_78, .int .u16 x203006_78, .int .u16 x203007_78]) ?_ 4 _ rfl; refine blk_put (cs := #[.int .u64 0, .int .u64 0, .bool false, .int .u32 x203003_78, .int .u8 x203004_78, .int .i64 x203005_78, .int .u16 x203006_78, .int .u16 x203007_78]) ?_ 3 _ rfl; refine blk_put (cs := #[.int .u64 0, .int .u64 0, .bool x203002_78, .int .u32 x203003_78, .int .u8 x203004_78, .int .i64 x203005_78, .int .u16 x203006_78, .int .u16 x203007_78]) ?_ 2 _ rfl; refine blk_put (cs := #[.int .u64 0, .int .u64 x203001_78, .bool x203002_78, .int .u32 x203003_78, .int .u8 x203004_78, .int .i64 x203005_78, .int .u16 x203006_78, .int .u16 x203007_78]) ?_ 1 _ rfl; refine blk_put (cs := #[.int .u64 x203000_78, .int .u64 x203001_78, .bool x203002_78, .int .u32 x203003_78, .int .u8 x203004_78, .int .i64 x203005_78, .int .u16 x203006_78, .int .u16 x203007_78]) ?_ 0 _ rfl; exact BK202.out) Try.underlying31 rfl (by kernel_rfl)) rfl ?_; exact ⟨by first | rfl | (simp [*, errW_none, errW_some] <;> rfl), by repeat (first | (with_reducible first | exact HB.out | refine below_set ?_ GE202.out))⟩
         rw [if_neg c114] at H; have c114b0 : (t240 == 0) = false := beq_eq_false_iff_ne.mpr c114; have c114b1 : (t240 != 0) = true := bne_iff_ne.mpr c114
         simp only [Option.some.injEq, Prod.mk.injEq] at H
         obtain ⟨rfl, rfl, rfl, rfl, rfl, rfl, rfl, rfl, rfl⟩ := H
         try go_wp2_with (first | ((with_reducible refine gate_callee (f := 43) rfl ?_); refine goesL_ (some 163) rfl rfl Try.func43 (by kernel_rfl) rfl #[.pointer (some ⟨g205, 0, none⟩)] rfl (by (try simp only [List.map_toArray, List.map_cons, List.map_nil]); first | rfl | (refine qa_arr ?_; (repeat' (first | rfl | refine qa_cons ?_ ?_ | refine qa_int ?_ | refine qa_agg ?_ | refine qa_arr ?_ | omega)); done)) ?_; (with_reducible refine (coin_Purse_End.calls g205 x206000_78 x206001_78 t237 t238 t239 w _ ?side1 ?side2 A111.out).mono ?_); (case side1 => repeat (first | (with_reducible first | exact HI205.out | refine IsS100.far ?_ NB205_209.out _))); (case side2 => repeat (first | (with_reducible first | exact HB.out | refine below_set ?_ GE209.out))); rintro e w138 ⟨rfl, hi, hb, hk⟩; refine ⟨_, rfl, ?_⟩; have n0_ := Aside0.mk (KeepBut.blk hk (g' := gb201) (o := .cells #[.int .u64 a0_0, .int .u64 a0_1, .bool a0_2, .int .u32 a0_3, .int .u8 a0_4, .int .i64 a0_5, .int .u16 a0_6, .int .u16 a0_7] 31 (0, 0)) BK201.out NB201_205.out (by simp)); have n1_ := Aside0.mk (KeepBut.blk hk (g' := gb202) (o := .cells #[.int .u64 x203000_78, .int .u64 x203001_78, .bool x203002_78, .int .u32 x203003_78, .int .u8 x203004_78, .int .i64 x203005_78, .int .u16 x203006_78, .int .u16 x203007_78] 31 (0, 0)) BK202.out NB202_205.out (by simp)); have n2_ := Aside0.mk (KeepBut.blk hk (g' := gb209) (o := .cells #[.int .u64 (IntKind.u64.wrap (a0_0 + 1)), .int .u64 (IntKind.u64.wrap (a0_1 + t206)), .bool ((Go.bits .and .u64 t210 1) == 1), .int .u32 x210003_41, .int .u8 ((t210 / 16) % 256), .int .i64 x210005_78, .int .u16 x210006_78, .int .u16 x210007_78] 31 (0, 0)) BK209.out NB209_205.out (by simp)); have n3_ := Aside0.mk (hb); have n4_ := Aside0.mk (hi); clear BK201 BK202 BK209 HB HI205; revert n0_ n1_ n2_ n3_ n4_; intro BK201 BK202 BK209 HB HI205; (try clear hb); (try clear hb2); (try clear hk); (try clear hi)))
         have n0_ := Aside0.mk (blk_drew BK201.out); have n1_ := Aside0.mk (blk_drew BK202.out); have n2_ := Aside0.mk (blk_drew BK209.out); have n3_ := Aside0.mk (IsS100.drew HI205.out); have n4_ := Aside0.mk (below_drew1 HB.out); clear BK201; clear BK202; clear BK209; clear HI205; clear HB; have BK201 := n0_; have BK202 := n1_; have BK209 := n2_; have HI205 := n3_; have HB := n4_; clear n0_ n1_ n2_ n3_ n4_
         refine start_ (n := 12) (S := fun w' => w'.cell? ⟨gb209, 0, none⟩ = some (.int .u64 (IntKind.u64.wrap (a0_0 + 1))) ∧ w'.cell? ⟨gb209, 1, none⟩ = some (.int .u64 (IntKind.u64.wrap (a0_1 + t206))) ∧ w'.cell? ⟨gb209, 2, none⟩ = some (.bool ((Go.bits .and .u64 t210 1) == 1)) ∧ w'.cell? ⟨gb209, 3, none⟩ = some (.int .u32 x210003_41) ∧ w'.cell? ⟨gb209, 4, none⟩ = some (.int .u8 ((t210 / 16) % 256)) ∧ w'.cell? ⟨gb209, 5, none⟩ = some (.int .i64 x210005_78) ∧ w'.cell? ⟨gb209, 6, none⟩ = some (.int .u16 x210006_78) ∧ w'.cell? ⟨gb209, 7, none⟩ = some (.int .u16 x210007_78)) (ds := []) #[O,O,O,O,O,O,O,O,O,O,O,O] (by kernel_rfl) rfl rfl ⟨(blk_cell BK209.out 0).trans rfl, (blk_cell BK209.out 1).trans rfl, (blk_cell BK209.out 2).trans rfl, (blk_cell BK209.out 3).trans rfl, (blk_cell BK209.out 4).trans rfl, (blk_cell BK209.out 5).trans rfl, (blk_cell BK209.out 6).trans rfl, (blk_cell BK209.out 7).trans rfl⟩ (fun hHeld => ?_); refine with_tabW change_Decode.tab28 change_Decode.bits28 (fun HT_ HW_ => ?_)
         generalize w138.drew = w139 at BK201 BK202 BK209 HI205 HB hHeld ⊢; refine take_ (i := 0) (N := some 168) (v := ?_) (a' := ?_) #[I,O,O,O,O,O,O,O,O,O,O,O] rfl rfl (take_ofW HT_.out HW_.out (by kernel_rfl)) (fun _ _ _ h => h) (Or.inl ⟨by rfl, ?_⟩) hHeld ?_ ?_; rotate_left; · rintro w' ⟨s0, s1, s2, s3, s4, s5, s6, s7⟩; go_simp; with_reducible rfl
         rotate_left; · simp only [Act.put, la0, la1, la2, i64_w, i32_w]; rfl
         refine one_ (i := 1) (N := some 169) #[I,I,O,O,O,O,O,O,O,O,O,O] rfl rfl (one_of HT_.out (by kernel_rfl)) (by decide) (fun K hK => ?_); refine goes_ Try.func44 (by kernel_rfl) rfl #[.agg #[.int .u64 (IntKind.u64.wrap (a0_0 + 1)), .int .u64 (IntKind.u64.wrap (a0_1 + t206)), .bool ((Go.bits .and .u64 t210 1) == 1), .int .u32 x210003_41, .int .u8 ((t210 / 16) % 256), .int .i64 x210005_78, .int .u16 x210006_78, .int .u16 x210007_78]] (by rfl) rfl rfl (by (try simp only [List.map_toArray, List.map_cons, List.map_nil]); first | rfl) ?_
         with_reducible refine (change_Right.calls kj78 (IntKind.u64.wrap (a0_0 + 1)) (IntKind.u64.wrap (a0_1 + t206)) ((Go.bits .and .u64 t210 1) == 1) x210003_41 ((t210 / 16) % 256) x210005_78 x210006_78 x210007_78 t240 _ A113.out).mono ?_
         rintro e w140 ⟨rfl, hb⟩; refine ⟨_, rfl, ?_⟩; have n0_ := Aside0.mk (blk_below BK201.out hb); have n1_ := Aside0.mk (blk_below BK202.out hb); have n2_ := Aside0.mk (blk_below BK209.out hb); have n3_ := Aside0.mk (IsS100.below (by repeat (first | (with_reducible first | exact HI205.out | refine IsS100.far ?_ NB205_209.out _))) hb); have n4_ := Aside0.mk (below_step (by repeat (first | (with_reducible first | exact HB.out | refine below_set ?_ GE209.out))) hb); clear BK201; clear BK202; clear BK209; clear HI205; clear HB; have BK201 := n0_; have BK202 := n1_; have BK209 := n2_; have HI205 := n3_; have HB := n4_; clear n0_ n1_ n2_ n3_ n4_
         (try clear hb)
         (try clear hb2)
         (try clear hk)
         (try clear hi)
         refine hK.out _ _ ⟨(blk_cell BK209.out 0).trans rfl, (blk_cell BK209.out 1).trans rfl, (blk_cell BK209.out 2).trans rfl, (blk_cell BK209.out 3).trans rfl, (blk_cell BK209.out 4).trans rfl, (blk_cell BK209.out 5).trans rfl, (blk_cell BK209.out 6).trans rfl, (blk_cell BK209.out 7).trans rfl⟩ (fun hHeld => ?_); clear hK K; refine norm_ (a' := ?_) ?_ ?_; rotate_left
         · show Act.put _ (some 169) _ = _
           simp only [Act.put, la0, la1, la2, i64_w, i32_w]
           rfl
         refine pure_ (i := 2) (N := some 170) (v := ?_) (a' := ?_) #[I,I,I,O,O,O,O,O,O,O,O,O] rfl rfl (any_of HT_.out (by kernel_rfl)) (fun _ _ _ h => h) (Or.inl ⟨by rfl, ?_⟩) ?_ ?_; rotate_left; · intro w'; go_simp; with_reducible rfl
         rotate_left; · simp only [Act.put, la0, la1, la2, i64_w, i32_w]; rfl
         refine pure_ (i := 3) (N := some 171) (v := ?_) (a' := ?_) #[I,I,I,I,O,O,O,O,O,O,O,O] rfl rfl (any_of HT_.out (by kernel_rfl)) (fun _ _ _ h => h) (Or.inl ⟨by rfl, ?_⟩) ?_ ?_; rotate_left; · intro w'; go_simp; with_reducible rfl
         rotate_left; · simp only [Act.put, la0, la1, la2, i64_w, i32_w]; rfl
         refine pure_ (i := 4) (N := some 172) (v := undef) (a' := ?_) #[I,I,I,I,I,O,O,O,O,O,O,O] rfl rfl (any_of HT_.out (by kernel_rfl)) (fun _ _ _ h => h) (Or.inr ⟨by rfl, rfl⟩) ?_ ?_; rotate_left; · simp only [Act.put, la0, la1, la2, i64_w, i32_w]; rfl
         refine pure_ (i := 5) (N := some 173) (v := undef) (a' := ?_) #[I,I,I,I,I,I,O,O,O,O,O,O] rfl rfl (any_of HT_.out (by kernel_rfl)) (fun _ _ _ h => h) (Or.inr ⟨by rfl, rfl⟩) ?_ ?_; rotate_left; · simp only [Act.put, la0, la1, la2, i64_w, i32_w]; rfl
         refine pure_ (i := 6) (N := some 174) (v := undef) (a' := ?_) #[I,I,I,I,I,I,I,O,O,O,O,O] rfl rfl (any_of HT_.out (by kernel_rfl)) (fun _ _ _ h => h) (Or.inr ⟨by rfl, rfl⟩) ?_ ?_; rotate_left; · simp only [Act.put, la0, la1, la2, i64_w, i32_w]; rfl
         refine pure_ (i := 7) (N := some 175) (v := undef) (a' := ?_) #[I,I,I,I,I,I,I,I,O,O,O,O] rfl rfl (any_of HT_.out (by kernel_rfl)) (fun _ _ _ h => h) (Or.inr ⟨by rfl, rfl⟩) ?_ ?_; rotate_left; · simp only [Act.put, la0, la1, la2, i64_w, i32_w]; rfl
         refine pure_ (i := 8) (N := some 176) (v := undef) (a' := ?_) #[I,I,I,I,I,I,I,I,I,O,O,O] rfl rfl (any_of HT_.out (by kernel_rfl)) (fun _ _ _ h => h) (Or.inr ⟨by rfl, rfl⟩) ?_ ?_; rotate_left; · simp only [Act.put, la0, la1, la2, i64_w, i32_w]; rfl
         refine pure_ (i := 9) (N := some 177) (v := undef) (a' := ?_) #[I,I,I,I,I,I,I,I,I,I,O,O] rfl rfl (any_of HT_.out (by kernel_rfl)) (fun _ _ _ h => h) (Or.inr ⟨by rfl, rfl⟩) ?_ ?_; rotate_left; · simp only [Act.put, la0, la1, la2, i64_w, i32_w]; rfl
         refine pure_ (i := 10) (N := some 178) (v := undef) (a' := ?_) #[I,I,I,I,I,I,I,I,I,I,I,O] rfl rfl (any_of HT_.out (by kernel_rfl)) (fun _ _ _ h => h) (Or.inr ⟨by rfl, rfl⟩) ?_ ?_; rotate_left; · simp only [Act.put, la0, la1, la2, i64_w, i32_w]; rfl
         refine pure_ (i := 11) (N := some 179) (v := ?_) (a' := ?_) #[I,I,I,I,I,I,I,I,I,I,I,I] rfl rfl (any_of HT_.out (by kernel_rfl)) (fun _ _ _ h => h) (Or.inl ⟨by rfl, ?_⟩) ?_ ?_; rotate_left; · intro w'; go_simp; with_reducible rfl
         rotate_left; · simp only [Act.put, la0, la1, la2, i64_w, i32_w]; rfl
         refine done_ (done_of HT_.out (by kernel_rfl)) ?_; have hnb141 := NB202_201.out; have hnc141 := NB201_202.out; have hnb142 := NB202_209.out; have hnc142 := NB209_202.out; have hnb143 := NB202_205.out; have hnc143 := NB205_202.out; have hcz144_0 : w140.cell? ⟨gb202, 0, none⟩ = some (.int .u64 x203000_78) := (blk_cell BK202.out 0).trans rfl; have hcz144_1 : w140.cell? ⟨gb202, 1, none⟩ = some (.int .u64 x203001_78) := (blk_cell BK202.out 1).trans rfl; have hcz144_2 : w140.cell? ⟨gb202, 2, none⟩ = some (.bool x203002_78) := (blk_cell BK202.out 2).trans rfl; have hcz144_3 : w140.cell? ⟨gb202, 3, none⟩ = some (.int .u32 x203003_78) := (blk_cell BK202.out 3).trans rfl; have hcz144_4 : w140.cell? ⟨gb202, 4, none⟩ = some (.int .u8 x203004_78) := (blk_cell BK202.out 4).trans rfl; have hcz144_5 : w140.cell? ⟨gb202, 5, none⟩ = some (.int .i64 x203005_78) := (blk_cell BK202.out 5).trans rfl; have hcz144_6 : w140.cell? ⟨gb202, 6, none⟩ = some (.int .u16 x203006_78) := (blk_cell BK202.out 6).trans rfl; have hcz144_7 : w140.cell? ⟨gb202, 7, none⟩ = some (.int .u16 x203007_78) := (blk_cell BK202.out 7).trans rfl; have hfz144_0 := blk_frozen BK202.out 0; have hfz144_1 := blk_frozen BK202.out 1; have hfz144_2 := blk_frozen BK202.out 2; have hfz144_3 := blk_frozen BK202.out 3; have hfz144_4 := blk_frozen BK202.out 4; have hfz144_5 := blk_frozen BK202.out 5; have hfz144_6 := blk_frozen BK202.out 6; have hfz144_7 := blk_frozen BK202.out 7
         try go_wp2
         refine bodyPost_ret (results_ct rfl _ _ gb202 31 #[.int .u64 0, .int .u64 0, .bool false, .int .u32 0, .int .u8 0, .int .i64 0, .int .u16 0, .int .u16 0] (0, 0) _ rfl (by refine blk_put (cs := #[.int .u64 0, .int .u64 0, .bool false, .int .u32 0, .int .u8 0, .int .i64 0, .int .u16 0, .int .u16 x203007_78]) ?_ 7 _ rfl; refine blk_put (cs := #[.int .u64 0, .int .u64 0, .bool false, .int .u32 0, .int .u8 0, .int .i64 0, .int .u16 x203006_78, .int .u16 x203007_78]) ?_ 6 _ rfl; refine blk_put (cs := #[.int .u64 0, .int .u64 0, .bool false, .int .u32 0, .int .u8 0, .int .i64 x203005_78, .int .u16 x203006_78, .int .u16 x203007_78]) ?_ 5 _ rfl; refine blk_put (cs := #[.int .u64 0, .int .u64 0, .bool false, .int .u32 0, .int .u8 x203004_78, .int .i64 x203005_78, .int .u16 x203006_78, .int .u16 x203007_78]) ?_ 4 _ rfl; refine blk_put (cs := #[.int .u64 0, .int .u64 0, .bool false, .int .u32 x203003_78, .int .u8 x203004_78, .int .i64 x203005_78, .int .u16 x203006_78, .int .u16 x203007_78]) ?_ 3 _ rfl; refine blk_put (cs := #[.int .u64 0, .int .u64 0, .bool x203002_78, .int .u32 x203003_78, .int .u8 x203004_78, .int .i64 x203005_78, .int .u16 x203006_78, .int .u16 x203007_78]) ?_ 2 _ rfl; refine blk_put (cs := #[.int .u64 0, .int .u64 x203001_78, .bool x203002_78, .int .u32 x203003_78, .int .u8 x203004_78, .int .i64 x203005_78, .int .u16 x203006_78, .int .u16 x203007_78]) ?_ 1 _ rfl; refine blk_put (cs := #[.int .u64 x203000_78, .int .u64 x203001_78, .bool x203002_78, .int .u32 x203003_78, .int .u8 x203004_78, .int .i64 x203005_78, .int .u16 x203006_78, .int .u16 x203007_78]) ?_ 0 _ rfl; exact BK202.out) Try.underlying31 rfl (by kernel_rfl)) rfl ?_; exact ⟨by first | rfl | (simp [*, errW_none, errW_some] <;> rfl), by repeat (first | (with_reducible first | exact HB.out | refine below_set ?_ GE202.out))⟩
       rw [if_neg c112] at H; have c112b0 : (t237 == 0) = false := beq_eq_false_iff_ne.mpr c112; have c112b1 : (t237 != 0) = true := bne_iff_ne.mpr c112
       simp only [Option.some.injEq, Prod.mk.injEq] at H
       obtain ⟨rfl, rfl, rfl, rfl, rfl, rfl, rfl, rfl, rfl⟩ := H
       go_wp2_with (first | ((with_reducible refine gate_callee (f := 43) rfl ?_); refine goesL_ (some 163) rfl rfl Try.func43 (by kernel_rfl) rfl #[.pointer (some ⟨g205, 0, none⟩)] rfl (by (try simp only [List.map_toArray, List.map_cons, List.map_nil]); first | rfl | (refine qa_arr ?_; (repeat' (first | rfl | refine qa_cons ?_ ?_ | refine qa_int ?_ | refine qa_agg ?_ | refine qa_arr ?_ | omega)); done)) ?_; (with_reducible refine (coin_Purse_End.calls g205 x206000_78 x206001_78 t237 t238 t239 w _ ?side1 ?side2 A111.out).mono ?_); (case side1 => repeat (first | (with_reducible first | exact HI205.out | refine IsS100.far ?_ NB205_209.out _))); (case side2 => repeat (first | (with_reducible first | exact HB.out | refine below_set ?_ GE209.out))); rintro e w145 ⟨rfl, hi, hb, hk⟩; refine ⟨_, rfl, ?_⟩; have n0_ := Aside0.mk (KeepBut.blk hk (g' := gb201) (o := .cells #[.int .u64 a0_0, .int .u64 a0_1, .bool a0_2, .int .u32 a0_3, .int .u8 a0_4, .int .i64 a0_5, .int .u16 a0_6, .int .u16 a0_7] 31 (0, 0)) BK201.out NB201_205.out (by simp)); have n1_ := Aside0.mk (KeepBut.blk hk (g' := gb202) (o := .cells #[.int .u64 x203000_78, .int .u64 x203001_78, .bool x203002_78, .int .u32 x203003_78, .int .u8 x203004_78, .int .i64 x203005_78, .int .u16 x203006_78, .int .u16 x203007_78] 31 (0, 0)) BK202.out NB202_205.out (by simp)); have n2_ := Aside0.mk (KeepBut.blk hk (g' := gb209) (o := .cells #[.int .u64 (IntKind.u64.wrap (a0_0 + 1)), .int .u64 (IntKind.u64.wrap (a0_1 + t206)), .bool ((Go.bits .and .u64 t210 1) == 1), .int .u32 x210003_41, .int .u8 ((t210 / 16) % 256), .int .i64 x210005_78, .int .u16 x210006_78, .int .u16 x210007_78] 31 (0, 0)) BK209.out NB209_205.out (by simp)); have n3_ := Aside0.mk (hb); have n4_ := Aside0.mk (hi); clear BK201 BK202 BK209 HB HI205; revert n0_ n1_ n2_ n3_ n4_; intro BK201 BK202 BK209 HB HI205; (try clear hb); (try clear hb2); (try clear hk); (try clear hi); have hnb146 := NB202_201.out; have hnc146 := NB201_202.out; have hnb147 := NB202_209.out; have hnc147 := NB209_202.out; have hnb148 := NB202_205.out; have hnc148 := NB205_202.out; have hcz149_0 : w145.cell? ⟨gb202, 0, none⟩ = some (.int .u64 x203000_78) := (blk_cell BK202.out 0).trans rfl; have hcz149_1 : w145.cell? ⟨gb202, 1, none⟩ = some (.int .u64 x203001_78) := (blk_cell BK202.out 1).trans rfl; have hcz149_2 : w145.cell? ⟨gb202, 2, none⟩ = some (.bool x203002_78) := (blk_cell BK202.out 2).trans rfl; have hcz149_3 : w145.cell? ⟨gb202, 3, none⟩ = some (.int .u32 x203003_78) := (blk_cell BK202.out 3).trans rfl; have hcz149_4 : w145.cell? ⟨gb202, 4, none⟩ = some (.int .u8 x203004_78) := (blk_cell BK202.out 4).trans rfl; have hcz149_5 : w145.cell? ⟨gb202, 5, none⟩ = some (.int .i64 x203005_78) := (blk_cell BK202.out 5).trans rfl; have hcz149_6 : w145.cell? ⟨gb202, 6, none⟩ = some (.int .u16 x203006_78) := (blk_cell BK202.out 6).trans rfl; have hcz149_7 : w145.cell? ⟨gb202, 7, none⟩ = some (.int .u16 x203007_78) := (blk_cell BK202.out 7).trans rfl; have hfz149_0 := blk_frozen BK202.out 0; have hfz149_1 := blk_frozen BK202.out 1; have hfz149_2 := blk_frozen BK202.out 2; have hfz149_3 := blk_frozen BK202.out 3; have hfz149_4 := blk_frozen BK202.out 4; have hfz149_5 := blk_frozen BK202.out 5; have hfz149_6 := blk_frozen BK202.out 6; have hfz149_7 := blk_frozen BK202.out 7))
       refine bodyPost_ret (results_ct rfl _ _ gb202 31 #[.int .u64 0, .int .u64 0, .bool false, .int .u32 0, .int .u8 0, .int .i64 0, .int .u16 0, .int .u16 0] (0, 0) _ rfl (by refine blk_put (cs := #[.int .u64 0, .int .u64 0, .bool false, .int .u32 0, .int .u8 0, .int .i64 0, .int .u16 0, .int .u16 x203007_78]) ?_ 7 _ rfl; refine blk_put (cs := #[.int .u64 0, .int .u64 0, .bool false, .int .u32 0, .int .u8 0, .int .i64 0, .int .u16 x203006_78, .int .u16 x203007_78]) ?_ 6 _ rfl; refine blk_put (cs := #[.int .u64 0, .int .u64 0, .bool false, .int .u32 0, .int .u8 0, .int .i64 x203005_78, .int .u16 x203006_78, .int .u16 x203007_78]) ?_ 5 _ rfl; refine blk_put (cs := #[.int .u64 0, .int .u64 0, .bool false, .int .u32 0, .int .u8 x203004_78, .int .i64 x203005_78, .int .u16 x203006_78, .int .u16 x203007_78]) ?_ 4 _ rfl; refine blk_put (cs := #[.int .u64 0, .int .u64 0, .bool false, .int .u32 x203003_78, .int .u8 x203004_78, .int .i64 x203005_78, .int .u16 x203006_78, .int .u16 x203007_78]) ?_ 3 _ rfl; refine blk_put (cs := #[.int .u64 0, .int .u64 0, .bool x203002_78, .int .u32 x203003_78, .int .u8 x203004_78, .int .i64 x203005_78, .int .u16 x203006_78, .int .u16 x203007_78]) ?_ 2 _ rfl; refine blk_put (cs := #[.int .u64 0, .int .u64 x203001_78, .bool x203002_78, .int .u32 x203003_78, .int .u8 x203004_78, .int .i64 x203005_78, .int .u16 x203006_78, .int .u16 x203007_78]) ?_ 1 _ rfl; refine blk_put (cs := #[.int .u64 x203000_78, .int .u64 x203001_78, .bool x203002_78, .int .u32 x203003_78, .int .u8 x203004_78, .int .i64 x203005_78, .int .u16 x203006_78, .int .u16 x203007_78]) ?_ 0 _ rfl; exact BK202.out) Try.underlying31 rfl (by kernel_rfl)) rfl ?_; exact ⟨by first | rfl | (simp [*, errW_none, errW_some] <;> rfl), by repeat (first | (with_reducible first | exact HB.out | refine below_set ?_ GE202.out))⟩

end Go.Proofs.Ytllcighpfikpkaa.QChangeBytes
