-- Lines by a program of this session, for this claim.
import Derived.Test.YtkdjpkgaknfdeaaQLinkPlaysx0
import Derived.Test.YtkdjpkgaknfdeaaQLinkPlaysx1
namespace Go.Proofs.Ytkdjpkgaknfdeaa.QLinkPlays
open Go.RowKit Go.Proofs.YtkdjpkgaknfdeaaW.PrintWords Go.Proofs.YtkdjpkgaknfdeaaW.PrintLast Go.Proofs.YtkdjpkgaknfdeaaW.PrintMore
attribute [local go_sem] max2_int min2_int max_two min_two max_three min_three max_four min_four   -- for this text's walks alone
set_option linter.unusedVariables false
set_option linter.unusedSimpArgs false

/-! ### milestonelaw14_LinkPlays: function 4 -/
mutual
def milestonelaw14_LinkPlays.j0 : Nat → Int → List (S33) → Bool → Option (Bool)
  | 0, _, _, _ => none
  | k + 1, x0, x1, x35 => if x35 = true then ((milestonelaw14_awake.f).bind fun t143 => (some t143)) else ((link_New.f (IntKind.u64.wrap (x0))).bind fun bt144 => (if 16 ≤ 281474976710656 then (milestonelaw14_LinkPlays.l0 k x1 (IntKind.u64.wrap (x0)) (List.replicate 16 false) 0 (IntKind.u64.wrap ((IntKind.u64.wrap (x0)) + 6)) 65535 0 0 bt144.1 bt144.2.1 bt144.2.2.1 bt144.2.2.2.1 bt144.2.2.2.2) else (none)))
def milestonelaw14_LinkPlays.l0 : Nat → List (S33) → Int → List Bool → Int → Int → Int → Int → Int → Int → Int → Int → Int → Int → Option (Bool)
  | 0, _, _, _, _, _, _, _, _, _, _, _, _, _ => none
  | k + 1, x1, x5, x7, x8, x9, x10, x11, x12, x150000, x150001, x150002, x150003, x150004 => if x12 < (x1.length : Int) then (if 0 ≤ x12 then (if (Int.tmod ((rd_T33 x1 x12).f0) 12) < 4 then (if (Int.tmod ((rd_T33 x1 x12).f0) 12) = 3 then (milestonelaw14_LinkPlays.j2 k x1 x5 x7 x8 x10 x11 x12 (IntKind.u64.wrap ((rd_T33 x1 x12).f1)) x150000 x150001 x150002 x150003 x150004) else (milestonelaw14_LinkPlays.j2 k x1 x5 x7 x8 x10 x11 x12 (IntKind.u64.wrap (x8 + (IntKind.u64.wrap (Int.tmod ((rd_T33 x1 x12).f1) 4)))) x150000 x150001 x150002 x150003 x150004)) else (if (Int.tmod ((rd_T33 x1 x12).f0) 12) < 6 then ((link_Link_Heard.f x150000 x150001 x150002 x150003 x150004 ((rd_T33 x1 x12).f2) x5).bind fun bt171 => (if ((rd_T33 x1 x12).f2) = 0 then (milestonelaw14_LinkPlays.j8 k x1 x5 x7 x8 x9 1 (IntKind.u64.wrap (x5 + 20)) x12 bt171.1 bt171.2.1 bt171.2.2.1 bt171.2.2.2.1 bt171.2.2.2.2) else (milestonelaw14_LinkPlays.j8 k x1 x5 x7 x8 x9 ((rd_T33 x1 x12).f2) (IntKind.u64.wrap (x5 + 20)) x12 bt171.1 bt171.2.1 bt171.2.2.1 bt171.2.2.2.1 bt171.2.2.2.2))) else ((link_Link_Tick.f k x150000 x150001 x150002 x150003 x150004 (IntKind.u64.wrap (x5 + (IntKind.u64.wrap (1 + (IntKind.u64.wrap (Int.tmod ((rd_T33 x1 x12).f1) 8))))))).bind fun bt176 => (milestonelaw14_LinkPlays.l3 k x1 (IntKind.u64.wrap (x5 + (IntKind.u64.wrap (1 + (IntKind.u64.wrap (Int.tmod ((rd_T33 x1 x12).f1) 8)))))) x7 x8 x9 x10 x11 x12 0 bt176.1 bt176.2.1 bt176.2.2.1 bt176.2.2.2.1 bt176.2.2.2.2)))) else (none)) else (some true)
def milestonelaw14_LinkPlays.j8 : Nat → List (S33) → Int → List Bool → Int → Int → Int → Int → Int → Int → Int → Int → Int → Int → Option (Bool)
  | 0, _, _, _, _, _, _, _, _, _, _, _, _, _ => none
  | k + 1, x1, x5, x7, x8, x9, x10, x11, x12, x150000, x150001, x150002, x150003, x150004 => milestonelaw14_LinkPlays.l5 k x1 x5 x7 x8 x9 x10 x11 x12 0 false 0 x150000 x150001 x150002 x150003 x150004
def milestonelaw14_LinkPlays.l5 : Nat → List (S33) → Int → List Bool → Int → Int → Int → Int → Int → Int → Bool → Int → Int → Int → Int → Int → Int → Option (Bool)
  | 0, _, _, _, _, _, _, _, _, _, _, _, _, _, _, _, _ => none
  | k + 1, x1, x5, x7, x8, x9, x10, x11, x12, x24, x25, x26, x150000, x150001, x150002, x150003, x150004 => if x26 < 16 then (if 0 ≤ x26 then (if x26 < (x7.length : Int) then (if rdOf false x7 x26 = true then (if x26 < 3 then (if x25 = true then (milestonelaw14_LinkPlays.l5 k x1 x5 x7 x8 x9 x10 x11 x12 (wrap64 (x24 + 1)) true (wrap64 (x26 + 1)) x150000 x150001 x150002 x150003 x150004) else (milestonelaw14_LinkPlays.l5 k x1 x5 x7 x8 x9 x10 x11 x12 (wrap64 (x24 + 1)) (rdOf false x7 x26) (wrap64 (x26 + 1)) x150000 x150001 x150002 x150003 x150004)) else (if x25 = true then (milestonelaw14_LinkPlays.l5 k x1 x5 x7 x8 x9 x10 x11 x12 x24 true (wrap64 (x26 + 1)) x150000 x150001 x150002 x150003 x150004) else (milestonelaw14_LinkPlays.l5 k x1 x5 x7 x8 x9 x10 x11 x12 x24 (rdOf false x7 x26) (wrap64 (x26 + 1)) x150000 x150001 x150002 x150003 x150004))) else (if x25 = true then (milestonelaw14_LinkPlays.l5 k x1 x5 x7 x8 x9 x10 x11 x12 x24 true (wrap64 (x26 + 1)) x150000 x150001 x150002 x150003 x150004) else (milestonelaw14_LinkPlays.l5 k x1 x5 x7 x8 x9 x10 x11 x12 x24 (rdOf false x7 x26) (wrap64 (x26 + 1)) x150000 x150001 x150002 x150003 x150004))) else (none)) else (none)) else (if x24 ≥ 2 then (milestonelaw14_LinkPlays.j10 k x1 x5 x7 x8 x9 x10 x11 x12 x24 x25 96 x150000 x150001 x150002 x150003 x150004) else (milestonelaw14_LinkPlays.j10 k x1 x5 x7 x8 x9 x10 x11 x12 x24 x25 65535 x150000 x150001 x150002 x150003 x150004))
def milestonelaw14_LinkPlays.j10 : Nat → List (S33) → Int → List Bool → Int → Int → Int → Int → Int → Int → Bool → Int → Int → Int → Int → Int → Int → Option (Bool)
  | 0, _, _, _, _, _, _, _, _, _, _, _, _, _, _, _, _ => none
  | k + 1, x1, x5, x7, x8, x9, x10, x11, x12, x24, x25, x27, x150000, x150001, x150002, x150003, x150004 => if x24 < 2 then (milestonelaw14_LinkPlays.j11 k x1 x5 x7 x8 x9 x10 x11 x12 x25 x27 65535 x150000 x150001 x150002 x150003 x150004) else (milestonelaw14_LinkPlays.j11 k x1 x5 x7 x8 x9 x10 x11 x12 x25 x27 x10 x150000 x150001 x150002 x150003 x150004)
def milestonelaw14_LinkPlays.j11 : Nat → List (S33) → Int → List Bool → Int → Int → Int → Int → Int → Bool → Int → Int → Int → Int → Int → Int → Int → Option (Bool)
  | 0, _, _, _, _, _, _, _, _, _, _, _, _, _, _, _, _ => none
  | k + 1, x1, x5, x7, x8, x9, x10, x11, x12, x25, x27, x28, x150000, x150001, x150002, x150003, x150004 => (link_Link_Receives.f x150000 x150001 x150002 x150003 x150004).bind fun bt196 => (if bt196.1 = x27 then ((link_Link_Cost.f bt196.2.1 bt196.2.2.1 bt196.2.2.2.1 bt196.2.2.2.2.1 bt196.2.2.2.2.2).bind fun bt202 => (if bt202.1 = x28 then ((link_Link_Alive.f bt202.2.1 bt202.2.2.1 bt202.2.2.2.1 bt202.2.2.2.2.1 bt202.2.2.2.2.2).bind fun bt208 => (if (bt208.1 != x25) = true then (some false) else (milestonelaw14_LinkPlays.l0 k x1 x5 x7 x8 x9 x10 x11 (wrap64 (x12 + 1)) bt208.2.1 bt208.2.2.1 bt208.2.2.2.1 bt208.2.2.2.2.1 bt208.2.2.2.2.2))) else (some false))) else (some false))
def milestonelaw14_LinkPlays.j2 : Nat → List (S33) → Int → List Bool → Int → Int → Int → Int → Int → Int → Int → Int → Int → Int → Option (Bool)
  | 0, _, _, _, _, _, _, _, _, _, _, _, _, _ => none
  | k + 1, x1, x5, x7, x8, x10, x11, x12, x15, x150000, x150001, x150002, x150003, x150004 => (link_Link_Hello.f x150000 x150001 x150002 x150003 x150004 x15 x5).bind fun bt155 => (milestonelaw14_LinkPlays.l1 k x1 x5 x7 x8 x10 x11 x12 x15 false 0 bt155.1 bt155.2.1 bt155.2.2.1 bt155.2.2.2.1 bt155.2.2.2.2)
def milestonelaw14_LinkPlays.l1 : Nat → List (S33) → Int → List Bool → Int → Int → Int → Int → Int → Bool → Int → Int → Int → Int → Int → Int → Option (Bool)
  | 0, _, _, _, _, _, _, _, _, _, _, _, _, _, _, _ => none
  | k + 1, x1, x5, x7, x8, x10, x11, x12, x15, x16, x17, x150000, x150001, x150002, x150003, x150004 => if x17 < 16 then (if x16 = true then (milestonelaw14_LinkPlays.l1 k x1 x5 x7 x8 x10 x11 x12 x15 true (wrap64 (x17 + 1)) x150000 x150001 x150002 x150003 x150004) else (if 0 ≤ x17 then (if x17 < (x7.length : Int) then (milestonelaw14_LinkPlays.l1 k x1 x5 x7 x8 x10 x11 x12 x15 (rdOf false x7 x17) (wrap64 (x17 + 1)) x150000 x150001 x150002 x150003 x150004) else (none)) else (none))) else (if x15 < x8 then (milestonelaw14_LinkPlays.j4 k x1 x5 x7 x8 x10 x11 x12 x15 true x150000 x150001 x150002 x150003 x150004) else (if (IntKind.u64.wrap (x15 - x8)) ≥ 16 then (milestonelaw14_LinkPlays.j4 k x1 x5 x7 x8 x10 x11 x12 x15 true x150000 x150001 x150002 x150003 x150004) else (milestonelaw14_LinkPlays.j4 k x1 x5 x7 x8 x10 x11 x12 x15 (!x16) x150000 x150001 x150002 x150003 x150004)))
def milestonelaw14_LinkPlays.j4 : Nat → List (S33) → Int → List Bool → Int → Int → Int → Int → Int → Bool → Int → Int → Int → Int → Int → Option (Bool)
  | 0, _, _, _, _, _, _, _, _, _, _, _, _, _, _ => none
  | k + 1, x1, x5, x7, x8, x10, x11, x12, x15, x141, x150000, x150001, x150002, x150003, x150004 => if x141 = true then (if 16 ≤ 281474976710656 then ((some (List.replicate 16 false : List Bool)).bind fun y161 => (if 0 < (y161.length : Int) then (milestonelaw14_LinkPlays.j8 k x1 x5 (y161.set (0 : Int).toNat true) (IntKind.u64.wrap (x15 + 1)) (IntKind.u64.wrap (x5 + 6)) x10 x11 x12 x150000 x150001 x150002 x150003 x150004) else (none))) else (none)) else (if 16 ≤ 281474976710656 then (milestonelaw14_LinkPlays.l2 k x1 x5 (List.replicate 16 false) x10 x11 x12 x15 x7 (wrap64 ((wrap64 (IntKind.u64.wrap (x15 - x8))) + 1)) 0 x150000 x150001 x150002 x150003 x150004) else (none))
def milestonelaw14_LinkPlays.l2 : Nat → List (S33) → Int → List Bool → Int → Int → Int → Int → List Bool → Int → Int → Int → Int → Int → Int → Int → Option (Bool)
  | 0, _, _, _, _, _, _, _, _, _, _, _, _, _, _, _ => none
  | k + 1, x1, x5, x7, x10, x11, x12, x15, x18, x19, x20, x150000, x150001, x150002, x150003, x150004 => if (wrap64 (x20 + x19)) < 16 then (if 0 ≤ x20 then (if x20 < (x18.length : Int) then (if 0 ≤ (wrap64 (x20 + x19)) then (if (wrap64 (x20 + x19)) < (x7.length : Int) then (milestonelaw14_LinkPlays.l2 k x1 x5 (x7.set ((wrap64 (x20 + x19)) : Int).toNat (rdOf false x18 x20)) x10 x11 x12 x15 x18 x19 (wrap64 (x20 + 1)) x150000 x150001 x150002 x150003 x150004) else (none)) else (none)) else (none)) else (none)) else (if 0 < (x7.length : Int) then (milestonelaw14_LinkPlays.j8 k x1 x5 (x7.set (0 : Int).toNat true) (IntKind.u64.wrap (x15 + 1)) (IntKind.u64.wrap (x5 + 6)) x10 x11 x12 x150000 x150001 x150002 x150003 x150004) else (none))
def milestonelaw14_LinkPlays.l3 : Nat → List (S33) → Int → List Bool → Int → Int → Int → Int → Int → Int → Int → Int → Int → Int → Int → Option (Bool)
  | 0, _, _, _, _, _, _, _, _, _, _, _, _, _, _ => none
  | k + 1, x1, x5, x7, x8, x9, x10, x11, x12, x21, x150000, x150001, x150002, x150003, x150004 => if x21 < 100 then (milestonelaw14_LinkPlays.l4 k x1 x5 x7 x8 x9 x10 x11 x12 x21 false 0 x150000 x150001 x150002 x150003 x150004) else (if x5 ≥ x11 then (milestonelaw14_LinkPlays.j8 k x1 x5 x7 x8 x9 65535 x11 x12 x150000 x150001 x150002 x150003 x150004) else (milestonelaw14_LinkPlays.j8 k x1 x5 x7 x8 x9 x10 x11 x12 x150000 x150001 x150002 x150003 x150004))
def milestonelaw14_LinkPlays.l4 : Nat → List (S33) → Int → List Bool → Int → Int → Int → Int → Int → Int → Bool → Int → Int → Int → Int → Int → Int → Option (Bool)
  | 0, _, _, _, _, _, _, _, _, _, _, _, _, _, _, _, _ => none
  | k + 1, x1, x5, x7, x8, x9, x10, x11, x12, x21, x22, x23, x150000, x150001, x150002, x150003, x150004 => if x23 < 16 then (if x22 = true then (milestonelaw14_LinkPlays.l4 k x1 x5 x7 x8 x9 x10 x11 x12 x21 true (wrap64 (x23 + 1)) x150000 x150001 x150002 x150003 x150004) else (if 0 ≤ x23 then (if x23 < (x7.length : Int) then (milestonelaw14_LinkPlays.l4 k x1 x5 x7 x8 x9 x10 x11 x12 x21 (rdOf false x7 x23) (wrap64 (x23 + 1)) x150000 x150001 x150002 x150003 x150004) else (none)) else (none))) else (if x22 = true then (if x5 < x9 then (if x5 ≥ x11 then (milestonelaw14_LinkPlays.j8 k x1 x5 x7 x8 x9 65535 x11 x12 x150000 x150001 x150002 x150003 x150004) else (milestonelaw14_LinkPlays.j8 k x1 x5 x7 x8 x9 x10 x11 x12 x150000 x150001 x150002 x150003 x150004)) else ((some (([false] : List Bool) : List Bool)).bind fun y182 => (if 15 ≤ (x7.length : Int) then ((some (x7.take 15 : List Bool)).bind fun y185 => (if y182.length + y185.length < 140737488355328 then (milestonelaw14_LinkPlays.l3 k x1 x5 (y182 ++ y185) (IntKind.u64.wrap (x8 + 1)) (IntKind.u64.wrap (x9 + 6)) x10 x11 x12 (wrap64 (x21 + 1)) x150000 x150001 x150002 x150003 x150004) else (none))) else (none)))) else (if x5 ≥ x11 then (milestonelaw14_LinkPlays.j8 k x1 x5 x7 x8 x9 65535 x11 x12 x150000 x150001 x150002 x150003 x150004) else (milestonelaw14_LinkPlays.j8 k x1 x5 x7 x8 x9 x10 x11 x12 x150000 x150001 x150002 x150003 x150004)))
end
def milestonelaw14_LinkPlays.f (k : Nat) (a0 : Int) (l1 : List (S33)) : Option (Bool) := (milestonelaw14_awake.f).bind fun t142 => (if t142 = true then (milestonelaw14_LinkPlays.j0 k a0 l1 (decide ((l1.length : Int) > 100))) else (milestonelaw14_LinkPlays.j0 k a0 l1 true))
theorem milestonelaw14_LinkPlays.mono_l : ∀ k, (∀ y0 y1 y2, LeO (milestonelaw14_LinkPlays.j0 k y0 y1 y2) (milestonelaw14_LinkPlays.j0 (k + 1) y0 y1 y2)) ∧ (∀ y0 y1 y2 y3 y4 y5 y6 y7 y8 y9 y10 y11 y12, LeO (milestonelaw14_LinkPlays.l0 k y0 y1 y2 y3 y4 y5 y6 y7 y8 y9 y10 y11 y12) (milestonelaw14_LinkPlays.l0 (k + 1) y0 y1 y2 y3 y4 y5 y6 y7 y8 y9 y10 y11 y12)) ∧ (∀ y0 y1 y2 y3 y4 y5 y6 y7 y8 y9 y10 y11 y12, LeO (milestonelaw14_LinkPlays.j8 k y0 y1 y2 y3 y4 y5 y6 y7 y8 y9 y10 y11 y12) (milestonelaw14_LinkPlays.j8 (k + 1) y0 y1 y2 y3 y4 y5 y6 y7 y8 y9 y10 y11 y12)) ∧ (∀ y0 y1 y2 y3 y4 y5 y6 y7 y8 y9 y10 y11 y12 y13 y14 y15, LeO (milestonelaw14_LinkPlays.l5 k y0 y1 y2 y3 y4 y5 y6 y7 y8 y9 y10 y11 y12 y13 y14 y15) (milestonelaw14_LinkPlays.l5 (k + 1) y0 y1 y2 y3 y4 y5 y6 y7 y8 y9 y10 y11 y12 y13 y14 y15)) ∧ (∀ y0 y1 y2 y3 y4 y5 y6 y7 y8 y9 y10 y11 y12 y13 y14 y15, LeO (milestonelaw14_LinkPlays.j10 k y0 y1 y2 y3 y4 y5 y6 y7 y8 y9 y10 y11 y12 y13 y14 y15) (milestonelaw14_LinkPlays.j10 (k + 1) y0 y1 y2 y3 y4 y5 y6 y7 y8 y9 y10 y11 y12 y13 y14 y15)) ∧ (∀ y0 y1 y2 y3 y4 y5 y6 y7 y8 y9 y10 y11 y12 y13 y14 y15, LeO (milestonelaw14_LinkPlays.j11 k y0 y1 y2 y3 y4 y5 y6 y7 y8 y9 y10 y11 y12 y13 y14 y15) (milestonelaw14_LinkPlays.j11 (k + 1) y0 y1 y2 y3 y4 y5 y6 y7 y8 y9 y10 y11 y12 y13 y14 y15)) ∧ (∀ y0 y1 y2 y3 y4 y5 y6 y7 y8 y9 y10 y11 y12, LeO (milestonelaw14_LinkPlays.j2 k y0 y1 y2 y3 y4 y5 y6 y7 y8 y9 y10 y11 y12) (milestonelaw14_LinkPlays.j2 (k + 1) y0 y1 y2 y3 y4 y5 y6 y7 y8 y9 y10 y11 y12)) ∧ (∀ y0 y1 y2 y3 y4 y5 y6 y7 y8 y9 y10 y11 y12 y13 y14, LeO (milestonelaw14_LinkPlays.l1 k y0 y1 y2 y3 y4 y5 y6 y7 y8 y9 y10 y11 y12 y13 y14) (milestonelaw14_LinkPlays.l1 (k + 1) y0 y1 y2 y3 y4 y5 y6 y7 y8 y9 y10 y11 y12 y13 y14)) ∧ (∀ y0 y1 y2 y3 y4 y5 y6 y7 y8 y9 y10 y11 y12 y13, LeO (milestonelaw14_LinkPlays.j4 k y0 y1 y2 y3 y4 y5 y6 y7 y8 y9 y10 y11 y12 y13) (milestonelaw14_LinkPlays.j4 (k + 1) y0 y1 y2 y3 y4 y5 y6 y7 y8 y9 y10 y11 y12 y13)) ∧ (∀ y0 y1 y2 y3 y4 y5 y6 y7 y8 y9 y10 y11 y12 y13 y14, LeO (milestonelaw14_LinkPlays.l2 k y0 y1 y2 y3 y4 y5 y6 y7 y8 y9 y10 y11 y12 y13 y14) (milestonelaw14_LinkPlays.l2 (k + 1) y0 y1 y2 y3 y4 y5 y6 y7 y8 y9 y10 y11 y12 y13 y14)) ∧ (∀ y0 y1 y2 y3 y4 y5 y6 y7 y8 y9 y10 y11 y12 y13, LeO (milestonelaw14_LinkPlays.l3 k y0 y1 y2 y3 y4 y5 y6 y7 y8 y9 y10 y11 y12 y13) (milestonelaw14_LinkPlays.l3 (k + 1) y0 y1 y2 y3 y4 y5 y6 y7 y8 y9 y10 y11 y12 y13)) ∧ (∀ y0 y1 y2 y3 y4 y5 y6 y7 y8 y9 y10 y11 y12 y13 y14 y15, LeO (milestonelaw14_LinkPlays.l4 k y0 y1 y2 y3 y4 y5 y6 y7 y8 y9 y10 y11 y12 y13 y14 y15) (milestonelaw14_LinkPlays.l4 (k + 1) y0 y1 y2 y3 y4 y5 y6 y7 y8 y9 y10 y11 y12 y13 y14 y15))
  | 0 => ⟨fun _ _ _ r h => by simp [milestonelaw14_LinkPlays.j0] at h, fun _ _ _ _ _ _ _ _ _ _ _ _ _ r h => by simp [milestonelaw14_LinkPlays.l0] at h, fun _ _ _ _ _ _ _ _ _ _ _ _ _ r h => by simp [milestonelaw14_LinkPlays.j8] at h, fun _ _ _ _ _ _ _ _ _ _ _ _ _ _ _ _ r h => by simp [milestonelaw14_LinkPlays.l5] at h, fun _ _ _ _ _ _ _ _ _ _ _ _ _ _ _ _ r h => by simp [milestonelaw14_LinkPlays.j10] at h, fun _ _ _ _ _ _ _ _ _ _ _ _ _ _ _ _ r h => by simp [milestonelaw14_LinkPlays.j11] at h, fun _ _ _ _ _ _ _ _ _ _ _ _ _ r h => by simp [milestonelaw14_LinkPlays.j2] at h, fun _ _ _ _ _ _ _ _ _ _ _ _ _ _ _ r h => by simp [milestonelaw14_LinkPlays.l1] at h, fun _ _ _ _ _ _ _ _ _ _ _ _ _ _ r h => by simp [milestonelaw14_LinkPlays.j4] at h, fun _ _ _ _ _ _ _ _ _ _ _ _ _ _ _ r h => by simp [milestonelaw14_LinkPlays.l2] at h, fun _ _ _ _ _ _ _ _ _ _ _ _ _ _ r h => by simp [milestonelaw14_LinkPlays.l3] at h, fun _ _ _ _ _ _ _ _ _ _ _ _ _ _ _ _ r h => by simp [milestonelaw14_LinkPlays.l4] at h⟩
  | k + 1 => by
    obtain ⟨ih0, ih1, ih2, ih3, ih4, ih5, ih6, ih7, ih8, ih9, ih10, ih11⟩ := milestonelaw14_LinkPlays.mono_l k
    refine ⟨?_, ?_, ?_, ?_, ?_, ?_, ?_, ?_, ?_, ?_, ?_, ?_⟩
    · intro y0 y1 y2
      unfold milestonelaw14_LinkPlays.j0
      repeat' first
      | (with_reducible exact ih0 _ _ _)
      | (with_reducible exact ih1 _ _ _ _ _ _ _ _ _ _ _ _ _)
      | (with_reducible exact ih2 _ _ _ _ _ _ _ _ _ _ _ _ _)
      | (with_reducible exact ih3 _ _ _ _ _ _ _ _ _ _ _ _ _ _ _ _)
      | (with_reducible exact ih4 _ _ _ _ _ _ _ _ _ _ _ _ _ _ _ _)
      | (with_reducible exact ih5 _ _ _ _ _ _ _ _ _ _ _ _ _ _ _ _)
      | (with_reducible exact ih6 _ _ _ _ _ _ _ _ _ _ _ _ _)
      | (with_reducible exact ih7 _ _ _ _ _ _ _ _ _ _ _ _ _ _ _)
      | (with_reducible exact ih8 _ _ _ _ _ _ _ _ _ _ _ _ _ _)
      | (with_reducible exact ih9 _ _ _ _ _ _ _ _ _ _ _ _ _ _ _)
      | (with_reducible exact ih10 _ _ _ _ _ _ _ _ _ _ _ _ _ _)
      | (with_reducible exact ih11 _ _ _ _ _ _ _ _ _ _ _ _ _ _ _ _)
      | (with_reducible exact link_Link_Tick.mono _ _ _ _ _ _ _)
      | (with_reducible exact LeO.refl _)
      | (with_reducible exact LeO.none _)
      | (with_reducible refine LeO.ite ?_ ?_)
      | (with_reducible refine LeO.bind ?_ (fun _ => ?_))
      | exact ih0 _ _ _
      | exact ih1 _ _ _ _ _ _ _ _ _ _ _ _ _
      | exact ih2 _ _ _ _ _ _ _ _ _ _ _ _ _
      | exact ih3 _ _ _ _ _ _ _ _ _ _ _ _ _ _ _ _
      | exact ih4 _ _ _ _ _ _ _ _ _ _ _ _ _ _ _ _
      | exact ih5 _ _ _ _ _ _ _ _ _ _ _ _ _ _ _ _
      | exact ih6 _ _ _ _ _ _ _ _ _ _ _ _ _
      | exact ih7 _ _ _ _ _ _ _ _ _ _ _ _ _ _ _
      | exact ih8 _ _ _ _ _ _ _ _ _ _ _ _ _ _
      | exact ih9 _ _ _ _ _ _ _ _ _ _ _ _ _ _ _
      | exact ih10 _ _ _ _ _ _ _ _ _ _ _ _ _ _
      | exact ih11 _ _ _ _ _ _ _ _ _ _ _ _ _ _ _ _
      | exact link_Link_Tick.mono _ _ _ _ _ _ _
      | exact LeO.none _
      | refine LeO.ite ?_ ?_
      | refine LeO.bind ?_ (fun _ => ?_)
    · intro y0 y1 y2 y3 y4 y5 y6 y7 y8 y9 y10 y11 y12
      unfold milestonelaw14_LinkPlays.l0
      repeat' first
      | (with_reducible exact ih0 _ _ _)
      | (with_reducible exact ih1 _ _ _ _ _ _ _ _ _ _ _ _ _)
      | (with_reducible exact ih2 _ _ _ _ _ _ _ _ _ _ _ _ _)
      | (with_reducible exact ih3 _ _ _ _ _ _ _ _ _ _ _ _ _ _ _ _)
      | (with_reducible exact ih4 _ _ _ _ _ _ _ _ _ _ _ _ _ _ _ _)
      | (with_reducible exact ih5 _ _ _ _ _ _ _ _ _ _ _ _ _ _ _ _)
      | (with_reducible exact ih6 _ _ _ _ _ _ _ _ _ _ _ _ _)
      | (with_reducible exact ih7 _ _ _ _ _ _ _ _ _ _ _ _ _ _ _)
      | (with_reducible exact ih8 _ _ _ _ _ _ _ _ _ _ _ _ _ _)
      | (with_reducible exact ih9 _ _ _ _ _ _ _ _ _ _ _ _ _ _ _)
      | (with_reducible exact ih10 _ _ _ _ _ _ _ _ _ _ _ _ _ _)
      | (with_reducible exact ih11 _ _ _ _ _ _ _ _ _ _ _ _ _ _ _ _)
      | (with_reducible exact link_Link_Tick.mono _ _ _ _ _ _ _)
      | (with_reducible exact LeO.refl _)
      | (with_reducible exact LeO.none _)
      | (with_reducible refine LeO.ite ?_ ?_)
      | (with_reducible refine LeO.bind ?_ (fun _ => ?_))
      | exact ih0 _ _ _
      | exact ih1 _ _ _ _ _ _ _ _ _ _ _ _ _
      | exact ih2 _ _ _ _ _ _ _ _ _ _ _ _ _
      | exact ih3 _ _ _ _ _ _ _ _ _ _ _ _ _ _ _ _
      | exact ih4 _ _ _ _ _ _ _ _ _ _ _ _ _ _ _ _
      | exact ih5 _ _ _ _ _ _ _ _ _ _ _ _ _ _ _ _
      | exact ih6 _ _ _ _ _ _ _ _ _ _ _ _ _
      | exact ih7 _ _ _ _ _ _ _ _ _ _ _ _ _ _ _
      | exact ih8 _ _ _ _ _ _ _ _ _ _ _ _ _ _
      | exact ih9 _ _ _ _ _ _ _ _ _ _ _ _ _ _ _
      | exact ih10 _ _ _ _ _ _ _ _ _ _ _ _ _ _
      | exact ih11 _ _ _ _ _ _ _ _ _ _ _ _ _ _ _ _
      | exact link_Link_Tick.mono _ _ _ _ _ _ _
      | exact LeO.none _
      | refine LeO.ite ?_ ?_
      | refine LeO.bind ?_ (fun _ => ?_)
    · intro y0 y1 y2 y3 y4 y5 y6 y7 y8 y9 y10 y11 y12
      unfold milestonelaw14_LinkPlays.j8
      repeat' first
      | (with_reducible exact ih0 _ _ _)
      | (with_reducible exact ih1 _ _ _ _ _ _ _ _ _ _ _ _ _)
      | (with_reducible exact ih2 _ _ _ _ _ _ _ _ _ _ _ _ _)
      | (with_reducible exact ih3 _ _ _ _ _ _ _ _ _ _ _ _ _ _ _ _)
      | (with_reducible exact ih4 _ _ _ _ _ _ _ _ _ _ _ _ _ _ _ _)
      | (with_reducible exact ih5 _ _ _ _ _ _ _ _ _ _ _ _ _ _ _ _)
      | (with_reducible exact ih6 _ _ _ _ _ _ _ _ _ _ _ _ _)
      | (with_reducible exact ih7 _ _ _ _ _ _ _ _ _ _ _ _ _ _ _)
      | (with_reducible exact ih8 _ _ _ _ _ _ _ _ _ _ _ _ _ _)
      | (with_reducible exact ih9 _ _ _ _ _ _ _ _ _ _ _ _ _ _ _)
      | (with_reducible exact ih10 _ _ _ _ _ _ _ _ _ _ _ _ _ _)
      | (with_reducible exact ih11 _ _ _ _ _ _ _ _ _ _ _ _ _ _ _ _)
      | (with_reducible exact link_Link_Tick.mono _ _ _ _ _ _ _)
      | (with_reducible exact LeO.refl _)
      | (with_reducible exact LeO.none _)
      | (with_reducible refine LeO.ite ?_ ?_)
      | (with_reducible refine LeO.bind ?_ (fun _ => ?_))
      | exact ih0 _ _ _
      | exact ih1 _ _ _ _ _ _ _ _ _ _ _ _ _
      | exact ih2 _ _ _ _ _ _ _ _ _ _ _ _ _
      | exact ih3 _ _ _ _ _ _ _ _ _ _ _ _ _ _ _ _
      | exact ih4 _ _ _ _ _ _ _ _ _ _ _ _ _ _ _ _
      | exact ih5 _ _ _ _ _ _ _ _ _ _ _ _ _ _ _ _
      | exact ih6 _ _ _ _ _ _ _ _ _ _ _ _ _
      | exact ih7 _ _ _ _ _ _ _ _ _ _ _ _ _ _ _
      | exact ih8 _ _ _ _ _ _ _ _ _ _ _ _ _ _
      | exact ih9 _ _ _ _ _ _ _ _ _ _ _ _ _ _ _
      | exact ih10 _ _ _ _ _ _ _ _ _ _ _ _ _ _
      | exact ih11 _ _ _ _ _ _ _ _ _ _ _ _ _ _ _ _
      | exact link_Link_Tick.mono _ _ _ _ _ _ _
      | exact LeO.none _
      | refine LeO.ite ?_ ?_
      | refine LeO.bind ?_ (fun _ => ?_)
    · intro y0 y1 y2 y3 y4 y5 y6 y7 y8 y9 y10 y11 y12 y13 y14 y15
      unfold milestonelaw14_LinkPlays.l5
      repeat' first
      | (with_reducible exact ih0 _ _ _)
      | (with_reducible exact ih1 _ _ _ _ _ _ _ _ _ _ _ _ _)
      | (with_reducible exact ih2 _ _ _ _ _ _ _ _ _ _ _ _ _)
      | (with_reducible exact ih3 _ _ _ _ _ _ _ _ _ _ _ _ _ _ _ _)
      | (with_reducible exact ih4 _ _ _ _ _ _ _ _ _ _ _ _ _ _ _ _)
      | (with_reducible exact ih5 _ _ _ _ _ _ _ _ _ _ _ _ _ _ _ _)
      | (with_reducible exact ih6 _ _ _ _ _ _ _ _ _ _ _ _ _)
      | (with_reducible exact ih7 _ _ _ _ _ _ _ _ _ _ _ _ _ _ _)
      | (with_reducible exact ih8 _ _ _ _ _ _ _ _ _ _ _ _ _ _)
      | (with_reducible exact ih9 _ _ _ _ _ _ _ _ _ _ _ _ _ _ _)
      | (with_reducible exact ih10 _ _ _ _ _ _ _ _ _ _ _ _ _ _)
      | (with_reducible exact ih11 _ _ _ _ _ _ _ _ _ _ _ _ _ _ _ _)
      | (with_reducible exact link_Link_Tick.mono _ _ _ _ _ _ _)
      | (with_reducible exact LeO.refl _)
      | (with_reducible exact LeO.none _)
      | (with_reducible refine LeO.ite ?_ ?_)
      | (with_reducible refine LeO.bind ?_ (fun _ => ?_))
      | exact ih0 _ _ _
      | exact ih1 _ _ _ _ _ _ _ _ _ _ _ _ _
      | exact ih2 _ _ _ _ _ _ _ _ _ _ _ _ _
      | exact ih3 _ _ _ _ _ _ _ _ _ _ _ _ _ _ _ _
      | exact ih4 _ _ _ _ _ _ _ _ _ _ _ _ _ _ _ _
      | exact ih5 _ _ _ _ _ _ _ _ _ _ _ _ _ _ _ _
      | exact ih6 _ _ _ _ _ _ _ _ _ _ _ _ _
      | exact ih7 _ _ _ _ _ _ _ _ _ _ _ _ _ _ _
      | exact ih8 _ _ _ _ _ _ _ _ _ _ _ _ _ _
      | exact ih9 _ _ _ _ _ _ _ _ _ _ _ _ _ _ _
      | exact ih10 _ _ _ _ _ _ _ _ _ _ _ _ _ _
      | exact ih11 _ _ _ _ _ _ _ _ _ _ _ _ _ _ _ _
      | exact link_Link_Tick.mono _ _ _ _ _ _ _
      | exact LeO.none _
      | refine LeO.ite ?_ ?_
      | refine LeO.bind ?_ (fun _ => ?_)
    · intro y0 y1 y2 y3 y4 y5 y6 y7 y8 y9 y10 y11 y12 y13 y14 y15
      unfold milestonelaw14_LinkPlays.j10
      repeat' first
      | (with_reducible exact ih0 _ _ _)
      | (with_reducible exact ih1 _ _ _ _ _ _ _ _ _ _ _ _ _)
      | (with_reducible exact ih2 _ _ _ _ _ _ _ _ _ _ _ _ _)
      | (with_reducible exact ih3 _ _ _ _ _ _ _ _ _ _ _ _ _ _ _ _)
      | (with_reducible exact ih4 _ _ _ _ _ _ _ _ _ _ _ _ _ _ _ _)
      | (with_reducible exact ih5 _ _ _ _ _ _ _ _ _ _ _ _ _ _ _ _)
      | (with_reducible exact ih6 _ _ _ _ _ _ _ _ _ _ _ _ _)
      | (with_reducible exact ih7 _ _ _ _ _ _ _ _ _ _ _ _ _ _ _)
      | (with_reducible exact ih8 _ _ _ _ _ _ _ _ _ _ _ _ _ _)
      | (with_reducible exact ih9 _ _ _ _ _ _ _ _ _ _ _ _ _ _ _)
      | (with_reducible exact ih10 _ _ _ _ _ _ _ _ _ _ _ _ _ _)
      | (with_reducible exact ih11 _ _ _ _ _ _ _ _ _ _ _ _ _ _ _ _)
      | (with_reducible exact link_Link_Tick.mono _ _ _ _ _ _ _)
      | (with_reducible exact LeO.refl _)
      | (with_reducible exact LeO.none _)
      | (with_reducible refine LeO.ite ?_ ?_)
      | (with_reducible refine LeO.bind ?_ (fun _ => ?_))
      | exact ih0 _ _ _
      | exact ih1 _ _ _ _ _ _ _ _ _ _ _ _ _
      | exact ih2 _ _ _ _ _ _ _ _ _ _ _ _ _
      | exact ih3 _ _ _ _ _ _ _ _ _ _ _ _ _ _ _ _
      | exact ih4 _ _ _ _ _ _ _ _ _ _ _ _ _ _ _ _
      | exact ih5 _ _ _ _ _ _ _ _ _ _ _ _ _ _ _ _
      | exact ih6 _ _ _ _ _ _ _ _ _ _ _ _ _
      | exact ih7 _ _ _ _ _ _ _ _ _ _ _ _ _ _ _
      | exact ih8 _ _ _ _ _ _ _ _ _ _ _ _ _ _
      | exact ih9 _ _ _ _ _ _ _ _ _ _ _ _ _ _ _
      | exact ih10 _ _ _ _ _ _ _ _ _ _ _ _ _ _
      | exact ih11 _ _ _ _ _ _ _ _ _ _ _ _ _ _ _ _
      | exact link_Link_Tick.mono _ _ _ _ _ _ _
      | exact LeO.none _
      | refine LeO.ite ?_ ?_
      | refine LeO.bind ?_ (fun _ => ?_)
    · intro y0 y1 y2 y3 y4 y5 y6 y7 y8 y9 y10 y11 y12 y13 y14 y15
      unfold milestonelaw14_LinkPlays.j11
      repeat' first
      | (with_reducible exact ih0 _ _ _)
      | (with_reducible exact ih1 _ _ _ _ _ _ _ _ _ _ _ _ _)
      | (with_reducible exact ih2 _ _ _ _ _ _ _ _ _ _ _ _ _)
      | (with_reducible exact ih3 _ _ _ _ _ _ _ _ _ _ _ _ _ _ _ _)
      | (with_reducible exact ih4 _ _ _ _ _ _ _ _ _ _ _ _ _ _ _ _)
      | (with_reducible exact ih5 _ _ _ _ _ _ _ _ _ _ _ _ _ _ _ _)
      | (with_reducible exact ih6 _ _ _ _ _ _ _ _ _ _ _ _ _)
      | (with_reducible exact ih7 _ _ _ _ _ _ _ _ _ _ _ _ _ _ _)
      | (with_reducible exact ih8 _ _ _ _ _ _ _ _ _ _ _ _ _ _)
      | (with_reducible exact ih9 _ _ _ _ _ _ _ _ _ _ _ _ _ _ _)
      | (with_reducible exact ih10 _ _ _ _ _ _ _ _ _ _ _ _ _ _)
      | (with_reducible exact ih11 _ _ _ _ _ _ _ _ _ _ _ _ _ _ _ _)
      | (with_reducible exact link_Link_Tick.mono _ _ _ _ _ _ _)
      | (with_reducible exact LeO.refl _)
      | (with_reducible exact LeO.none _)
      | (with_reducible refine LeO.ite ?_ ?_)
      | (with_reducible refine LeO.bind ?_ (fun _ => ?_))
      | exact ih0 _ _ _
      | exact ih1 _ _ _ _ _ _ _ _ _ _ _ _ _
      | exact ih2 _ _ _ _ _ _ _ _ _ _ _ _ _
      | exact ih3 _ _ _ _ _ _ _ _ _ _ _ _ _ _ _ _
      | exact ih4 _ _ _ _ _ _ _ _ _ _ _ _ _ _ _ _
      | exact ih5 _ _ _ _ _ _ _ _ _ _ _ _ _ _ _ _
      | exact ih6 _ _ _ _ _ _ _ _ _ _ _ _ _
      | exact ih7 _ _ _ _ _ _ _ _ _ _ _ _ _ _ _
      | exact ih8 _ _ _ _ _ _ _ _ _ _ _ _ _ _
      | exact ih9 _ _ _ _ _ _ _ _ _ _ _ _ _ _ _
      | exact ih10 _ _ _ _ _ _ _ _ _ _ _ _ _ _
      | exact ih11 _ _ _ _ _ _ _ _ _ _ _ _ _ _ _ _
      | exact link_Link_Tick.mono _ _ _ _ _ _ _
      | exact LeO.none _
      | refine LeO.ite ?_ ?_
      | refine LeO.bind ?_ (fun _ => ?_)
    · intro y0 y1 y2 y3 y4 y5 y6 y7 y8 y9 y10 y11 y12
      unfold milestonelaw14_LinkPlays.j2
      repeat' first
      | (with_reducible exact ih0 _ _ _)
      | (with_reducible exact ih1 _ _ _ _ _ _ _ _ _ _ _ _ _)
      | (with_reducible exact ih2 _ _ _ _ _ _ _ _ _ _ _ _ _)
      | (with_reducible exact ih3 _ _ _ _ _ _ _ _ _ _ _ _ _ _ _ _)
      | (with_reducible exact ih4 _ _ _ _ _ _ _ _ _ _ _ _ _ _ _ _)
      | (with_reducible exact ih5 _ _ _ _ _ _ _ _ _ _ _ _ _ _ _ _)
      | (with_reducible exact ih6 _ _ _ _ _ _ _ _ _ _ _ _ _)
      | (with_reducible exact ih7 _ _ _ _ _ _ _ _ _ _ _ _ _ _ _)
      | (with_reducible exact ih8 _ _ _ _ _ _ _ _ _ _ _ _ _ _)
      | (with_reducible exact ih9 _ _ _ _ _ _ _ _ _ _ _ _ _ _ _)
      | (with_reducible exact ih10 _ _ _ _ _ _ _ _ _ _ _ _ _ _)
      | (with_reducible exact ih11 _ _ _ _ _ _ _ _ _ _ _ _ _ _ _ _)
      | (with_reducible exact link_Link_Tick.mono _ _ _ _ _ _ _)
      | (with_reducible exact LeO.refl _)
      | (with_reducible exact LeO.none _)
      | (with_reducible refine LeO.ite ?_ ?_)
      | (with_reducible refine LeO.bind ?_ (fun _ => ?_))
      | exact ih0 _ _ _
      | exact ih1 _ _ _ _ _ _ _ _ _ _ _ _ _
      | exact ih2 _ _ _ _ _ _ _ _ _ _ _ _ _
      | exact ih3 _ _ _ _ _ _ _ _ _ _ _ _ _ _ _ _
      | exact ih4 _ _ _ _ _ _ _ _ _ _ _ _ _ _ _ _
      | exact ih5 _ _ _ _ _ _ _ _ _ _ _ _ _ _ _ _
      | exact ih6 _ _ _ _ _ _ _ _ _ _ _ _ _
      | exact ih7 _ _ _ _ _ _ _ _ _ _ _ _ _ _ _
      | exact ih8 _ _ _ _ _ _ _ _ _ _ _ _ _ _
      | exact ih9 _ _ _ _ _ _ _ _ _ _ _ _ _ _ _
      | exact ih10 _ _ _ _ _ _ _ _ _ _ _ _ _ _
      | exact ih11 _ _ _ _ _ _ _ _ _ _ _ _ _ _ _ _
      | exact link_Link_Tick.mono _ _ _ _ _ _ _
      | exact LeO.none _
      | refine LeO.ite ?_ ?_
      | refine LeO.bind ?_ (fun _ => ?_)
    · intro y0 y1 y2 y3 y4 y5 y6 y7 y8 y9 y10 y11 y12 y13 y14
      unfold milestonelaw14_LinkPlays.l1
      repeat' first
      | (with_reducible exact ih0 _ _ _)
      | (with_reducible exact ih1 _ _ _ _ _ _ _ _ _ _ _ _ _)
      | (with_reducible exact ih2 _ _ _ _ _ _ _ _ _ _ _ _ _)
      | (with_reducible exact ih3 _ _ _ _ _ _ _ _ _ _ _ _ _ _ _ _)
      | (with_reducible exact ih4 _ _ _ _ _ _ _ _ _ _ _ _ _ _ _ _)
      | (with_reducible exact ih5 _ _ _ _ _ _ _ _ _ _ _ _ _ _ _ _)
      | (with_reducible exact ih6 _ _ _ _ _ _ _ _ _ _ _ _ _)
      | (with_reducible exact ih7 _ _ _ _ _ _ _ _ _ _ _ _ _ _ _)
      | (with_reducible exact ih8 _ _ _ _ _ _ _ _ _ _ _ _ _ _)
      | (with_reducible exact ih9 _ _ _ _ _ _ _ _ _ _ _ _ _ _ _)
      | (with_reducible exact ih10 _ _ _ _ _ _ _ _ _ _ _ _ _ _)
      | (with_reducible exact ih11 _ _ _ _ _ _ _ _ _ _ _ _ _ _ _ _)
      | (with_reducible exact link_Link_Tick.mono _ _ _ _ _ _ _)
      | (with_reducible exact LeO.refl _)
      | (with_reducible exact LeO.none _)
      | (with_reducible refine LeO.ite ?_ ?_)
      | (with_reducible refine LeO.bind ?_ (fun _ => ?_))
      | exact ih0 _ _ _
      | exact ih1 _ _ _ _ _ _ _ _ _ _ _ _ _
      | exact ih2 _ _ _ _ _ _ _ _ _ _ _ _ _
      | exact ih3 _ _ _ _ _ _ _ _ _ _ _ _ _ _ _ _
      | exact ih4 _ _ _ _ _ _ _ _ _ _ _ _ _ _ _ _
      | exact ih5 _ _ _ _ _ _ _ _ _ _ _ _ _ _ _ _
      | exact ih6 _ _ _ _ _ _ _ _ _ _ _ _ _
      | exact ih7 _ _ _ _ _ _ _ _ _ _ _ _ _ _ _
      | exact ih8 _ _ _ _ _ _ _ _ _ _ _ _ _ _
      | exact ih9 _ _ _ _ _ _ _ _ _ _ _ _ _ _ _
      | exact ih10 _ _ _ _ _ _ _ _ _ _ _ _ _ _
      | exact ih11 _ _ _ _ _ _ _ _ _ _ _ _ _ _ _ _
      | exact link_Link_Tick.mono _ _ _ _ _ _ _
      | exact LeO.none _
      | refine LeO.ite ?_ ?_
      | refine LeO.bind ?_ (fun _ => ?_)
    · intro y0 y1 y2 y3 y4 y5 y6 y7 y8 y9 y10 y11 y12 y13
      unfold milestonelaw14_LinkPlays.j4
      repeat' first
      | (with_reducible exact ih0 _ _ _)
      | (with_reducible exact ih1 _ _ _ _ _ _ _ _ _ _ _ _ _)
      | (with_reducible exact ih2 _ _ _ _ _ _ _ _ _ _ _ _ _)
      | (with_reducible exact ih3 _ _ _ _ _ _ _ _ _ _ _ _ _ _ _ _)
      | (with_reducible exact ih4 _ _ _ _ _ _ _ _ _ _ _ _ _ _ _ _)
      | (with_reducible exact ih5 _ _ _ _ _ _ _ _ _ _ _ _ _ _ _ _)
      | (with_reducible exact ih6 _ _ _ _ _ _ _ _ _ _ _ _ _)
      | (with_reducible exact ih7 _ _ _ _ _ _ _ _ _ _ _ _ _ _ _)
      | (with_reducible exact ih8 _ _ _ _ _ _ _ _ _ _ _ _ _ _)
      | (with_reducible exact ih9 _ _ _ _ _ _ _ _ _ _ _ _ _ _ _)
      | (with_reducible exact ih10 _ _ _ _ _ _ _ _ _ _ _ _ _ _)
      | (with_reducible exact ih11 _ _ _ _ _ _ _ _ _ _ _ _ _ _ _ _)
      | (with_reducible exact link_Link_Tick.mono _ _ _ _ _ _ _)
      | (with_reducible exact LeO.refl _)
      | (with_reducible exact LeO.none _)
      | (with_reducible refine LeO.ite ?_ ?_)
      | (with_reducible refine LeO.bind ?_ (fun _ => ?_))
      | exact ih0 _ _ _
      | exact ih1 _ _ _ _ _ _ _ _ _ _ _ _ _
      | exact ih2 _ _ _ _ _ _ _ _ _ _ _ _ _
      | exact ih3 _ _ _ _ _ _ _ _ _ _ _ _ _ _ _ _
      | exact ih4 _ _ _ _ _ _ _ _ _ _ _ _ _ _ _ _
      | exact ih5 _ _ _ _ _ _ _ _ _ _ _ _ _ _ _ _
      | exact ih6 _ _ _ _ _ _ _ _ _ _ _ _ _
      | exact ih7 _ _ _ _ _ _ _ _ _ _ _ _ _ _ _
      | exact ih8 _ _ _ _ _ _ _ _ _ _ _ _ _ _
      | exact ih9 _ _ _ _ _ _ _ _ _ _ _ _ _ _ _
      | exact ih10 _ _ _ _ _ _ _ _ _ _ _ _ _ _
      | exact ih11 _ _ _ _ _ _ _ _ _ _ _ _ _ _ _ _
      | exact link_Link_Tick.mono _ _ _ _ _ _ _
      | exact LeO.none _
      | refine LeO.ite ?_ ?_
      | refine LeO.bind ?_ (fun _ => ?_)
    · intro y0 y1 y2 y3 y4 y5 y6 y7 y8 y9 y10 y11 y12 y13 y14
      unfold milestonelaw14_LinkPlays.l2
      repeat' first
      | (with_reducible exact ih0 _ _ _)
      | (with_reducible exact ih1 _ _ _ _ _ _ _ _ _ _ _ _ _)
      | (with_reducible exact ih2 _ _ _ _ _ _ _ _ _ _ _ _ _)
      | (with_reducible exact ih3 _ _ _ _ _ _ _ _ _ _ _ _ _ _ _ _)
      | (with_reducible exact ih4 _ _ _ _ _ _ _ _ _ _ _ _ _ _ _ _)
      | (with_reducible exact ih5 _ _ _ _ _ _ _ _ _ _ _ _ _ _ _ _)
      | (with_reducible exact ih6 _ _ _ _ _ _ _ _ _ _ _ _ _)
      | (with_reducible exact ih7 _ _ _ _ _ _ _ _ _ _ _ _ _ _ _)
      | (with_reducible exact ih8 _ _ _ _ _ _ _ _ _ _ _ _ _ _)
      | (with_reducible exact ih9 _ _ _ _ _ _ _ _ _ _ _ _ _ _ _)
      | (with_reducible exact ih10 _ _ _ _ _ _ _ _ _ _ _ _ _ _)
      | (with_reducible exact ih11 _ _ _ _ _ _ _ _ _ _ _ _ _ _ _ _)
      | (with_reducible exact link_Link_Tick.mono _ _ _ _ _ _ _)
      | (with_reducible exact LeO.refl _)
      | (with_reducible exact LeO.none _)
      | (with_reducible refine LeO.ite ?_ ?_)
      | (with_reducible refine LeO.bind ?_ (fun _ => ?_))
      | exact ih0 _ _ _
      | exact ih1 _ _ _ _ _ _ _ _ _ _ _ _ _
      | exact ih2 _ _ _ _ _ _ _ _ _ _ _ _ _
      | exact ih3 _ _ _ _ _ _ _ _ _ _ _ _ _ _ _ _
      | exact ih4 _ _ _ _ _ _ _ _ _ _ _ _ _ _ _ _
      | exact ih5 _ _ _ _ _ _ _ _ _ _ _ _ _ _ _ _
      | exact ih6 _ _ _ _ _ _ _ _ _ _ _ _ _
      | exact ih7 _ _ _ _ _ _ _ _ _ _ _ _ _ _ _
      | exact ih8 _ _ _ _ _ _ _ _ _ _ _ _ _ _
      | exact ih9 _ _ _ _ _ _ _ _ _ _ _ _ _ _ _
      | exact ih10 _ _ _ _ _ _ _ _ _ _ _ _ _ _
      | exact ih11 _ _ _ _ _ _ _ _ _ _ _ _ _ _ _ _
      | exact link_Link_Tick.mono _ _ _ _ _ _ _
      | exact LeO.none _
      | refine LeO.ite ?_ ?_
      | refine LeO.bind ?_ (fun _ => ?_)
    · intro y0 y1 y2 y3 y4 y5 y6 y7 y8 y9 y10 y11 y12 y13
      unfold milestonelaw14_LinkPlays.l3
      repeat' first
      | (with_reducible exact ih0 _ _ _)
      | (with_reducible exact ih1 _ _ _ _ _ _ _ _ _ _ _ _ _)
      | (with_reducible exact ih2 _ _ _ _ _ _ _ _ _ _ _ _ _)
      | (with_reducible exact ih3 _ _ _ _ _ _ _ _ _ _ _ _ _ _ _ _)
      | (with_reducible exact ih4 _ _ _ _ _ _ _ _ _ _ _ _ _ _ _ _)
      | (with_reducible exact ih5 _ _ _ _ _ _ _ _ _ _ _ _ _ _ _ _)
      | (with_reducible exact ih6 _ _ _ _ _ _ _ _ _ _ _ _ _)
      | (with_reducible exact ih7 _ _ _ _ _ _ _ _ _ _ _ _ _ _ _)
      | (with_reducible exact ih8 _ _ _ _ _ _ _ _ _ _ _ _ _ _)
      | (with_reducible exact ih9 _ _ _ _ _ _ _ _ _ _ _ _ _ _ _)
      | (with_reducible exact ih10 _ _ _ _ _ _ _ _ _ _ _ _ _ _)
      | (with_reducible exact ih11 _ _ _ _ _ _ _ _ _ _ _ _ _ _ _ _)
      | (with_reducible exact link_Link_Tick.mono _ _ _ _ _ _ _)
      | (with_reducible exact LeO.refl _)
      | (with_reducible exact LeO.none _)
      | (with_reducible refine LeO.ite ?_ ?_)
      | (with_reducible refine LeO.bind ?_ (fun _ => ?_))
      | exact ih0 _ _ _
      | exact ih1 _ _ _ _ _ _ _ _ _ _ _ _ _
      | exact ih2 _ _ _ _ _ _ _ _ _ _ _ _ _
      | exact ih3 _ _ _ _ _ _ _ _ _ _ _ _ _ _ _ _
      | exact ih4 _ _ _ _ _ _ _ _ _ _ _ _ _ _ _ _
      | exact ih5 _ _ _ _ _ _ _ _ _ _ _ _ _ _ _ _
      | exact ih6 _ _ _ _ _ _ _ _ _ _ _ _ _
      | exact ih7 _ _ _ _ _ _ _ _ _ _ _ _ _ _ _
      | exact ih8 _ _ _ _ _ _ _ _ _ _ _ _ _ _
      | exact ih9 _ _ _ _ _ _ _ _ _ _ _ _ _ _ _
      | exact ih10 _ _ _ _ _ _ _ _ _ _ _ _ _ _
      | exact ih11 _ _ _ _ _ _ _ _ _ _ _ _ _ _ _ _
      | exact link_Link_Tick.mono _ _ _ _ _ _ _
      | exact LeO.none _
      | refine LeO.ite ?_ ?_
      | refine LeO.bind ?_ (fun _ => ?_)
    · intro y0 y1 y2 y3 y4 y5 y6 y7 y8 y9 y10 y11 y12 y13 y14 y15
      unfold milestonelaw14_LinkPlays.l4
      repeat' first
      | (with_reducible exact ih0 _ _ _)
      | (with_reducible exact ih1 _ _ _ _ _ _ _ _ _ _ _ _ _)
      | (with_reducible exact ih2 _ _ _ _ _ _ _ _ _ _ _ _ _)
      | (with_reducible exact ih3 _ _ _ _ _ _ _ _ _ _ _ _ _ _ _ _)
      | (with_reducible exact ih4 _ _ _ _ _ _ _ _ _ _ _ _ _ _ _ _)
      | (with_reducible exact ih5 _ _ _ _ _ _ _ _ _ _ _ _ _ _ _ _)
      | (with_reducible exact ih6 _ _ _ _ _ _ _ _ _ _ _ _ _)
      | (with_reducible exact ih7 _ _ _ _ _ _ _ _ _ _ _ _ _ _ _)
      | (with_reducible exact ih8 _ _ _ _ _ _ _ _ _ _ _ _ _ _)
      | (with_reducible exact ih9 _ _ _ _ _ _ _ _ _ _ _ _ _ _ _)
      | (with_reducible exact ih10 _ _ _ _ _ _ _ _ _ _ _ _ _ _)
      | (with_reducible exact ih11 _ _ _ _ _ _ _ _ _ _ _ _ _ _ _ _)
      | (with_reducible exact link_Link_Tick.mono _ _ _ _ _ _ _)
      | (with_reducible exact LeO.refl _)
      | (with_reducible exact LeO.none _)
      | (with_reducible refine LeO.ite ?_ ?_)
      | (with_reducible refine LeO.bind ?_ (fun _ => ?_))
      | exact ih0 _ _ _
      | exact ih1 _ _ _ _ _ _ _ _ _ _ _ _ _
      | exact ih2 _ _ _ _ _ _ _ _ _ _ _ _ _
      | exact ih3 _ _ _ _ _ _ _ _ _ _ _ _ _ _ _ _
      | exact ih4 _ _ _ _ _ _ _ _ _ _ _ _ _ _ _ _
      | exact ih5 _ _ _ _ _ _ _ _ _ _ _ _ _ _ _ _
      | exact ih6 _ _ _ _ _ _ _ _ _ _ _ _ _
      | exact ih7 _ _ _ _ _ _ _ _ _ _ _ _ _ _ _
      | exact ih8 _ _ _ _ _ _ _ _ _ _ _ _ _ _
      | exact ih9 _ _ _ _ _ _ _ _ _ _ _ _ _ _ _
      | exact ih10 _ _ _ _ _ _ _ _ _ _ _ _ _ _
      | exact ih11 _ _ _ _ _ _ _ _ _ _ _ _ _ _ _ _
      | exact link_Link_Tick.mono _ _ _ _ _ _ _
      | exact LeO.none _
      | refine LeO.ite ?_ ?_
      | refine LeO.bind ?_ (fun _ => ?_)
theorem milestonelaw14_LinkPlays.mono : ∀ a0 a1 k, LeO (milestonelaw14_LinkPlays.f k a0 a1) (milestonelaw14_LinkPlays.f (k + 1) a0 a1) := by
  intro a0 a1 k
  obtain ⟨ih0, ih1, ih2, ih3, ih4, ih5, ih6, ih7, ih8, ih9, ih10, ih11⟩ := milestonelaw14_LinkPlays.mono_l k
  unfold milestonelaw14_LinkPlays.f
  repeat' first
      | (with_reducible exact ih0 _ _ _)
      | (with_reducible exact ih1 _ _ _ _ _ _ _ _ _ _ _ _ _)
      | (with_reducible exact ih2 _ _ _ _ _ _ _ _ _ _ _ _ _)
      | (with_reducible exact ih3 _ _ _ _ _ _ _ _ _ _ _ _ _ _ _ _)
      | (with_reducible exact ih4 _ _ _ _ _ _ _ _ _ _ _ _ _ _ _ _)
      | (with_reducible exact ih5 _ _ _ _ _ _ _ _ _ _ _ _ _ _ _ _)
      | (with_reducible exact ih6 _ _ _ _ _ _ _ _ _ _ _ _ _)
      | (with_reducible exact ih7 _ _ _ _ _ _ _ _ _ _ _ _ _ _ _)
      | (with_reducible exact ih8 _ _ _ _ _ _ _ _ _ _ _ _ _ _)
      | (with_reducible exact ih9 _ _ _ _ _ _ _ _ _ _ _ _ _ _ _)
      | (with_reducible exact ih10 _ _ _ _ _ _ _ _ _ _ _ _ _ _)
      | (with_reducible exact ih11 _ _ _ _ _ _ _ _ _ _ _ _ _ _ _ _)
      | (with_reducible exact link_Link_Tick.mono _ _ _ _ _ _ _)
      | (with_reducible exact LeO.refl _)
      | (with_reducible exact LeO.none _)
      | (with_reducible refine LeO.ite ?_ ?_)
      | (with_reducible refine LeO.bind ?_ (fun _ => ?_))
      | exact ih0 _ _ _
      | exact ih1 _ _ _ _ _ _ _ _ _ _ _ _ _
      | exact ih2 _ _ _ _ _ _ _ _ _ _ _ _ _
      | exact ih3 _ _ _ _ _ _ _ _ _ _ _ _ _ _ _ _
      | exact ih4 _ _ _ _ _ _ _ _ _ _ _ _ _ _ _ _
      | exact ih5 _ _ _ _ _ _ _ _ _ _ _ _ _ _ _ _
      | exact ih6 _ _ _ _ _ _ _ _ _ _ _ _ _
      | exact ih7 _ _ _ _ _ _ _ _ _ _ _ _ _ _ _
      | exact ih8 _ _ _ _ _ _ _ _ _ _ _ _ _ _
      | exact ih9 _ _ _ _ _ _ _ _ _ _ _ _ _ _ _
      | exact ih10 _ _ _ _ _ _ _ _ _ _ _ _ _ _
      | exact ih11 _ _ _ _ _ _ _ _ _ _ _ _ _ _ _ _
      | exact link_Link_Tick.mono _ _ _ _ _ _ _
      | exact LeO.none _
      | refine LeO.ite ?_ ?_
      | refine LeO.bind ?_ (fun _ => ?_)

end Go.Proofs.Ytkdjpkgaknfdeaa.QLinkPlays
