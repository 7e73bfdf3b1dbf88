/- what is like the change ahead takes few bytes: the same prefix, one tick later, a few bytes.
For every input; no condition is added to the given statement. -/
import Derived.Test.YtllcighpfikpkaaQChangeShortx3
import Derived.Laws.BitsAllLaws
import Derived.OpenShut
import Derived.Lib.Bytes
namespace Go.Proofs.Ytllcighpfikpkaa.Pure
open Go.RowKit Go.Proofs.Ytllcighpfikpkaa.QChangeShort Go.Proofs.YtllcighpfikpkaaW.PrintWords Go.Proofs.YtllcighpfikpkaaW.PrintLast Go.Proofs.YtllcighpfikpkaaW.PrintMore
set_option linter.unusedSimpArgs false
set_option linter.unusedVariables false

/-! ## only what differs counts -/
theorem enc_l1 (k : Nat) : ∀ (x5 : List Int) (x9 n0 t0 : Int) (g0 : Bool) (a0 b0 n1 t1 : Int) (g1 : Bool) (a1 b1 v m s : Int),
    change_Encode.l1 k x5 x9 n0 t0 g0 a0 b0 v m s n1 t1 g1 a1 b1 v m s = change_Encode.l1 k x5 x9 n0 t0 g0 a0 b0 0 0 0 n1 t1 g1 a1 b1 0 0 0 := by
  induction k with
  | zero => intros; rfl
  | succ k ih =>
    intro x5 x9 n0 t0 g0 a0 b0 n1 t1 g1 a1 b1 v m s
    rw [change_Encode.l1, change_Encode.l1]
    simp only [Int.sub_self, ih _ _ n0 t0 g0 a0 b0 n1 t1 g1 a1 b1 v m s]
theorem enc_j1 (k : Nat) (x5 : List Int) (x9 n0 t0 : Int) (g0 : Bool) (a0 b0 n1 t1 : Int) (g1 : Bool) (a1 b1 v m s : Int) :
    change_Encode.j1 k x5 x9 n0 t0 g0 a0 b0 v m s n1 t1 g1 a1 b1 v m s = change_Encode.j1 k x5 x9 n0 t0 g0 a0 b0 0 0 0 n1 t1 g1 a1 b1 0 0 0 := by
  cases k with
  | zero => rfl
  | succ k =>
    rw [change_Encode.j1, change_Encode.j1]
    have e : ∀ x8, change_Encode.j2 k x5 x9 x8 n0 t0 g0 a0 b0 v m s n1 t1 g1 a1 b1 v m s = change_Encode.j2 k x5 x9 x8 n0 t0 g0 a0 b0 0 0 0 n1 t1 g1 a1 b1 0 0 0 := by
      intro x8
      cases k with
      | zero => rfl
      | succ k =>
        rw [change_Encode.j2, change_Encode.j2]
        simp only [enc_l1 k _ _ n0 t0 g0 a0 b0 n1 t1 g1 a1 b1 v m s]
    simp only [e]
theorem enc_l0 (k : Nat) : ∀ (x5 : List Int) (x9 x7 n0 t0 : Int) (g0 : Bool) (a0 b0 n1 t1 : Int) (g1 : Bool) (a1 b1 v m s : Int),
    change_Encode.l0 k x5 x9 x7 n0 t0 g0 a0 b0 v m s n1 t1 g1 a1 b1 v m s = change_Encode.l0 k x5 x9 x7 n0 t0 g0 a0 b0 0 0 0 n1 t1 g1 a1 b1 0 0 0 := by
  induction k with
  | zero => intros; rfl
  | succ k ih =>
    intro x5 x9 x7 n0 t0 g0 a0 b0 n1 t1 g1 a1 b1 v m s
    rw [change_Encode.l0, change_Encode.l0]
    simp only [ih _ _ _ n0 t0 g0 a0 b0 n1 t1 g1 a1 b1 v m s, enc_j1 k _ _ n0 t0 g0 a0 b0 n1 t1 g1 a1 b1 v m s]
theorem enc_same (k : Nat) (n0 t0 : Int) (g0 : Bool) (a0 b0 n1 t1 : Int) (g1 : Bool) (a1 b1 v m s : Int) :
    change_Encode.f k n0 t0 g0 a0 b0 v m s n1 t1 g1 a1 b1 v m s = change_Encode.f k n0 t0 g0 a0 b0 0 0 0 n1 t1 g1 a1 b1 0 0 0 := by
  unfold change_Encode.f
  simp only [enc_l0 k _ _ _ n0 t0 g0 a0 b0 n1 t1 g1 a1 b1 v m s]
/-- of a change that goes nothing of what it held counts -/
theorem gone_l1 (k : Nat) : ∀ (x5 : List Int) (x9 n0 t0 : Int) (g0 : Bool) (a0 b0 n1 t1 : Int) (a1 b1 v m s : Int),
    change_Encode.l1 k x5 x9 n0 t0 g0 a0 b0 v m s n1 t1 true a1 b1 0 0 0 = change_Encode.l1 k x5 x9 n0 t0 g0 a0 b0 0 0 0 n1 t1 true a1 b1 0 0 0 := by
  induction k with
  | zero => intros; rfl
  | succ k ih =>
    intro x5 x9 n0 t0 g0 a0 b0 n1 t1 a1 b1 v m s
    rw [change_Encode.l1, change_Encode.l1]
    simp only [if_true, ih _ _ n0 t0 g0 a0 b0 n1 t1 a1 b1 v m s]
theorem gone_j1 (k : Nat) (x5 : List Int) (x9 n0 t0 : Int) (g0 : Bool) (a0 b0 n1 t1 : Int) (a1 b1 v m s : Int) :
    change_Encode.j1 k x5 x9 n0 t0 g0 a0 b0 v m s n1 t1 true a1 b1 0 0 0 = change_Encode.j1 k x5 x9 n0 t0 g0 a0 b0 0 0 0 n1 t1 true a1 b1 0 0 0 := by
  cases k with
  | zero => rfl
  | succ k =>
    rw [change_Encode.j1, change_Encode.j1]
    have e : ∀ x8, change_Encode.j2 k x5 x9 x8 n0 t0 g0 a0 b0 v m s n1 t1 true a1 b1 0 0 0 = change_Encode.j2 k x5 x9 x8 n0 t0 g0 a0 b0 0 0 0 n1 t1 true a1 b1 0 0 0 := by
      intro x8
      cases k with
      | zero => rfl
      | succ k =>
        rw [change_Encode.j2, change_Encode.j2]
        simp only [gone_l1 k _ _ n0 t0 g0 a0 b0 n1 t1 a1 b1 v m s]
    simp only [e]
theorem gone_l0 (k : Nat) : ∀ (x5 : List Int) (x9 x7 n0 t0 : Int) (g0 : Bool) (a0 b0 n1 t1 : Int) (a1 b1 v m s : Int),
    change_Encode.l0 k x5 x9 x7 n0 t0 g0 a0 b0 v m s n1 t1 true a1 b1 0 0 0 = change_Encode.l0 k x5 x9 x7 n0 t0 g0 a0 b0 0 0 0 n1 t1 true a1 b1 0 0 0 := by
  induction k with
  | zero => intros; rfl
  | succ k ih =>
    intro x5 x9 x7 n0 t0 g0 a0 b0 n1 t1 a1 b1 v m s
    rw [change_Encode.l0, change_Encode.l0]
    simp only [ih _ _ _ n0 t0 g0 a0 b0 n1 t1 a1 b1 v m s, gone_j1 k _ _ n0 t0 g0 a0 b0 n1 t1 a1 b1 v m s]
theorem gone_same (k : Nat) (n0 t0 : Int) (g0 : Bool) (a0 b0 n1 t1 : Int) (a1 b1 v m s : Int) :
    change_Encode.f k n0 t0 g0 a0 b0 v m s n1 t1 true a1 b1 0 0 0 = change_Encode.f k n0 t0 g0 a0 b0 0 0 0 n1 t1 true a1 b1 0 0 0 := by
  unfold change_Encode.f
  simp only [gone_l0 k _ _ _ n0 t0 g0 a0 b0 n1 t1 a1 b1 v m s]
def shortOf (p : Nat) : Option Bool := (milestoneref07_Prefix.f 40 (p : Int)).bind fun x =>
  (change_Encode.f 40 1 5 false x.1 x.2 0 0 0 2 6 false x.1 x.2 0 0 0).bind fun a =>
  (change_Encode.f 40 1 5 false x.1 x.2 0 0 0 2 5 true x.1 x.2 0 0 0).bind fun b => some (decide ((a.length : Int) ≤ 6) && decide ((b.length : Int) ≤ 3))
theorem short_is : ∀ p, p < 18 → shortOf p = some true := by decide +kernel
theorem prefix18 (k p : Nat) (hp : p < 256) : milestoneref07_Prefix.f k (p : Int) = milestoneref07_Prefix.f k ((p % 18 : Nat) : Int) := by
  unfold milestoneref07_Prefix.f
  have t3 : ∀ q : Nat, Int.tmod (q : Int) 3 = ((q % 3 : Nat) : Int) := fun _ => rfl
  have d3 : ∀ q : Nat, Int.tdiv (q : Int) 3 = ((q / 3 : Nat) : Int) := fun _ => rfl
  have d6 : ∀ q : Nat, Int.tdiv (q : Int) 6 = ((q / 6 : Nat) : Int) := fun _ => rfl
  rw [t3, t3, d3, d3, d6, d6]
  have e1 : (p % 18 : Nat) % 3 = p % 3 := by omega
  have e2 : (((p % 18 / 3 : Nat) : Int)) % 2 = ((p / 3 : Nat) : Int) % 2 := by omega
  have e3 : (((p % 18 / 6 : Nat) : Int)) % 256 % 3 = ((p / 6 : Nat) : Int) % 256 % 3 := by omega
  rw [e1, e2, e3]
theorem awake_is : milestonelaw07_awake.f 40 = some true := by decide +kernel
theorem ChangeShort : milestonelaw07_ChangeShort.Pure := by
  intro a0 a1 a2 a3 h0 h1 h2 h3
  have hlo : 0 ≤ a0 ∧ a0 < 256 := by simp [Lit.wf, IntKind.signed, IntKind.bits, IntKind.min, IntKind.max] at h0; omega
  obtain ⟨p, rfl⟩ : ∃ p : Nat, a0 = (p : Int) := ⟨a0.toNat, by omega⟩
  refine ⟨40, ?_⟩
  have hs := short_is (p % 18) (Nat.mod_lt _ (by omega))
  unfold milestonelaw07_ChangeShort.f
  unfold shortOf at hs
  rw [prefix18 40 p (by omega)]
  cases hx : milestoneref07_Prefix.f 40 ((p % 18 : Nat) : Int) with
  | none => rw [hx] at hs; cases hs
  | some x =>
    rw [hx, Option.bind_some] at hs
    rw [Option.bind_some, awake_is, Option.bind_some, if_pos rfl, enc_same, gone_same]
    cases ha : change_Encode.f 40 1 5 false x.1 x.2 0 0 0 2 6 false x.1 x.2 0 0 0 with
    | none => rw [ha] at hs; cases hs
    | some a =>
      rw [ha, Option.bind_some] at hs
      cases hb : change_Encode.f 40 1 5 false x.1 x.2 0 0 0 2 5 true x.1 x.2 0 0 0 with
      | none => rw [hb] at hs; cases hs
      | some b =>
        rw [hb, Option.bind_some, Option.some.injEq, Bool.and_eq_true] at hs
        rw [Option.bind_some, if_pos (of_decide_eq_true hs.1), Option.bind_some, hs.2]

end Go.Proofs.Ytllcighpfikpkaa.Pure
