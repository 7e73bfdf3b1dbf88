/- What is not feasible is not later either, whatever is lowered, where serials lie close together.
For every input; no condition is added to the given statement. -/
import Derived.Test.YtkngncckidlniaaQSourceSinksx5
import Derived.Laws.BitsAllLaws
import Derived.OpenShut
import Derived.Lib.Bytes
namespace Go.Proofs.Ytkngncckidlniaa.Pure
open Go.RowKit Go.Proofs.Ytkngncckidlniaa.QSourceSinks Go.Proofs.YtkngncckidlniaaW.PrintWords Go.Proofs.YtkngncckidlniaaW.PrintLast Go.Proofs.YtkngncckidlniaaW.PrintMore
set_option linter.unusedSimpArgs false
set_option linter.unusedVariables false

/-! ## prefixes of acts, serials of acts -/
theorem t3 (q : Nat) : Int.tmod (q : Int) 3 = ((q % 3 : Nat) : Int) := rfl
theorem d3 (q : Nat) : Int.tdiv (q : Int) 3 = ((q / 3 : Nat) : Int) := rfl
theorem d6 (q : Nat) : Int.tdiv (q : Int) 6 = ((q / 6 : Nat) : Int) := rfl
theorem prefix18 (k p : Nat) (hp : p < 256) : milestoneref07_Prefix.f k (p : Int) = milestoneref07_Prefix.f k ((p % 18 : Nat) : Int) := by
  unfold milestoneref07_Prefix.f
  rw [t3, t3, d3, d3, d6, d6]
  have e1 : (p % 18 : Nat) % 3 = p % 3 := by omega
  have e2 : (((p % 18 / 3 : Nat) : Int)) % 2 = ((p / 3 : Nat) : Int) % 2 := by omega
  have e3 : (((p % 18 / 6 : Nat) : Int)) % 256 % 3 = ((p / 6 : Nat) : Int) % 256 % 3 := by omega
  rw [e1, e2, e3]
theorem u8of (x : Int) (h : (Lit.int .u8 x).wf = true) : ∃ p : Nat, p < 256 ∧ x = (p : Int) := by
  simp [Lit.wf, IntKind.signed, IntKind.bits, IntKind.min, IntKind.max] at h
  exact ⟨x.toNat, by omega, by omega⟩
def prefOk (p : Nat) : Bool := match milestoneref07_Prefix.f 40 (p : Int) with
  | some (a, n) => decide (prefix_Right.f a n = some true) && decide (prefix_Compare.f 40 a n a n = some 0)
  | none => false
theorem pref_all : ((List.range 18).all prefOk) = true := by decide +kernel
def ser (n : Nat) : Int := ((n : Int) + 65532) % 65536
theorem newer_ser : ∀ i, i < 9 → ∀ j, j < 9 → serial_Newer.f (ser i) (ser j) = some (decide (j < i)) := by decide +kernel
theorem ser_inj : ∀ i, i < 9 → ∀ j, j < 9 → ser i = ser j → i = j := by decide +kernel
theorem nearer_ser (i j : Nat) (hi : i < 9) (hj : j < 9) (m n : Int) : serial_Nearer.f (ser i) m (ser j) n = some (decide (j < i ∨ (i = j ∧ m < n))) := by
  unfold serial_Nearer.f
  rw [newer_ser i hi j hj, Option.bind_some]
  by_cases h : j < i
  · rw [if_pos (decide_eq_true h)]
    exact congrArg some (decide_eq_true (Or.inl h)).symm
  · rw [if_neg (by simpa using h)]
    by_cases h2 : i = j
    · subst h2
      rw [if_pos rfl]
      refine congrArg some ?_
      by_cases h3 : m < n
      · rw [decide_eq_true h3, decide_eq_true (Or.inr ⟨rfl, h3⟩)]
      · rw [decide_eq_false h3, decide_eq_false (fun h4 => h4.elim h (fun h5 => h3 h5.2))]
    · rw [if_neg (fun h3 => h2 (ser_inj i hi j hj h3))]
      refine congrArg some (decide_eq_false (fun h4 => h4.elim h (fun h5 => h2 h5.1))).symm
theorem mark_is (a b m : Int) (p : Nat) (hp : p < 256) (hb : b = (p : Int)) : milestonelaw15_mark.f a b m = some (ser (p % 9), m) := by
  unfold milestonelaw15_mark.f ser
  refine congrArg some ?_
  subst hb
  have e1 : IntKind.u16.wrap (p : Int) = (p : Int) := by unfold IntKind.wrap; simp [IntKind.signed, IntKind.bits]; omega
  have e2 : Int.tmod (p : Int) 9 = ((p % 9 : Nat) : Int) := rfl
  rw [e1, e2]
  have e3 : IntKind.u16.wrap (((p % 9 : Nat) : Int) + 65532) = (((p % 9 : Nat) : Int) + 65532) % 65536 := by unfold IntKind.wrap; simp [IntKind.signed, IntKind.bits]
  rw [e3]
theorem SourceSinks : milestonelaw15_SourceSinks.Pure := by
  refine ⟨⟨40, by decide +kernel, by decide +kernel, by decide +kernel, by decide +kernel, by decide +kernel⟩, fun a ha => ?_, fun r => ∃ n : Nat, n < 9 ∧ r = ser n, fun x hx => ?_, fun a b c d => ?_, fun a b c d ha hc => ?_⟩
  · obtain ⟨p, hp, rfl⟩ := u8of a ha
    have h := pref_all
    rw [List.all_eq_true] at h
    have h2 := h (p % 18) (List.mem_range.2 (Nat.mod_lt _ (by omega)))
    unfold prefOk at h2
    cases hx : milestoneref07_Prefix.f 40 ((p % 18 : Nat) : Int) with
    | none => rw [hx] at h2; cases h2
    | some x =>
      obtain ⟨a, n⟩ := x
      rw [hx] at h2
      have h3 := (Bool.and_eq_true _ _).mp h2
      exact ⟨40, a, n, by rw [prefix18 40 p hp]; exact hx, of_decide_eq_true h3.1, of_decide_eq_true h3.2⟩
  · obtain ⟨p, hp, h⟩ := u8of x.f1 hx.2.1
    exact ⟨_, mark_is x.f0 x.f1 x.f2 p hp h, p % 9, Nat.mod_lt _ (by omega), rfl⟩
  · unfold serial_Nearer.f serial_Newer.f
    by_cases h : a = c
    · rw [if_pos h, Option.bind_some, if_neg (by decide), if_pos h]
      exact ⟨_, rfl⟩
    · rw [if_neg h, Option.bind_some]
      split
      · exact ⟨_, rfl⟩
      · exact ⟨_, rfl⟩
  · obtain ⟨i, hi, rfl⟩ := ha
    obtain ⟨j, hj, rfl⟩ := hc
    unfold serial_Best.f
    rw [nearer_ser j i hj hi, Option.bind_some]
    by_cases h : i < j ∨ (j = i ∧ d < b)
    · rw [if_pos (decide_eq_true h)]
      refine ⟨_, _, rfl, ⟨j, hj, rfl⟩, fun s m hs hn => ?_⟩
      obtain ⟨q, hq, rfl⟩ := hs
      rw [nearer_ser q i hq hi] at hn
      rw [nearer_ser q j hq hj]
      injection hn with hn
      refine congrArg some (decide_eq_false fun h4 => of_decide_eq_false hn ?_)
      omega
    · rw [if_neg (by simpa using h)]
      exact ⟨_, _, rfl, ⟨i, hi, rfl⟩, fun s m _ hn => hn⟩

end Go.Proofs.Ytkngncckidlniaa.Pure
