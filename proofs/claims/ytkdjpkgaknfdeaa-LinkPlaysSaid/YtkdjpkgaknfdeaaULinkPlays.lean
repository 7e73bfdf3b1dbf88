/- hellos that come, and don't, in order, and not: what the neighbor's way costs, and ours, as by a list of the last sixteen.
For every input; no condition is added to the given statement. -/
import Derived.Test.YtkdjpkgaknfdeaaQLinkPlaysx4
import Derived.Laws.BitsAllLaws
import Derived.OpenShut
import Derived.Lib.Bytes
namespace Go.Proofs.Ytkdjpkgaknfdeaa.Pure
open Go.RowKit Go.Proofs.Ytkdjpkgaknfdeaa.QLinkPlays Go.Proofs.YtkdjpkgaknfdeaaW.PrintWords Go.Proofs.YtkdjpkgaknfdeaaW.PrintLast Go.Proofs.YtkdjpkgaknfdeaaW.PrintMore
set_option linter.unusedSimpArgs false
set_option linter.unusedVariables false

/-! ## a link over natural numbers -/
theorem u64w (n : Nat) (h : n < 18446744073709551616) : IntKind.u64.wrap (n : Int) = (n : Int) := by
  simp [IntKind.wrap, IntKind.signed, IntKind.bits]
  omega
theorem u16w (n : Nat) : IntKind.u16.wrap (n : Int) = ((n % 65536 : Nat) : Int) := by
  simp [IntKind.wrap, IntKind.signed, IntKind.bits]
def pop : Nat → Nat
  | 0 => 0 | 1 => 1 | 2 => 1 | 3 => 2 | 4 => 1 | 5 => 2 | 6 => 2 | 7 => 3 | _ => 0
theorem pop_is (x : Nat) (h : x < 8) : bits_OnesCount16.f (x : Int) = some ((pop x : Nat) : Int) := by
  match x, h with
  | 0, _ => decide +kernel
  | 1, _ => decide +kernel
  | 2, _ => decide +kernel
  | 3, _ => decide +kernel
  | 4, _ => decide +kernel
  | 5, _ => decide +kernel
  | 6, _ => decide +kernel
  | 7, _ => decide +kernel
theorem and7 (c : Nat) (h : c < 65536) : Go.bits .and .u16 (c : Int) 7 = ((c % 8 : Nat) : Int) := by
  have := u16_and_nat c 7 h (by omega)
  rw [show (7 : Nat) = 2 ^ 3 - 1 from rfl, Nat.and_two_pow_sub_one_eq_mod] at this
  exact this
def recv (c : Nat) : Nat := if pop (c % 8) < 2 then 65535 else 96
theorem recv_is (c : Nat) (h : c < 65536) (n p u q : Int) : link_Link_Receives.f (c : Int) n p u q = some (((recv c : Nat) : Int), (c : Int), n, p, u, q) := by
  unfold link_Link_Receives.f
  rw [and7 c h, pop_is _ (Nat.mod_lt _ (by omega)), Option.bind_some]
  unfold recv
  by_cases hp : pop (c % 8) < 2
  · rw [if_pos (by omega), if_pos hp]
    rfl
  · rw [if_neg (by omega), if_neg hp]
    rfl
theorem cost_is (c : Nat) (h : c < 65536) (n p u q : Int) : link_Link_Cost.f (c : Int) n p u q = some (if recv c = 65535 then 65535 else p, (c : Int), n, p, u, q) := by
  unfold link_Link_Cost.f
  rw [recv_is c h, Option.bind_some]
  by_cases hp : recv c = 65535
  · rw [if_pos hp, if_pos (by rw [hp]; rfl)]
  · have : ¬ ((recv c : Nat) : Int) = 65535 := by omega
    rw [if_neg hp, if_neg this]
theorem or_one (a : Nat) : 2 * a ||| 1 = 2 * a + 1 := by
  have := Nat.two_pow_add_eq_or_of_lt (i := 1) (b := 1) (by omega) a
  simpa using this.symm
/-- what came, behind one more hello, so many behind the newest one -/
def hel (c gap : Nat) : Nat := if gap ≥ 16 ∨ c = 0 then 1 else (c * 2 ^ (gap + 1)) % 65536 + 1
theorem hel_lt (c gap : Nat) : hel c gap < 65536 := by
  unfold hel
  split
  · omega
  · have e : (c * 2 ^ (gap + 1)) % 65536 = 2 * ((c * 2 ^ gap) % 32768) := by
      rw [Nat.pow_succ, show (65536 : Nat) = 2 * 32768 from rfl, ← Nat.mul_assoc, Nat.mul_comm _ 2, Nat.mul_mod_mul_left]
    rw [e]
    have := Nat.mod_lt (c * 2 ^ gap) (show 32768 > 0 by omega)
    omega
theorem hello_is (c n a b : Nat) (hc : c < 65536) (hn : n ≤ a) (ha : a < 1000000000) (hb : b < 1000000000) (p u q : Int) :
    link_Link_Hello.f (c : Int) (n : Int) p u q (a : Int) (b : Int) = some (((hel c (a - n) : Nat) : Int), ((a + 1 : Nat) : Int), p, u, ((b + 6 : Nat) : Int)) := by
  unfold link_Link_Hello.f
  have e1 : IntKind.u64.wrap ((a : Int) - (n : Int)) = ((a - n : Nat) : Int) := by
    rw [show (a : Int) - (n : Int) = ((a - n : Nat) : Int) by omega]
    exact u64w _ (by omega)
  have e2 : IntKind.u64.wrap ((a : Int) + 1) = ((a + 1 : Nat) : Int) := u64w (a + 1) (by omega)
  have e3 : IntKind.u64.wrap ((b : Int) + 6) = ((b + 6 : Nat) : Int) := u64w (b + 6) (by omega)
  have e4 : IntKind.u64.wrap (((a - n : Nat) : Int) + 1) = ((a - n + 1 : Nat) : Int) := u64w (a - n + 1) (by omega)
  rw [e1, e2, e3, e4, if_neg (by omega)]
  clear e1 e2 e3 e4
  unfold hel
  by_cases h1 : a - n ≥ 16
  · rw [if_pos (by omega), if_pos (.inl h1)]
    rfl
  · rw [if_neg (by omega)]
    by_cases h2 : c = 0
    · rw [if_pos (by omega), if_pos (.inr h2)]
      rfl
    · rw [if_neg (by omega), if_pos (by omega), if_neg (by omega)]
      have e5 : shl .u16 (c : Int) ((a - n + 1 : Nat) : Int) = (((c * 2 ^ (a - n + 1)) % 65536 : Nat) : Int) := by
        unfold shl
        have em : min (((a - n + 1 : Nat) : Int)).toNat IntKind.u16.bits = a - n + 1 := by
          have : IntKind.u16.bits = 16 := rfl
          omega
        rw [em, show (c : Int) * 2 ^ (a - n + 1) = ((c * 2 ^ (a - n + 1) : Nat) : Int) by simp, u16w]
      have e6 : (c * 2 ^ (a - n + 1)) % 65536 = 2 * ((c * 2 ^ (a - n)) % 32768) := by
        rw [Nat.pow_succ, show (65536 : Nat) = 2 * 32768 from rfl, ← Nat.mul_assoc, Nat.mul_comm _ 2, Nat.mul_mod_mul_left]
      have e7 : Go.bits .or .u16 (((c * 2 ^ (a - n + 1)) % 65536 : Nat) : Int) 1 = (((c * 2 ^ (a - n + 1)) % 65536 + 1 : Nat) : Int) := by
        rw [e6, ← or_one]
        have := Nat.mod_lt (c * 2 ^ (a - n)) (show 32768 > 0 by omega)
        exact u16_or_nat _ 1 (by omega) (by omega)
      rw [e5, e7]
theorem alive_is (c : Nat) (n p u q : Int) : link_Link_Alive.f (c : Int) n p u q = some (decide (c ≠ 0), (c : Int), n, p, u, q) := by
  unfold link_Link_Alive.f
  by_cases h : c = 0
  · subst h; rfl
  · have h2 : ¬ ((c : Int) = 0) := by omega
    rw [decide_eq_true h]
    have : ((c : Int) != 0) = true := bne_iff_ne.2 h2
    rw [this]
theorem heard_is (c n p u q : Int) (a b : Nat) (hb : b < 1000000000) : link_Link_Heard.f c n p u q (a : Int) (b : Int) = some (c, n, ((max a 1 : Nat) : Int), ((b + 20 : Nat) : Int), q) := by
  unfold link_Link_Heard.f
  have e : IntKind.u64.wrap ((b : Int) + 20) = ((b + 20 : Nat) : Int) := u64w (b + 20) (by omega)
  have e2 : mx (a : Int) 1 = ((max a 1 : Nat) : Int) := by unfold mx; split <;> omega
  rw [e, e2]
theorem new_is (b : Nat) (hb : b < 1000000000) : link_New.f (b : Int) = some (0, 0, 65535, 0, ((b + 6 : Nat) : Int)) := by
  unfold link_New.f
  have e : IntKind.u64.wrap ((b : Int) + 6) = ((b + 6 : Nat) : Int) := u64w (b + 6) (by omega)
  rw [e]
theorem awake_is : milestonelaw14_awake.f = some true := by decide +kernel

/-! ## LinkPlays: the last sixteen as a list -/
def At (L : List Bool) (j : Nat) : Bool := L.getD j false
theorem rd_at (L : List Bool) (j : Nat) : rdOf false L (j : Int) = At L j := rfl
def b1 (b : Bool) : Nat := if b then 1 else 0
def Rep (L : List Bool) (c : Nat) : Prop := L.length = 16 ∧ c < 65536 ∧ ∀ j, j < 16 → At L j = c.testBit j
def anyF (L : List Bool) : Nat → Nat → Bool
  | _, 0 => false
  | i, d + 1 => At L i || anyF L (i + 1) d
theorem anyF_iff (L : List Bool) (d : Nat) : ∀ i, (anyF L i d = true ↔ ∃ j, i ≤ j ∧ j < i + d ∧ At L j = true) := by
  induction d with
  | zero => intro i; simp only [anyF]; exact ⟨fun h => (by cases h), fun ⟨j, h1, h2, _⟩ => by omega⟩
  | succ d ih =>
    intro i
    rw [anyF, Bool.or_eq_true, ih]
    constructor
    · rintro (h | ⟨j, h1, h2, h3⟩)
      · exact ⟨i, by omega, by omega, h⟩
      · exact ⟨j, by omega, by omega, h3⟩
    · rintro ⟨j, h1, h2, h3⟩
      by_cases hj : j = i
      · subst hj; exact .inl h3
      · exact .inr ⟨j, by omega, by omega, h3⟩
theorem any_rep (L : List Bool) (c : Nat) (h : Rep L c) : anyF L 0 16 = decide (c ≠ 0) := by
  rw [Bool.eq_iff_iff, anyF_iff, decide_eq_true_iff]
  constructor
  · rintro ⟨j, _, h2, h3⟩ rfl
    rw [h.2.2 j (by omega), Nat.zero_testBit] at h3
    cases h3
  · intro hc
    apply Classical.byContradiction
    intro hn
    apply hc
    apply Nat.eq_of_testBit_eq
    intro j
    rw [Nat.zero_testBit]
    by_cases hj : j < 16
    · rw [← h.2.2 j hj]
      cases hx : At L j with
      | false => rfl
      | true => exact absurd ⟨j, by omega, by omega, hx⟩ hn
    · exact Nat.testBit_lt_two_pow (Nat.lt_of_lt_of_le h.2.1 (by
        rw [show (65536 : Nat) = 2 ^ 16 from rfl]
        exact Nat.pow_le_pow_right (by omega) (by omega)))
def cnt3 (L : List Bool) : Nat := b1 (At L 0) + b1 (At L 1) + b1 (At L 2)
theorem pop_bits (c : Nat) : pop (c % 8) = b1 (c.testBit 0) + b1 (c.testBit 1) + b1 (c.testBit 2) := by
  have e : ∀ j, j < 3 → (c % 8).testBit j = c.testBit j := fun j hj => by
    rw [show (8 : Nat) = 2 ^ 3 from rfl, Nat.testBit_mod_two_pow, decide_eq_true hj, Bool.true_and]
  rw [← e 0 (by omega), ← e 1 (by omega), ← e 2 (by omega)]
  have hlt : c % 8 < 8 := Nat.mod_lt _ (by omega)
  generalize c % 8 = x at hlt ⊢
  have : ∀ x, x < 8 → pop x = b1 (x.testBit 0) + b1 (x.testBit 1) + b1 (x.testBit 2) := by decide +kernel
  exact this x hlt
theorem cnt_rep (L : List Bool) (c : Nat) (h : Rep L c) : cnt3 L = pop (c % 8) := by
  unfold cnt3
  rw [pop_bits, h.2.2 0 (by omega), h.2.2 1 (by omega), h.2.2 2 (by omega)]
theorem at_set (L : List Bool) (i j : Nat) (v : Bool) (hi : i < L.length) : At (L.set i v) j = if j = i then v else At L j := by
  unfold At
  rw [List.getD_eq_getElem?_getD, List.getD_eq_getElem?_getD]
  by_cases h : j = i
  · subst h
    rw [if_pos rfl, List.getElem?_set_self hi]
    rfl
  · rw [if_neg h, List.getElem?_set_ne (by omega)]
theorem at_rep16 (j : Nat) : At (List.replicate 16 false) j = false := by
  unfold At
  rw [List.getD_eq_getElem?_getD, List.getElem?_replicate]
  split <;> rfl
theorem rep_one : Rep ((List.replicate 16 false).set 0 true) 1 := by
  refine ⟨by simp, by omega, fun j hj => ?_⟩
  have : ∀ j, j < 16 → At ((List.replicate 16 false).set 0 true) j = (1 : Nat).testBit j := by decide
  exact this j hj
theorem rep_zero : Rep (List.replicate 16 false) 0 := ⟨by simp, by omega, fun j _ => by rw [at_rep16, Nat.zero_testBit]⟩
theorem hel_bit (c g j : Nat) (hc : c ≠ 0) (hg : g < 16) (hj : j < 16) : (hel c g).testBit j = if j = 0 then true else if g + 1 ≤ j then c.testBit (j - (g + 1)) else false := by
  unfold hel
  rw [if_neg (by omega)]
  have e6 : (c * 2 ^ (g + 1)) % 65536 = 2 * ((c * 2 ^ g) % 32768) := by
    rw [Nat.pow_succ, show (65536 : Nat) = 2 * 32768 from rfl, ← Nat.mul_assoc, Nat.mul_comm _ 2, Nat.mul_mod_mul_left]
  cases j with
  | zero =>
    rw [if_pos rfl, e6, Nat.testBit_zero]
    exact decide_eq_true (by omega)
  | succ j =>
    rw [if_neg (by omega), e6, Nat.testBit_succ, show (2 * (c * 2 ^ g % 32768) + 1) / 2 = c * 2 ^ g % 32768 by omega, show (32768 : Nat) = 2 ^ 15 from rfl, Nat.testBit_mod_two_pow, decide_eq_true (show j < 15 by omega), Bool.true_and, Nat.mul_comm, Nat.testBit_two_pow_mul]
    by_cases h : g ≤ j
    · rw [if_pos (by omega), decide_eq_true h, Bool.true_and, show j + 1 - (g + 1) = j - g by omega]
    · rw [if_neg (by omega), decide_eq_false h, Bool.false_and]
theorem rep_shift (L : List Bool) (c : Nat) (h : Rep L c) : Rep ([false] ++ L.take 15) (c * 2 % 65536) := by
  refine ⟨by rw [List.length_append, List.length_take, h.1]; rfl, Nat.mod_lt _ (by omega), fun j hj => ?_⟩
  rw [show (65536 : Nat) = 2 ^ 16 from rfl, Nat.testBit_mod_two_pow, decide_eq_true hj, Bool.true_and, Nat.mul_comm c 2]
  cases j with
  | zero => rw [Nat.testBit_zero]; exact (decide_eq_false (by omega)).symm
  | succ j =>
    rw [Nat.testBit_succ, show 2 * c / 2 = c by omega, ← h.2.2 j (by omega)]
    unfold At
    rw [List.getD_eq_getElem?_getD, List.getD_eq_getElem?_getD, List.getElem?_append_right (by simp), List.getElem?_take]
    have : j + 1 - [false].length = j := rfl
    rw [this, if_pos (by omega)]
/-- the link's own tick -/
def tk : Nat → Nat → Nat → Nat → Nat → Nat × Nat × Nat
  | 0, c, n, q, _ => (c, n, q)
  | f + 1, c, n, q, now => if c = 0 ∨ now < q then (c, n, q) else tk f (c * 2 % 65536) (n + 1) (q + 6) now
theorem dvd_step {c m : Nat} (h : 2 ^ m ∣ c) (hm : m ≤ 15) : 2 ^ (m + 1) ∣ c * 2 % 65536 := by
  obtain ⟨z, rfl⟩ := h
  refine (Nat.dvd_mod_iff ?_).2 ?_
  · exact Nat.pow_dvd_pow 2 (show m + 1 ≤ 16 by omega)
  · exact ⟨z, by rw [Nat.pow_succ]; ac_rfl⟩
theorem tick_tk (f : Nat) : ∀ (m c n q now k : Nat), m + f = 17 → 1 ≤ f → 2 ^ m ∣ c → c < 65536 → n + f < 1000000 → q + 6 * f < 1000000 →
    link_Link_Tick.l0 (k + f) (c : Int) (n : Int) (q : Int) (now : Int) = some (((tk f c n q now).1 : Int), ((tk f c n q now).2.1 : Int), ((tk f c n q now).2.2 : Int)) := by
  induction f with
  | zero => intro m c n q now k h h1; omega
  | succ f ih =>
    intro m c n q now k h h1 hd hc hn hq
    rw [show k + (f + 1) = k + f + 1 from rfl, link_Link_Tick.l0, tk]
    by_cases h0 : c = 0
    · rw [if_pos (by omega), if_pos (.inl h0)]
    · rw [if_neg (by omega)]
      by_cases hb : now < q
      · rw [if_neg (by omega), if_pos (.inr hb)]
      · have hf : 1 ≤ f := by
          apply Classical.byContradiction
          intro hz
          have hm : m = 16 := by omega
          subst hm
          exact h0 (Nat.eq_zero_of_dvd_of_lt hd hc)
        have e1 : IntKind.u16.wrap ((c : Int) * 2) = ((c * 2 % 65536 : Nat) : Int) := u16w (c * 2)
        have e2 : IntKind.u64.wrap ((n : Int) + 1) = ((n + 1 : Nat) : Int) := u64w (n + 1) (by omega)
        have e3 : IntKind.u64.wrap ((q : Int) + 6) = ((q + 6 : Nat) : Int) := u64w (q + 6) (by omega)
        rw [if_pos (by omega), if_neg (by omega), e1, e2, e3]
        exact ih (m + 1) _ _ _ now k (by omega) hf (dvd_step hd (by omega)) (Nat.mod_lt _ (by omega)) (by omega) (by omega)

/-! ## the law's own loops -/
theorem wr64 (n : Nat) (h : n < 1000000000) : wrap64 (n : Int) = (n : Int) := by
  unfold wrap64
  omega
theorem wr1 (n : Nat) (h : n < 900000000) : wrap64 ((n : Int) + 1) = ((n + 1 : Nat) : Int) := wr64 (n + 1) (by omega)
def cntF (L : List Bool) : Nat → Nat → Nat
  | _, 0 => 0
  | i, d + 1 => (if At L i = true ∧ i < 3 then 1 else 0) + cntF L (i + 1) d
theorem cntF_is (L : List Bool) : cntF L 0 16 = cnt3 L := by
  simp only [cntF, cnt3, b1]
  simp
  cases At L 0 <;> cases At L 1 <;> cases At L 2 <;> rfl
theorem l5_is (acts : List S33) (x5 : Int) (L : List Bool) (hL : L.length = 16) (x8 x9 x10 x11 x12 z0 z1 z2 z3 z4 : Int) (k d : Nat) : ∀ (i n : Nat) (b : Bool), i + d = 16 → n ≤ i →
    milestonelaw14_LinkPlays.l5 (k + d + 1) acts x5 L x8 x9 x10 x11 x12 (n : Int) b (i : Int) z0 z1 z2 z3 z4 =
      milestonelaw14_LinkPlays.j10 k acts x5 L x8 x9 x10 x11 x12 ((n + cntF L i d : Nat) : Int) (b || anyF L i d) (if n + cntF L i d ≥ 2 then 96 else 65535) z0 z1 z2 z3 z4 := by
  induction d with
  | zero =>
    intro i n b hi hn
    rw [milestonelaw14_LinkPlays.l5, if_neg (by omega)]
    have e0 : n + cntF L i 0 = n := rfl
    have e1 : (b || anyF L i 0) = b := by simp [anyF]
    rw [e0, e1]
    by_cases h : n ≥ 2
    · rw [if_pos (by omega), if_pos h]
    · rw [if_neg (by omega), if_neg h]
  | succ d ih =>
    intro i n b hi hn
    rw [show k + (d + 1) + 1 = (k + d + 1) + 1 from rfl, milestonelaw14_LinkPlays.l5, if_pos (by omega), if_pos (by omega), if_pos (by omega), rd_at, wr1 i (by omega), wr1 n (by omega), cntF, anyF]
    by_cases hA : At L i = true
    · by_cases h3 : i < 3
      · have ec : (if At L i = true ∧ i < 3 then 1 else 0 : Nat) = 1 := if_pos ⟨hA, h3⟩
        rw [ec, if_pos hA, hA, if_pos (by omega), ih (i + 1) (n + 1) true (by omega) (by omega), ite_self, Bool.true_or, Bool.or_true, Nat.add_assoc n 1]
      · have ec : (if At L i = true ∧ i < 3 then 1 else 0 : Nat) = 0 := if_neg (fun hx => h3 hx.2)
        rw [ec, if_pos hA, hA, if_neg (by omega), ih (i + 1) n true (by omega) (by omega), ite_self, Bool.true_or, Bool.or_true, Nat.zero_add]
    · have hA2 : At L i = false := by simpa using hA
      have ec : (if At L i = true ∧ i < 3 then 1 else 0 : Nat) = 0 := if_neg (fun hx => hA hx.1)
      rw [ec, if_neg hA, hA2, Nat.zero_add]
      cases b with
      | true => rw [if_pos rfl, ih (i + 1) n true (by omega) (by omega), Bool.true_or, Bool.true_or]
      | false => rw [if_neg (by simp), ih (i + 1) n false (by omega) (by omega), Bool.false_or, Bool.false_or]
theorem l1_is (acts : List S33) (x5 : Int) (L : List Bool) (hL : L.length = 16) (x8 x10 x11 x12 x15 z0 z1 z2 z3 z4 : Int) (k d : Nat) : ∀ (i : Nat) (b : Bool), i + d = 16 →
    milestonelaw14_LinkPlays.l1 (k + d + 1) acts x5 L x8 x10 x11 x12 x15 b (i : Int) z0 z1 z2 z3 z4 =
      milestonelaw14_LinkPlays.j4 k acts x5 L x8 x10 x11 x12 x15 (if x15 < x8 ∨ IntKind.u64.wrap (x15 - x8) ≥ 16 then true else !(b || anyF L i d)) z0 z1 z2 z3 z4 := by
  induction d with
  | zero =>
    intro i b hi
    rw [milestonelaw14_LinkPlays.l1, if_neg (by omega)]
    simp only [anyF, Bool.or_false]
    by_cases h : x15 < x8
    · rw [if_pos h, if_pos (.inl h)]
    · rw [if_neg h]
      by_cases h2 : IntKind.u64.wrap (x15 - x8) ≥ 16
      · rw [if_pos h2, if_pos (.inr h2)]
      · rw [if_neg h2, if_neg (fun hx => hx.elim h h2)]
  | succ d ih =>
    intro i b hi
    rw [show k + (d + 1) + 1 = (k + d + 1) + 1 from rfl, milestonelaw14_LinkPlays.l1, if_pos (by omega), wr1 i (by omega), anyF]
    cases b with
    | true => rw [if_pos rfl, ih (i + 1) true (by omega), Bool.true_or, Bool.true_or]
    | false => rw [if_neg (by simp), if_pos (by omega), if_pos (by omega), rd_at, ih (i + 1) _ (by omega), Bool.false_or]
theorem l4_is (acts : List S33) (x5 : Int) (L : List Bool) (hL : L.length = 16) (x8 x9 x10 x11 x12 x21 z0 z1 z2 z3 z4 : Int) (k d : Nat) : ∀ (i : Nat) (b : Bool), i + d = 16 →
    milestonelaw14_LinkPlays.l4 (k + d + 1) acts x5 L x8 x9 x10 x11 x12 x21 b (i : Int) z0 z1 z2 z3 z4 =
      (if (b || anyF L i d) = true ∧ ¬ x5 < x9 then milestonelaw14_LinkPlays.l3 k acts x5 ([false] ++ L.take 15) (IntKind.u64.wrap (x8 + 1)) (IntKind.u64.wrap (x9 + 6)) x10 x11 x12 (wrap64 (x21 + 1)) z0 z1 z2 z3 z4
       else milestonelaw14_LinkPlays.j8 k acts x5 L x8 x9 (if x5 ≥ x11 then 65535 else x10) x11 x12 z0 z1 z2 z3 z4) := by
  induction d with
  | zero =>
    intro i b hi
    rw [milestonelaw14_LinkPlays.l4, if_neg (by omega)]
    simp only [anyF, Bool.or_false, Option.bind_some, Nat.add_zero]
    have e : (if x5 ≥ x11 then milestonelaw14_LinkPlays.j8 k acts x5 L x8 x9 65535 x11 x12 z0 z1 z2 z3 z4 else milestonelaw14_LinkPlays.j8 k acts x5 L x8 x9 x10 x11 x12 z0 z1 z2 z3 z4) = milestonelaw14_LinkPlays.j8 k acts x5 L x8 x9 (if x5 ≥ x11 then 65535 else x10) x11 x12 z0 z1 z2 z3 z4 := by
      by_cases h : x5 ≥ x11
      · rw [if_pos h, if_pos h]
      · rw [if_neg h, if_neg h]
    rw [e]
    cases b with
    | true =>
      rw [if_pos rfl]
      by_cases h : x5 < x9
      · exact (if_pos h).trans (if_neg (fun hx => hx.2 h)).symm
      · have hlen : [false].length + (L.take 15).length < 140737488355328 := by rw [List.length_take, List.length_singleton]; omega
        exact (if_neg h).trans ((if_pos (by omega)).trans ((if_pos hlen).trans (if_pos ⟨rfl, h⟩).symm))
    | false => exact (if_neg (by simp)).trans (if_neg (fun hx => (by cases hx.1))).symm
  | succ d ih =>
    intro i b hi
    rw [show k + (d + 1) + 1 = (k + d + 1) + 1 from rfl, milestonelaw14_LinkPlays.l4, if_pos (by omega), wr1 i (by omega), anyF]
    cases b with
    | true => rw [if_pos rfl, ih (i + 1) true (by omega), Bool.true_or, Bool.true_or]
    | false => rw [if_neg (by simp), if_pos (by omega), if_pos (by omega), rd_at, ih (i + 1) _ (by omega), Bool.false_or]
/-- so many of the older ones, moved on -/
def moveF (L : List Bool) (g : Nat) : Nat → List Bool → Nat → List Bool
  | _, M, 0 => M
  | i, M, d + 1 => moveF L g (i + 1) (M.set (i + g) (At L i)) d
theorem moveF_len (L : List Bool) (g d : Nat) : ∀ i M, (moveF L g i M d).length = M.length := by
  induction d with
  | zero => intro i M; rfl
  | succ d ih => intro i M; rw [moveF, ih, List.length_set]
theorem l2_is (acts : List S33) (x5 : Int) (L : List Bool) (hL : L.length = 16) (x10 x11 x12 x15 z0 z1 z2 z3 z4 : Int) (g : Nat) (hg : g ≤ 16) (k d : Nat) : ∀ (i : Nat) (M : List Bool), M.length = 16 → i + d + g = 16 →
    milestonelaw14_LinkPlays.l2 (k + d + 1) acts x5 M x10 x11 x12 x15 L (g : Int) (i : Int) z0 z1 z2 z3 z4 =
      milestonelaw14_LinkPlays.j8 k acts x5 ((moveF L g i M d).set 0 true) (IntKind.u64.wrap (x15 + 1)) (IntKind.u64.wrap (x5 + 6)) x10 x11 x12 z0 z1 z2 z3 z4 := by
  induction d with
  | zero =>
    intro i M hM hi
    have e : wrap64 ((i : Int) + (g : Int)) = ((i + g : Nat) : Int) := wr64 (i + g) (by omega)
    rw [milestonelaw14_LinkPlays.l2, e, if_neg (by omega), if_pos (by omega)]
    rfl
  | succ d ih =>
    intro i M hM hi
    have e : wrap64 ((i : Int) + (g : Int)) = ((i + g : Nat) : Int) := wr64 (i + g) (by omega)
    rw [show k + (d + 1) + 1 = (k + d + 1) + 1 from rfl, milestonelaw14_LinkPlays.l2, e, if_pos (by omega), if_pos (by omega), if_pos (by omega), if_pos (by omega), if_pos (by omega), wr1 i (by omega), rd_at]
    exact ih (i + 1) _ (by rw [List.length_set]; exact hM) (by omega)
theorem move_at (L : List Bool) (g d : Nat) : ∀ (i : Nat) (M : List Bool) (j : Nat), i + d + g = 16 → M.length = 16 →
    At (moveF L g i M d) j = if i + g ≤ j ∧ j < 16 then At L (j - g) else At M j := by
  induction d with
  | zero => intro i M j h hM; rw [moveF, if_neg (by omega)]
  | succ d ih =>
    intro i M j h hM
    rw [moveF, ih (i + 1) _ j (by omega) (by rw [List.length_set]; exact hM), at_set _ _ _ _ (by omega)]
    by_cases hj : j = i + g
    · subst hj
      rw [if_neg (by omega), if_pos rfl, if_pos (by omega), Nat.add_sub_cancel]
    · rw [if_neg hj]
      by_cases h2 : i + g ≤ j ∧ j < 16
      · rw [if_pos h2, if_pos (by omega)]
      · rw [if_neg h2, if_neg (by omega)]
theorem rep_hel (L : List Bool) (c g : Nat) (h : Rep L c) (hc : c ≠ 0) (hg : g < 16) : Rep ((moveF L (g + 1) 0 (List.replicate 16 false) (16 - (g + 1))).set 0 true) (hel c g) := by
  have hl : (moveF L (g + 1) 0 (List.replicate 16 false) (16 - (g + 1))).length = 16 := by rw [moveF_len]; simp
  refine ⟨by rw [List.length_set]; exact hl, hel_lt c g, fun j hj => ?_⟩
  rw [at_set _ _ _ _ (by omega), hel_bit c g j hc hg hj]
  by_cases h0 : j = 0
  · rw [if_pos h0, if_pos h0]
  · rw [if_neg h0, if_neg h0, move_at L (g + 1) _ 0 _ j (by omega) (by simp)]
    by_cases h1 : g + 1 ≤ j
    · rw [if_pos (by omega), if_pos h1, h.2.2 _ (by omega)]
    · rw [if_neg (by omega), if_neg h1, at_rep16]

/-! ## from act to act -/
theorem hello_old (c n a b : Nat) (hn : a < n) (ha : a < 1000000000) (hb : b < 1000000000) (p u q : Int) :
    link_Link_Hello.f (c : Int) (n : Int) p u q (a : Int) (b : Int) = some (((1 : Nat) : Int), ((a + 1 : Nat) : Int), p, u, ((b + 6 : Nat) : Int)) := by
  unfold link_Link_Hello.f
  have e2 : IntKind.u64.wrap ((a : Int) + 1) = ((a + 1 : Nat) : Int) := u64w (a + 1) (by omega)
  have e3 : IntKind.u64.wrap ((b : Int) + 6) = ((b + 6 : Nat) : Int) := u64w (b + 6) (by omega)
  rw [e2, e3, if_pos (by omega)]
  rfl
theorem tk_lt (f : Nat) : ∀ c n q now, c < 65536 → (tk f c n q now).1 < 65536 ∧ (tk f c n q now).2.1 ≤ n + f ∧ (tk f c n q now).2.2 ≤ q + 6 * f := by
  induction f with
  | zero => intro c n q now h; exact ⟨h, Nat.le_refl _, Nat.le_refl _⟩
  | succ f ih =>
    intro c n q now h
    rw [tk]
    split
    · exact ⟨h, by show n ≤ _; omega, by show q ≤ _; omega⟩
    · obtain ⟨h1, h2, h3⟩ := ih (c * 2 % 65536) (n + 1) (q + 6) now (Nat.mod_lt _ (by omega))
      exact ⟨h1, by omega, by omega⟩
theorem tickf_is (k c n u q now : Nat) (p : Int) (hc : c < 65536) (hn : n < 900000) (hq : q < 900000) :
    link_Link_Tick.f (k + 17) (c : Int) (n : Int) p (u : Int) (q : Int) (now : Int) =
      some (((tk 17 c n q now).1 : Int), ((tk 17 c n q now).2.1 : Int), if u ≤ now then 65535 else p, (u : Int), ((tk 17 c n q now).2.2 : Int)) := by
  unfold link_Link_Tick.f
  rw [tick_tk 17 0 c n q now k rfl (by omega) ⟨c, by omega⟩ hc (by omega) (by omega), Option.bind_some]
  by_cases h : u ≤ now
  · rw [if_pos (by omega), if_pos h]
  · rw [if_neg (by omega), if_neg h]
def GoOn (acts : List S33) (B i : Nat) : Prop := ∀ (now n u q c : Nat) (p : Int) (L : List Bool), Rep L c → now ≤ 300 + 10 * i → n ≤ 300 + 30 * i → q ≤ 400 + 200 * i →
    ∀ k, B ≤ k → milestonelaw14_LinkPlays.l0 k acts now L n q p u i c n p u q = some true
theorem j8_good (acts : List S33) (B i now n u q c : Nat) (p : Int) (L : List Bool) (hG : GoOn acts B (i + 1)) (hi : i < 1000) (hR : Rep L c) (h1 : now ≤ 300 + 10 * (i + 1)) (h2 : n ≤ 300 + 30 * (i + 1)) (h3 : q ≤ 400 + 200 * (i + 1))
    (k : Nat) (hk : B + 20 ≤ k) : milestonelaw14_LinkPlays.j8 k acts now L n q p u i c n p u q = some true := by
  obtain ⟨z, rfl⟩ : ∃ z, k = z + 20 := ⟨k - 20, by omega⟩
  rw [show z + 20 = (z + 19) + 1 from rfl, milestonelaw14_LinkPlays.j8]
  have e5 := l5_is acts now L hR.1 n q p u i c n p u q (z + 2) 16 0 0 false rfl (Nat.le_refl _)
  rw [show z + 19 = (z + 2) + 16 + 1 from rfl]
  refine e5.trans ?_
  rw [Nat.zero_add, cntF_is, cnt_rep L c hR, Bool.false_or, any_rep L c hR, show z + 2 = (z + 1) + 1 from rfl, milestonelaw14_LinkPlays.j10]
  have hw : wrap64 ((i : Int) + 1) = ((i + 1 : Nat) : Int) := wr1 i (by omega)
  have key : milestonelaw14_LinkPlays.j11 (z + 1) acts now L n q p u i (decide (c ≠ 0)) ((recv c : Nat) : Int) (if recv c = 65535 then 65535 else p) c n p u q = some true := by
    rw [milestonelaw14_LinkPlays.j11, recv_is c hR.2.1, Option.bind_some, if_pos rfl]
    show (link_Link_Cost.f (c : Int) n p u q).bind _ = _
    rw [cost_is c hR.2.1, Option.bind_some, if_pos rfl]
    show (link_Link_Alive.f (c : Int) n p u q).bind _ = _
    rw [alive_is, Option.bind_some]
    show (if (decide (c ≠ 0) != decide (c ≠ 0)) = true then _ else _) = _
    rw [if_neg (by simp), hw]
    exact hG now n u q c p L hR h1 h2 h3 z (by omega)
  unfold recv at key
  by_cases hp : pop (c % 8) < 2
  · rw [if_pos hp, if_pos rfl] at key
    rw [if_pos (by omega), if_neg (by omega)]
    exact key
  · rw [if_neg hp, if_neg (by omega)] at key
    rw [if_neg (by omega), if_pos (by omega)]
    exact key
theorem l3_good (acts : List S33) (now u i : Nat) (p z0 z1 z2 z3 z4 : Int) (f : Nat) : ∀ (m c n q B : Nat) (L : List Bool), m + f = 17 → 1 ≤ f → 2 ^ m ∣ c → Rep L c → n + f < 1000000 → q + 6 * f < 1000000 →
    (∀ L', Rep L' (tk f c n q now).1 → ∀ k, B ≤ k → milestonelaw14_LinkPlays.j8 k acts now L' ((tk f c n q now).2.1 : Int) ((tk f c n q now).2.2 : Int) (if u ≤ now then 65535 else p) u i z0 z1 z2 z3 z4 = some true) →
    ∀ k, B + 18 * f ≤ k → milestonelaw14_LinkPlays.l3 k acts now L n q p u i (m : Int) z0 z1 z2 z3 z4 = some true := by
  induction f with
  | zero => intro m c n q B L h h1; omega
  | succ f ih =>
    intro m c n q B L h h1 hd hR hn hq H k hk
    obtain ⟨z, rfl⟩ : ∃ z, k = z + 18 := ⟨k - 18, by omega⟩
    rw [show z + 18 = (z + 17) + 1 from rfl, milestonelaw14_LinkPlays.l3, if_pos (by omega)]
    have e4 := l4_is acts now L hR.1 n q p u i m z0 z1 z2 z3 z4 z 16 0 false rfl
    rw [show z + 17 = z + 16 + 1 from rfl]
    refine e4.trans ?_
    rw [Bool.false_or, any_rep L c hR]
    rw [tk] at H
    by_cases hs : c = 0 ∨ now < q
    · rw [if_neg (fun hx => by have := of_decide_eq_true hx.1; have := hx.2; omega)]
      rw [if_pos hs] at H
      have hx := H L hR z (by omega)
      by_cases hu : u ≤ now
      · rw [if_pos hu] at hx
        rw [if_pos (by omega)]
        exact hx
      · rw [if_neg hu] at hx
        rw [if_neg (by omega)]
        exact hx
    · rw [if_pos ⟨decide_eq_true (fun hz => hs (.inl hz)), fun hz => hs (.inr (by omega))⟩]
      rw [if_neg hs] at H
      have hf : 1 ≤ f := by
        apply Classical.byContradiction
        intro hz
        have hm : m = 16 := by omega
        subst hm
        exact hs (.inl (Nat.eq_zero_of_dvd_of_lt hd hR.2.1))
      have e1 : IntKind.u64.wrap ((n : Int) + 1) = ((n + 1 : Nat) : Int) := u64w (n + 1) (by omega)
      have e2 : IntKind.u64.wrap ((q : Int) + 6) = ((q + 6 : Nat) : Int) := u64w (q + 6) (by omega)
      rw [e1, e2, wr1 m (by omega)]
      exact ih (m + 1) _ _ _ B _ (by omega) hf (dvd_step hd (by omega)) (rep_shift L c hR) (by omega) (by omega) H z (by omega)
theorem j2_good (acts : List S33) (B i now n u q c a : Nat) (p : Int) (L : List Bool) (hG : GoOn acts B (i + 1)) (hi : i < 1000) (hR : Rep L c) (h1 : now ≤ 300 + 10 * i) (h2 : n ≤ 300 + 30 * i) (ha : a ≤ 303 + 30 * i)
    (k : Nat) (hk : B + 60 ≤ k) : milestonelaw14_LinkPlays.j2 k acts now L n p u i a c n p u q = some true := by
  obtain ⟨z, rfl⟩ : ∃ z, k = z + 60 := ⟨k - 60, by omega⟩
  rw [show z + 60 = (z + 59) + 1 from rfl, milestonelaw14_LinkPlays.j2]
  have e2 : IntKind.u64.wrap ((a : Int) + 1) = ((a + 1 : Nat) : Int) := u64w (a + 1) (by omega)
  have e3 : IntKind.u64.wrap ((now : Int) + 6) = ((now + 6 : Nat) : Int) := u64w (now + 6) (by omega)
  have fresh : ∀ k, B + 21 ≤ k → milestonelaw14_LinkPlays.j4 k acts now L n p u i a true ((1 : Nat) : Int) ((a + 1 : Nat) : Int) p u ((now + 6 : Nat) : Int) = some true := by
    intro k hk
    obtain ⟨y, rfl⟩ : ∃ y, k = y + 1 := ⟨k - 1, by omega⟩
    rw [milestonelaw14_LinkPlays.j4, if_pos rfl, if_pos (by omega), Option.bind_some, if_pos (by simp), e2, e3]
    exact j8_good acts B i now (a + 1) u (now + 6) 1 p _ hG hi rep_one (by omega) (by omega) (by omega) y (by omega)
  by_cases hlt : a < n
  · rw [hello_old c n a now hlt (by omega) (by omega), Option.bind_some]
    refine (l1_is acts now L hR.1 n p u i a _ _ _ _ _ (z + 42) 16 0 false rfl).trans ?_
    rw [if_pos (.inl (by omega))]
    exact fresh _ (by omega)
  · have e1 : IntKind.u64.wrap ((a : Int) - (n : Int)) = ((a - n : Nat) : Int) := by
      rw [show (a : Int) - (n : Int) = ((a - n : Nat) : Int) by omega]
      exact u64w _ (by omega)
    rw [hello_is c n a now hR.2.1 (by omega) (by omega) (by omega), Option.bind_some]
    refine (l1_is acts now L hR.1 n p u i a _ _ _ _ _ (z + 42) 16 0 false rfl).trans ?_
    rw [e1, Bool.false_or, any_rep L c hR]
    by_cases hg : a - n ≥ 16
    · rw [if_pos (.inr (by omega)), show hel c (a - n) = 1 by unfold hel; rw [if_pos (.inl hg)]]
      exact fresh _ (by omega)
    · rw [if_neg (by omega)]
      by_cases hc : c = 0
      · rw [decide_eq_false (by omega), show hel c (a - n) = 1 by unfold hel; rw [if_pos (.inr hc)]]
        exact fresh _ (by omega)
      · rw [decide_eq_true hc, show z + 42 = z + 41 + 1 from rfl, milestonelaw14_LinkPlays.j4, if_neg (by simp), if_pos (by omega), e1, wr64 (a - n) (by omega), wr1 (a - n) (by omega)]
        have e6 := l2_is acts now L hR.1 p u i a (hel c (a - n) : Nat) ((a + 1 : Nat) : Int) p u ((now + 6 : Nat) : Int) (a - n + 1) (by omega) (z + 40 - (16 - (a - n + 1))) (16 - (a - n + 1)) 0 (List.replicate 16 false) (by simp) (by omega)
        rw [show z + 41 = z + 40 - (16 - (a - n + 1)) + (16 - (a - n + 1)) + 1 by omega]
        refine e6.trans ?_
        rw [e2, e3]
        exact j8_good acts B i now (a + 1) u (now + 6) _ p _ hG hi (rep_hel L c (a - n) hR hc (by omega)) (by omega) (by omega) (by omega) _ (by omega)

theorem rd_mem (acts : List S33) (i : Nat) (h : i < acts.length) : rd_T33 acts (i : Int) ∈ acts := by
  unfold rd_T33
  have : (i : Int).toNat = i := rfl
  rw [this, List.getD_eq_getElem?_getD, List.getElem?_eq_getElem h]
  exact List.getElem_mem h
theorem nat_of (k : IntKind) (hs : k.signed = false) (x : Int) (h : (Lit.int k x).wf = true) : 0 ≤ x := by
  cases k <;> simp [Lit.wf, IntKind.signed, IntKind.bits, IntKind.min, IntKind.max] at h hs ⊢ <;> omega
theorem act_good (acts : List S33) (hA : ∀ x ∈ acts, ((Lit.int .u8 x.f0).wf = true ∧ ((Lit.int .u8 x.f1).wf = true ∧ (Lit.int .u16 x.f2).wf = true)))
    (B i : Nat) (hl : i < acts.length) (hi : i < 1000) (hG : GoOn acts B (i + 1)) : GoOn acts (B + 500) i := by
  intro now n u q c p L hR h1 h2 h3 k hk
  obtain ⟨z, rfl⟩ : ∃ z, k = z + 500 := ⟨k - 500, by omega⟩
  obtain ⟨w0, w1, w2⟩ := hA _ (rd_mem acts i hl)
  rw [show z + 500 = (z + 499) + 1 from rfl, milestonelaw14_LinkPlays.l0, if_pos (by omega), if_pos (by omega)]
  generalize rd_T33 acts (i : Int) = x at w0 w1 w2 ⊢
  have w0' := nat_of .u8 rfl _ w0
  have w1' := nat_of .u8 rfl _ w1
  have w1h : x.f1 < 256 := by simp [Lit.wf, IntKind.signed, IntKind.bits, IntKind.min, IntKind.max] at w1; omega
  have w2' := nat_of .u16 rfl _ w2
  obtain ⟨K, hK⟩ : ∃ K : Nat, x.f0 = (K : Int) := ⟨x.f0.toNat, by omega⟩
  obtain ⟨N, hN⟩ : ∃ N : Nat, x.f1 = (N : Int) := ⟨x.f1.toNat, by omega⟩
  obtain ⟨C, hC⟩ : ∃ C : Nat, x.f2 = (C : Int) := ⟨x.f2.toNat, by omega⟩
  rw [hK, hN, hC]
  have hN2 : N < 256 := by omega
  have t12 : Int.tmod (K : Int) 12 = ((K % 12 : Nat) : Int) := rfl
  have t4 : Int.tmod (N : Int) 4 = ((N % 4 : Nat) : Int) := rfl
  have t8 : Int.tmod (N : Int) 8 = ((N % 8 : Nat) : Int) := rfl
  rw [t12, t4, t8]
  clear t12 t4 t8 w0' w1' w1h w2' w0 w1 w2
  by_cases hk4 : K % 12 < 4
  · rw [if_pos (by omega)]
    by_cases hk3 : K % 12 = 3
    · rw [if_pos (by omega), u64w N (by omega)]
      exact j2_good acts B i now n u q c N p L hG hi hR h1 h2 (by omega) _ (by omega)
    · have e1 : IntKind.u64.wrap ((n : Int) + ((N % 4 : Nat) : Int)) = ((n + N % 4 : Nat) : Int) := u64w (n + N % 4) (by omega)
      rw [if_neg (by omega), u64w (N % 4) (by omega), e1]
      exact j2_good acts B i now n u q c (n + N % 4) p L hG hi hR h1 h2 (by omega) _ (by omega)
  · rw [if_neg (by omega)]
    by_cases hk6 : K % 12 < 6
    · have e1 : IntKind.u64.wrap ((now : Int) + 20) = ((now + 20 : Nat) : Int) := u64w (now + 20) (by omega)
      rw [if_pos (by omega), heard_is _ _ _ _ _ C now (by omega), Option.bind_some, e1]
      have key := j8_good acts B i now n (now + 20) q c ((max C 1 : Nat) : Int) L hG hi hR (by omega) (by omega) (by omega) (z + 499) (by omega)
      by_cases hc : C = 0
      · rw [if_pos (by omega)]
        rw [hc] at key ⊢
        exact key
      · rw [if_neg (by omega)]
        have em : max C 1 = C := by omega
        rw [em] at key ⊢
        exact key
    · have e1 : IntKind.u64.wrap (1 + ((N % 8 : Nat) : Int)) = ((1 + N % 8 : Nat) : Int) := u64w (1 + N % 8) (by omega)
      have e2 : IntKind.u64.wrap ((now : Int) + ((1 + N % 8 : Nat) : Int)) = ((now + (1 + N % 8) : Nat) : Int) := u64w (now + (1 + N % 8)) (by omega)
      rw [if_neg (by omega), u64w (N % 8) (by omega), e1, e2]
      have hnow : now + (1 + N % 8) ≤ 300 + 10 * (i + 1) := by omega
      generalize now + (1 + N % 8) = now' at hnow ⊢
      rw [show z + 499 = (z + 482) + 17 from rfl, tickf_is _ c n u q now' p hR.2.1 (by omega) (by omega), Option.bind_some]
      obtain ⟨b1, b2, b3⟩ := tk_lt 17 c n q now' hR.2.1
      refine l3_good acts now' u i p _ _ _ _ _ 17 0 c n q (B + 20) L rfl (by omega) ⟨c, by omega⟩ hR (by omega) (by omega) ?_ _ (by omega)
      intro L' hR' k' hk'
      exact j8_good acts B i now' _ u _ _ _ L' hG hi hR' hnow (by omega) (by omega) k' hk'
theorem all_good (acts : List S33) (hA : ∀ x ∈ acts, ((Lit.int .u8 x.f0).wf = true ∧ ((Lit.int .u8 x.f1).wf = true ∧ (Lit.int .u16 x.f2).wf = true))) (hl : acts.length ≤ 100) (d : Nat) :
    ∀ i, i + d = acts.length → GoOn acts (500 * d + 1) i := by
  induction d with
  | zero =>
    intro i h now n u q c p L hR h1 h2 h3 k hk
    obtain ⟨z, rfl⟩ : ∃ z, k = z + 1 := ⟨k - 1, by omega⟩
    rw [milestonelaw14_LinkPlays.l0, if_neg (by omega)]
  | succ d ih =>
    intro i h
    rw [show 500 * (d + 1) + 1 = 500 * d + 1 + 500 by omega]
    exact act_good acts hA _ i (by omega) (by omega) (ih (i + 1) (by omega))
theorem LinkPlays : milestonelaw14_LinkPlays.Pure := by
  intro a0 acts hw hlen hA
  have w0' := nat_of .u8 rfl _ hw
  have w0h : a0 < 256 := by simp [Lit.wf, IntKind.signed, IntKind.bits, IntKind.min, IntKind.max] at hw; omega
  obtain ⟨s, rfl⟩ : ∃ s : Nat, a0 = (s : Int) := ⟨a0.toNat, by omega⟩
  refine ⟨500 * acts.length + 2, ?_⟩
  unfold milestonelaw14_LinkPlays.f
  rw [awake_is, Option.bind_some, if_pos rfl, show 500 * acts.length + 2 = (500 * acts.length + 1) + 1 from rfl, milestonelaw14_LinkPlays.j0]
  by_cases h100 : (acts.length : Int) > 100
  · rw [if_pos (decide_eq_true h100), awake_is, Option.bind_some]
  · have e6 : IntKind.u64.wrap ((s : Int) + 6) = ((s + 6 : Nat) : Int) := u64w (s + 6) (by omega)
    rw [if_neg (by simp only [decide_eq_true_iff]; exact h100), u64w s (by omega), new_is s (by omega), Option.bind_some, if_pos (by omega), e6]
    exact all_good acts hA (by omega) acts.length 0 (by omega) s 0 0 (s + 6) 0 65535 _ rep_zero (by omega) (by omega) (by omega) _ (Nat.le_refl _)

end Go.Proofs.Ytkdjpkgaknfdeaa.Pure
