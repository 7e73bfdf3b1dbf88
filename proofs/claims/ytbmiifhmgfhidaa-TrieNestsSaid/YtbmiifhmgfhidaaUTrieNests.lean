/- The route of the longest prefix has the address, and no longer one of the trie does; without it the next longer one is found.
For every input; no condition is added to the given statement. -/
import Derived.Test.YtbmiifhmgfhidaaQTrieNestsx6
import Derived.Laws.BitsAllLaws
import Derived.OpenShut
import Derived.Lib.Bytes
namespace Go.Proofs.Ytbmiifhmgfhidaa.Pure
open Go.RowKit Go.Proofs.Ytbmiifhmgfhidaa.QTrieNests Go.Proofs.YtbmiifhmgfhidaaW.PrintWords Go.Proofs.YtbmiifhmgfhidaaW.PrintLast Go.Proofs.YtbmiifhmgfhidaaW.PrintMore
set_option linter.unusedSimpArgs false
set_option linter.unusedVariables false

/-- how many bits are left behind the first n -/
def lo (n : Nat) : Nat := 2 ^ (32 - n)
theorem lo_pos (n : Nat) : 0 < lo n := Nat.two_pow_pos _
theorem lo_step (n : Nat) (h : n < 32) : lo n = lo (n + 1) * 2 := by
  unfold lo
  rw [show 32 - n = (32 - (n + 1)) + 1 by omega, Nat.pow_succ]
theorem lo_0 : lo 0 = 4294967296 := by decide
/-- the first n bits -/
def hi (a n : Nat) : Nat := a / lo n
def ofN (a n : Nat) : Nat := hi a n * lo n
def bitN (a i : Nat) : Bool := decide (a / 2 ^ (31 - i) % 2 = 1)
theorem hi_step (a n : Nat) (h : n < 32) : hi a (n + 1) = 2 * hi a n + (if bitN a n = true then 1 else 0) := by
  unfold hi bitN
  have e : lo (n + 1) = 2 ^ (31 - n) := by unfold lo; rw [show 32 - (n + 1) = 31 - n by omega]
  rw [lo_step n h, e, ← Nat.div_div_eq_div_mul]
  generalize a / 2 ^ (31 - n) = z
  by_cases hz : z % 2 = 1
  · rw [decide_eq_true hz, if_pos rfl]; omega
  · rw [decide_eq_false hz, if_neg (by decide)]; omega
theorem hi_0 (a : Nat) (h : a < 4294967296) : hi a 0 = 0 := by
  unfold hi
  rw [lo_0]
  omega
theorem hi_lt (a n : Nat) (h : a < 4294967296) (hn : n ≤ 32) : hi a n < 2 ^ n := by
  unfold hi lo
  rw [Nat.div_lt_iff_lt_mul (Nat.two_pow_pos _), ← Nat.pow_add, show n + (32 - n) = 32 by omega]
  omega
theorem ofN_eq (a n : Nat) : ofN a n = a - a % lo n := by
  unfold ofN hi
  have := Nat.div_add_mod a (lo n)
  rw [Nat.mul_comm] at this
  omega
theorem ofN_le (a n : Nat) : ofN a n ≤ a := by rw [ofN_eq]; omega
theorem hi_ofN (a n : Nat) : hi (ofN a n) n = hi a n := by
  unfold ofN
  rw [show hi (hi a n * lo n) n = hi a n * lo n / lo n from rfl, Nat.mul_div_cancel _ (lo_pos n)]
theorem ofN_mod (a n : Nat) : ofN a n % lo n = 0 := by
  unfold ofN
  exact Nat.mul_mod_left _ _
def maskN (n : Nat) : Nat := if n = 0 ∨ 32 < n then 0 else 4294967296 - lo n
theorem mask_is (n : Nat) (h : n < 256) : prefix_mask.f (n : Int) = some ((maskN n : Nat) : Int) := by
  have : ∀ n, n < 256 → prefix_mask.f ((n : Nat) : Int) = some ((maskN n : Nat) : Int) := by decide +kernel
  exact this n h
theorem maskN_lt (n : Nat) : maskN n < 4294967296 := by
  unfold maskN
  have := lo_pos n
  split <;> omega
theorem and_mask (a n : Nat) (ha : a < 4294967296) (hn : n ≤ 32) : a &&& maskN n = ofN a n := by
  by_cases h0 : n = 0
  · subst h0
    rw [show maskN 0 = 0 from rfl, Nat.and_zero]
    unfold ofN
    rw [hi_0 a ha, Nat.zero_mul]
  · have e : maskN n = 2 ^ (32 - n) * (2 ^ n - 1) := by
      unfold maskN lo
      rw [if_neg (by omega), Nat.mul_sub, ← Nat.pow_add, show 32 - n + n = 32 by omega, Nat.mul_one]
    have e2 : ofN a n = 2 ^ (32 - n) * (a / 2 ^ (32 - n)) := by
      unfold ofN hi lo
      rw [Nat.mul_comm]
    rw [e, e2]
    apply Nat.eq_of_testBit_eq
    intro i
    rw [Nat.testBit_and, Nat.testBit_two_pow_mul, Nat.testBit_two_pow_mul, Nat.testBit_two_pow_sub_one]
    by_cases hi' : 32 - n ≤ i
    · rw [Nat.testBit_div_two_pow, show i - (32 - n) + (32 - n) = i by omega]
      by_cases hlt : i - (32 - n) < n
      · simp [hi', hlt]
      · have : a.testBit i = false := Nat.testBit_lt_two_pow (Nat.lt_of_lt_of_le ha (by
          rw [show (4294967296 : Nat) = 2 ^ 32 from rfl]
          exact Nat.pow_le_pow_right (by omega) (by omega)))
        simp [this]
    · simp [hi']
theorem bits_mask (a n : Nat) (ha : a < 4294967296) (hn : n ≤ 32) : Go.bits .and .u32 (a : Int) ((maskN n : Nat) : Int) = ((ofN a n : Nat) : Int) := by
  rw [u32_and_nat a _ ha (maskN_lt n), and_mask a n ha hn]
theorem not_mask (n : Nat) (hn : n ≤ 32) : 4294967295 - maskN n = 2 ^ (32 - n) - 1 := by
  unfold maskN lo
  have hp : 0 < 2 ^ (32 - n) := Nat.two_pow_pos _
  have hle : 2 ^ (32 - n) ≤ 4294967296 := Nat.pow_le_pow_right (n := 2) (by omega) (show 32 - n ≤ 32 by omega)
  by_cases h0 : n = 0
  · subst h0; rfl
  · rw [if_neg (by omega)]
    omega
theorem bits_not (a n : Nat) (ha : a < 4294967296) (hn : n ≤ 32) : Go.bits .andNot .u32 (a : Int) ((maskN n : Nat) : Int) = ((a % lo n : Nat) : Int) := by
  rw [u32_andNot_nat a _ ha (maskN_lt n), not_mask n hn, Nat.and_two_pow_sub_one_eq_mod]
  rfl
theorem rbit_loop (d : Nat) : ∀ (k x i : Nat), i + d = 31 → x < 4294967296 → d < k → milestoneref01_Bit.l0 k (x : Int) (i : Int) = some (decide (x / 2 ^ d % 2 = 1)) := by
  induction d with
  | zero =>
    intro k x i hi hx hk
    obtain ⟨k, rfl⟩ : ∃ m, k = m + 1 := ⟨k - 1, by omega⟩
    rw [milestoneref01_Bit.l0, if_neg (by omega), Int.tmod_eq_emod_of_nonneg (Int.natCast_nonneg _), Nat.pow_zero, Nat.div_one]
    refine congrArg some ?_
    by_cases h : x % 2 = 1
    · rw [decide_eq_true h]
      exact beq_iff_eq.2 (by omega)
    · rw [decide_eq_false h]
      exact beq_eq_false_iff_ne.2 (by omega)
  | succ d ih =>
    intro k x i hi hx hk
    obtain ⟨k, rfl⟩ : ∃ m, k = m + 1 := ⟨k - 1, by omega⟩
    have e1 : Aside0 (wrap64 ((i : Int) + 1) = ((i + 1 : Nat) : Int)) := ⟨by unfold wrap64; omega⟩
    have e2 : Aside0 ((Int.tdiv (x : Int) 2) % 4294967296 = ((x / 2 : Nat) : Int)) := ⟨by rw [Int.tdiv_eq_ediv_of_nonneg (Int.natCast_nonneg _)]; omega⟩
    have key := ih k (x / 2) (i + 1) (by omega) (by omega) (by omega)
    rw [milestoneref01_Bit.l0, if_pos (by omega), e1.out, e2.out, key, Nat.div_div_eq_div_mul, Nat.pow_succ, Nat.mul_comm 2]
theorem rbit_is (k a i : Nat) (ha : a < 4294967296) (hi : i < 32) (hk : 32 < k) : milestoneref01_Bit.f k (a : Int) (i : Int) = some (bitN a i) := by
  unfold milestoneref01_Bit.f
  exact rbit_loop (31 - i) k a i (by omega) ha (by omega)
theorem rof_loop (a n : Nat) (ha : a < 4294967296) (hn : n ≤ 32) (d : Nat) : ∀ (k i : Nat), i + d = 32 → 40 + d < k →
    milestoneref01_Of.l0 k (a : Int) (n : Int) ((hi a (min i n) * 2 ^ (i - n) : Nat) : Int) (i : Int) = some (((ofN a n : Nat) : Int), (n : Int)) := by
  induction d with
  | zero =>
    intro k i hi' hk
    obtain ⟨k, rfl⟩ : ∃ m, k = m + 1 := ⟨k - 1, by omega⟩
    have e : i = 32 := by omega
    subst e
    rw [milestoneref01_Of.l0, if_neg (by omega), Nat.min_eq_right hn]
    rfl
  | succ d ih =>
    intro k i hi' hk
    obtain ⟨k, rfl⟩ : ∃ m, k = m + 1 := ⟨k - 1, by omega⟩
    have e1 : Aside0 (wrap64 ((i : Int) + 1) = ((i + 1 : Nat) : Int)) := ⟨by unfold wrap64; omega⟩
    have e2 : Aside0 (wrap64 (n : Int) = (n : Int)) := ⟨by unfold wrap64; omega⟩
    have key := ih k (i + 1) (by omega) (by omega)
    have ht : (i : Int) < 32 := by omega
    rw [milestoneref01_Of.l0, if_pos ht, e1.out, e2.out]
    by_cases hlt : i < n
    · have hs := hi_step a i (by omega)
      have hl := hi_lt a (i + 1) ha (by omega)
      have hp : 2 ^ (i + 1) ≤ 4294967296 := Nat.pow_le_pow_right (n := 2) (by omega) (show i + 1 ≤ 32 by omega)
      rw [Nat.min_eq_left (by omega), show i + 1 - n = 0 by omega, Nat.pow_zero, Nat.mul_one] at key
      have ht2 : (i : Int) < (n : Int) := by omega
      rw [if_pos ht2, rbit_is k a i ha (by omega) (by omega), Option.bind_some, Nat.min_eq_left (by omega), show i - n = 0 by omega, Nat.pow_zero, Nat.mul_one]
      by_cases hb : bitN a i = true
      · rw [if_pos hb] at hs
        have e3 : (((hi a i : Nat) : Int) * 2 + 1) % 4294967296 = ((hi a (i + 1) : Nat) : Int) := by omega
        rw [if_pos hb, e3]
        exact key
      · rw [if_neg hb] at hs
        have e3 : (((hi a i : Nat) : Int) * 2) % 4294967296 = ((hi a (i + 1) : Nat) : Int) := by omega
        rw [if_neg hb, e3]
        exact key
    · have ht2 : ¬ (i : Int) < (n : Int) := by omega
      have hl := hi_lt a n ha hn
      have hq : hi a n * 2 ^ (i - n) * 2 < 4294967296 := by
        have h1 : hi a n * 2 ^ (i - n) * 2 = hi a n * 2 ^ (i + 1 - n) := by rw [show i + 1 - n = i - n + 1 by omega, Nat.pow_succ, Nat.mul_assoc]
        have h2 : hi a n * 2 ^ (i + 1 - n) < 2 ^ n * 2 ^ (i + 1 - n) := Nat.mul_lt_mul_of_pos_right hl (Nat.two_pow_pos _)
        have h3 : 2 ^ n * 2 ^ (i + 1 - n) ≤ 2 ^ 32 := by
          rw [← Nat.pow_add]
          exact Nat.pow_le_pow_right (by omega) (by omega)
        rw [h1]
        exact Nat.lt_of_lt_of_le h2 h3
      have h1 : hi a n * 2 ^ (i + 1 - n) = hi a n * 2 ^ (i - n) * 2 := by rw [show i + 1 - n = i - n + 1 by omega, Nat.pow_succ, Nat.mul_assoc]
      rw [Nat.min_eq_right (by omega), h1] at key
      rw [if_neg ht2, Nat.min_eq_right (by omega)]
      generalize hi a n * 2 ^ (i - n) = z at key hq ⊢
      have e3 : ((z : Int) * 2) % 4294967296 = ((z * 2 : Nat) : Int) := by omega
      rw [e3]
      exact key
theorem rof_is (k a n : Nat) (ha : a < 4294967296) (hn : n < 256) (hk : 80 < k) : milestoneref01_Of.f k (a : Int) (n : Int) = some (((ofN a (min n 32) : Nat) : Int), ((min n 32 : Nat) : Int)) := by
  obtain ⟨k, rfl⟩ : ∃ m, k = m + 1 := ⟨k - 1, by omega⟩
  have key := rof_loop a (min n 32) ha (by omega) 32 k 0 (by omega) (by omega)
  rw [Nat.zero_min, hi_0 a ha, Nat.zero_mul] at key
  unfold milestoneref01_Of.f
  by_cases h : n > 32
  · rw [Nat.min_eq_right (by omega)] at key ⊢
    rw [if_pos (by omega), milestoneref01_Of.j0]
    exact key
  · rw [Nat.min_eq_left (by omega)] at key ⊢
    rw [if_neg (by omega), milestoneref01_Of.j0]
    exact key
theorem eq_hi (p a n : Nat) (hp : p % lo n = 0) : ofN a n = p ↔ hi p n = hi a n := by
  have hl := lo_pos n
  constructor
  · intro h
    rw [← h, hi_ofN]
  · intro h
    unfold ofN
    rw [← h]
    unfold hi
    exact Nat.div_mul_cancel (Nat.dvd_of_mod_eq_zero hp)
theorem has_is (p n a : Nat) (hn : n ≤ 32) (ha : a < 4294967296) : prefix_Has.f (p : Int) (n : Int) (a : Int) = some (decide (ofN a n = p)) := by
  unfold prefix_Has.f
  rw [mask_is n (by omega), Option.bind_some, bits_mask a n ha hn]
  refine congrArg some ?_
  by_cases h : ofN a n = p
  · rw [decide_eq_true h, h]
    exact beq_self_eq_true _
  · rw [decide_eq_false h]
    exact beq_eq_false_iff_ne.2 (fun q => h (Int.natCast_inj.1 q))
theorem right_is (a n : Nat) (ha : a < 4294967296) (hn : n < 256) : prefix_Right.f (a : Int) (n : Int) = some (decide (n ≤ 32 ∧ a % lo n = 0)) := by
  unfold prefix_Right.f
  by_cases h : n ≤ 32
  · rw [if_pos (by omega), mask_is n hn, Option.bind_some, bits_not a n ha h]
    refine congrArg some ?_
    by_cases h2 : a % lo n = 0
    · rw [decide_eq_true ⟨h, h2⟩]
      exact beq_iff_eq.2 (by omega)
    · rw [decide_eq_false (fun q => h2 q.2)]
      exact beq_eq_false_iff_ne.2 (by omega)
  · rw [if_neg (by omega), decide_eq_false (fun q => h q.1)]
theorem bit_is (a i : Nat) (ha : a < 4294967296) (hi' : i < 256) : prefix_Bit.f (a : Int) (i : Int) = some (if i < 32 then bitN a i else false) := by
  unfold prefix_Bit.f
  by_cases h : i < 32
  · have e1 : shr .u32 (a : Int) ((31 - (i : Int)) % 256) = ((a / 2 ^ (31 - i) : Nat) : Int) := by
      unfold shr
      have e : min ((31 - (i : Int)) % 256).toNat IntKind.u32.bits = 31 - i := by
        have : IntKind.u32.bits = 32 := rfl
        omega
      rw [e, show ((2 : Int) ^ (31 - i)) = ((2 ^ (31 - i) : Nat) : Int) by simp]
      exact (Int.natCast_ediv _ _).symm
    have hd : a / 2 ^ (31 - i) < 4294967296 := Nat.lt_of_le_of_lt (Nat.div_le_self _ _) ha
    have e2 : Go.bits .and .u32 ((a / 2 ^ (31 - i) : Nat) : Int) 1 = ((a / 2 ^ (31 - i) % 2 : Nat) : Int) := by
      have := u32_and_nat (a / 2 ^ (31 - i)) 1 hd (by omega)
      rw [Nat.and_one_is_mod] at this
      exact this
    rw [if_pos (by omega), if_pos h, e1, e2]
    refine congrArg some ?_
    unfold bitN
    by_cases hb : a / 2 ^ (31 - i) % 2 = 1
    · rw [decide_eq_true hb, hb]; rfl
    · rw [decide_eq_false hb]
      exact beq_eq_false_iff_ne.2 (by omega)
  · rw [if_neg (by omega), if_neg h]

/-! ## a tree of bits, as a map -/
section
open Tr
variable {α : Type}
theorem Tr.get_put (p : List Bool) (r : α) : ∀ (T : Tr α) (q : List Bool), Tr.get (Tr.put T p r) q = if q = p then some r else Tr.get T q := by
  have main : ∀ p : List Bool, ∀ (T : Tr α) (q : List Bool), Tr.get (Tr.put T p r) q = if q = p then some r else Tr.get T q := by
    intro p
    induction p with
    | nil =>
      intro T q
      have hn : ∀ (o : Option α) (a b : Tr α), Tr.get (Tr.node (some r) a b) q = if q = [] then some r else Tr.get (Tr.node o a b) q := by
        intro o a b
        cases q with
        | nil => rw [if_pos rfl]; rfl
        | cons k q => rw [if_neg (by simp)]; cases k <;> rfl
      cases T with
      | nil =>
        have h2 : Tr.get (Tr.nil : Tr α) q = Tr.get (Tr.node none Tr.nil Tr.nil) q := by
          cases q with
          | nil => rfl
          | cons k q => cases k <;> simp [Tr.get, get_nil]
        rw [h2]
        exact hn none Tr.nil Tr.nil
      | node o a b => exact hn o a b
    | cons k p ih =>
      intro T q
      have hn : ∀ (o : Option α) (a b : Tr α), Tr.get (Tr.put (Tr.node o a b) (k :: p) r) q = if q = k :: p then some r else Tr.get (Tr.node o a b) q := by
        intro o a b
        cases q with
        | nil =>
          rw [if_neg (by simp)]
          cases k <;> rfl
        | cons k2 q =>
          cases k <;> cases k2
          · have := ih a q
            simp only [Tr.put, Tr.get, this, List.cons.injEq, true_and]
          · rw [if_neg (by simp)]; rfl
          · rw [if_neg (by simp)]; rfl
          · have := ih b q
            simp only [Tr.put, Tr.get, this, List.cons.injEq, true_and]
      cases T with
      | nil =>
        rw [put_nil, hn, get_nil]
        congr 1
        cases q with
        | nil => rfl
        | cons k q => cases k <;> simp [Tr.get, get_nil]
      | node o a b => exact hn o a b
  exact main p
/-- a cut: what leads nowhere is Tr.nil -/
theorem Tr.get_prune (T : Tr α) (q : List Bool) : Tr.get (Tr.prune T) q = Tr.get T q := by
  unfold Tr.prune
  split
  · rw [get_nil]
    cases q with
    | nil => rfl
    | cons k q => cases k <;> simp [Tr.get, get_nil]
  · rfl
theorem Tr.get_drop (p : List Bool) : ∀ (T : Tr α) (q : List Bool), Tr.get (Tr.drop T p) q = if q = p then none else Tr.get T q := by
  induction p with
  | nil =>
    intro T q
    cases T with
    | nil => simp [Tr.drop, get_nil]
    | node o a b =>
      cases q with
      | nil => rfl
      | cons k q => rw [if_neg (by simp)]; cases k <;> rfl
  | cons k p ih =>
    intro T q
    cases T with
    | nil => simp [Tr.drop, get_nil]
    | node o a b =>
      cases q with
      | nil => rw [if_neg (by simp)]; cases k <;> rfl
      | cons k2 q =>
        cases k <;> cases k2
        · have := ih a q
          simp only [Tr.drop, Tr.get, Tr.get_prune, this, List.cons.injEq, true_and]
        · rw [if_neg (by simp)]; rfl
        · rw [if_neg (by simp)]; rfl
        · have := ih b q
          simp only [Tr.drop, Tr.get, Tr.get_prune, this, List.cons.injEq, true_and]
theorem Tr.mem_all (T : Tr α) : ∀ r, r ∈ Tr.all T ↔ ∃ p, Tr.get T p = some r := by
  induction T with
  | nil => intro r; simp [Tr.all, get_nil]
  | node o a b iha ihb =>
    intro r
    simp only [Tr.all, List.mem_append, iha, ihb]
    constructor
    · rintro ((h | ⟨p, h⟩) | ⟨p, h⟩)
      · exact ⟨[], by cases o <;> simp_all [Tr.get]⟩
      · exact ⟨false :: p, h⟩
      · exact ⟨true :: p, h⟩
    · rintro ⟨p, h⟩
      cases p with
      | nil => exact .inl (.inl (by simp only [Tr.get] at h; subst h; simp))
      | cons k p => cases k
                    · exact .inl (.inr ⟨p, h⟩)
                    · exact .inr ⟨p, h⟩
end

/-! ## prefixes and the ways of a tree -/
def pth (a n : Nat) : List Bool := (List.range n).map (bitN a)
theorem pth_length (a n : Nat) : (pth a n).length = n := by unfold pth; simp
theorem side_is2 (a i : Nat) (ha : a < 4294967296) (hi' : i < 32) : (trie_side.f (a : Int) (i : Int) == some 1) = bitN a i := by
  unfold trie_side.f
  rw [bit_is a i ha (by omega), if_pos hi', Option.bind_some]
  cases bitN a i <;> rfl
theorem pathFrom_is (a : Nat) (ha : a < 4294967296) (m : Nat) : ∀ i, i + m ≤ 32 → pathFrom (a : Int) m i = (List.range' i m).map (bitN a) := by
  induction m with
  | zero => intro i _; rfl
  | succ m ih =>
    intro i hi'
    rw [pathFrom, side_is2 a i ha (by omega), ih (i + 1) (by omega), List.range'_succ]
    rfl
theorem path_is (a n : Nat) (ha : a < 4294967296) (hn : n ≤ 32) : pathFrom (a : Int) n 0 = pth a n := by
  rw [pathFrom_is a ha n 0 (by omega)]
  unfold pth
  rw [List.range_eq_range']
theorem pth_succ (a n : Nat) : pth a (n + 1) = pth a n ++ [bitN a n] := by
  unfold pth
  rw [List.range_succ, List.map_append]
  rfl
theorem pth_hi (a b : Nat) (ha : a < 4294967296) (hb : b < 4294967296) (n : Nat) (hn : n ≤ 32) : pth a n = pth b n ↔ hi a n = hi b n := by
  induction n with
  | zero => rw [hi_0 a ha, hi_0 b hb]; exact ⟨fun _ => rfl, fun _ => rfl⟩
  | succ n ih =>
    have ih := ih (by omega)
    rw [pth_succ, pth_succ]
    have s1 := hi_step a n (by omega)
    have s2 := hi_step b n (by omega)
    constructor
    · intro h
      have h2 := List.append_inj' h rfl
      have e1 := ih.1 h2.1
      have e2 : bitN a n = bitN b n := by simpa using h2.2
      rw [s1, s2, e1, e2]
    · intro h
      have e1 : hi a n = hi b n := by rw [s1, s2] at h; split at h <;> split at h <;> omega
      have e2 : bitN a n = bitN b n := by
        rw [s1, s2, e1] at h
        cases h1 : bitN a n <;> cases h2 : bitN b n <;> simp [h1, h2] at h <;> rfl
      rw [ih.2 e1, e2]
theorem pth_take (a : Nat) (n m : Nat) (h : n ≤ m) : (pth a m).take n = pth a n := by
  unfold pth
  rw [← List.map_take, List.take_range, Nat.min_eq_left h]
/-- a prefix that may be -/
def Rt (a n : Nat) : Prop := a < 4294967296 ∧ n ≤ 32 ∧ a % lo n = 0
theorem Rt.hi_mul {a n : Nat} (h : Rt a n) : hi a n * lo n = a := by
  unfold hi
  exact Nat.div_mul_cancel (Nat.dvd_of_mod_eq_zero h.2.2)
theorem pth_inj {a n b m : Nat} (h : Rt a n) (k : Rt b m) (e : pth a n = pth b m) : a = b ∧ n = m := by
  have hl : n = m := by rw [← pth_length a n, ← pth_length b m, e]
  subst hl
  have e2 := (pth_hi a b h.1 k.1 n h.2.1).1 e
  exact ⟨by rw [← h.hi_mul, ← k.hi_mul, e2], rfl⟩
theorem has_pth {p n a : Nat} (h : Rt p n) (ha : a < 4294967296) : prefix_Has.f (p : Int) (n : Int) (a : Int) = some (decide (pth p n = pth a n)) := by
  rw [has_is p n a h.2.1 ha]
  refine congrArg some ?_
  rw [decide_eq_decide, eq_hi p a n h.2.2]
  exact (pth_hi p a h.1 ha n h.2.1).symm
theorem right_rt {a n : Nat} (h : Rt a n) : prefix_Right.f (a : Int) (n : Int) = some true := by
  rw [right_is a n h.1 (by have := h.2.1; omega)]
  exact congrArg some (decide_eq_true ⟨h.2.1, h.2.2⟩)
/-- what stands in a tree stands at its prefix's way -/
def Inv (T : Tr S33) : Prop := ∀ q r, T.get q = some r → ∃ a n : Nat, r.f0 = ⟨(a : Int), (n : Int)⟩ ∧ Rt a n ∧ q = pth a n
theorem Inv.nil : Inv (Tr.node none Tr.nil Tr.nil) := by
  intro q r h
  have : Tr.get (Tr.node none Tr.nil Tr.nil : Tr S33) q = none := by rw [← Tr.get_nil2]; exact Tr.get_nil q
  rw [this] at h
  cases h
theorem Inv.put {T : Tr S33} (h : Inv T) {a n : Nat} (hr : Rt a n) (v m s : Int) : Inv (T.put (pth a n) ⟨⟨(a : Int), (n : Int)⟩, v, m, s⟩) := by
  intro q r hq
  rw [Tr.get_put] at hq
  by_cases e : q = pth a n
  · rw [if_pos e] at hq
    injection hq with hq
    subst hq
    exact ⟨a, n, rfl, hr, e⟩
  · rw [if_neg e] at hq
    exact h q r hq
theorem Inv.drop {T : Tr S33} (h : Inv T) (p : List Bool) : Inv (T.drop p) := by
  intro q r hq
  rw [Tr.get_drop] at hq
  by_cases e : q = p
  · rw [if_pos e] at hq; cases hq
  · rw [if_neg e] at hq
    exact h q r hq
theorem put_f {T : Tr S33} {a n : Nat} (hr : Rt a n) (hc : T.all.length < 1000000) (v m s : Int) : trie_Trie_Put.f T (a : Int) (n : Int) v m s = some (0, T.put (pth a n) ⟨⟨(a : Int), (n : Int)⟩, v, m, s⟩) := by
  unfold trie_Trie_Put.f
  rw [right_rt hr, Option.bind_some, if_pos rfl, if_pos hc, Int.toNat_natCast, path_is a n hr.1 hr.2.1]
theorem put_len (T : Tr S33) (p : List Bool) (r : S33) : (T.put p r).all.length ≤ T.all.length + 1 := by
  have := Tr.len_put p r T
  omega
theorem drop_len (T : Tr S33) (p : List Bool) : (T.drop p).all.length ≤ T.all.length := by
  have := Tr.len_drop p T
  omega
/-- the deepest on the way -/
theorem look_spec (q : List Bool) : ∀ (T : Tr S33) (d : Option S33), (T.look q d = d ∧ ∀ i, i ≤ q.length → T.get (q.take i) = none) ∨ ∃ i r, i ≤ q.length ∧ T.look q d = some r ∧ T.get (q.take i) = some r ∧ ∀ j, i < j → j ≤ q.length → T.get (q.take j) = none := by
  induction q with
  | nil =>
    intro T d
    cases T with
    | nil => exact .inl ⟨rfl, fun i _ => Tr.get_nil _⟩
    | node o a b =>
      cases o with
      | none => exact .inl ⟨rfl, fun i _ => by rw [List.take_nil]; rfl⟩
      | some r => exact .inr ⟨0, r, Nat.le_refl _, rfl, rfl, fun j h1 h2 => absurd h2 (by simp; omega)⟩
  | cons k q ih =>
    intro T d
    cases T with
    | nil => exact .inl ⟨rfl, fun i _ => Tr.get_nil _⟩
    | node o a b =>
      obtain ⟨s, hs1, hs2⟩ : ∃ s : Tr S33, (Tr.node o a b).look (k :: q) d = s.look q (o.or d) ∧ ∀ i, (Tr.node o a b).get ((k :: q).take (i + 1)) = s.get (q.take i) := by
        cases k
        · exact ⟨a, rfl, fun _ => rfl⟩
        · exact ⟨b, rfl, fun _ => rfl⟩
      rw [hs1]
      rcases ih s (o.or d) with ⟨h1, h2⟩ | ⟨i, r, h1, h2, h3, h4⟩
      · cases o with
        | none =>
          refine .inl ⟨h1, fun i hi' => ?_⟩
          cases i with
          | zero => rfl
          | succ i => rw [hs2]; exact h2 i (by simpa using hi')
        | some r =>
          refine .inr ⟨0, r, Nat.zero_le _, h1, rfl, fun j hj1 hj2 => ?_⟩
          cases j with
          | zero => omega
          | succ j => rw [hs2]; exact h2 j (by simpa using hj2)
      · refine .inr ⟨i + 1, r, by simpa using h1, h2, by rw [hs2]; exact h3, fun j hj1 hj2 => ?_⟩
        cases j with
        | zero => omega
        | succ j => rw [hs2]; exact h4 j (by omega) (by simpa using hj2)
theorem look_f (T : Tr S33) (a : Nat) (ha : a < 4294967296) : trie_Trie_Look.f T (a : Int) = some ((oR (T.look (pth a 32) none)).f0.f0, (oR (T.look (pth a 32) none)).f0.f1, (oR (T.look (pth a 32) none)).f1, (oR (T.look (pth a 32) none)).f2, (oR (T.look (pth a 32) none)).f3, (T.look (pth a 32) none).isSome, T) := by
  unfold trie_Trie_Look.f
  rw [path_is a 32 ha (Nat.le_refl _)]
/-- the longest prefix of an address, if its tree is right -/
theorem look_is {T : Tr S33} (h : Inv T) (a : Nat) (ha : a < 4294967296) : (T.look (pth a 32) none = none ∧ ∀ n, n ≤ 32 → T.get (pth a n) = none) ∨ ∃ b n v m s, T.look (pth a 32) none = some ⟨⟨((b : Nat) : Int), ((n : Nat) : Int)⟩, v, m, s⟩ ∧ Rt b n ∧ pth b n = pth a n ∧ T.get (pth a n) = some ⟨⟨((b : Nat) : Int), ((n : Nat) : Int)⟩, v, m, s⟩ ∧ ∀ j, n < j → j ≤ 32 → T.get (pth a j) = none := by
  rcases look_spec (pth a 32) T none with ⟨h1, h2⟩ | ⟨i, r, h1, h2, h3, h4⟩
  · refine .inl ⟨h1, fun n hn => ?_⟩
    rw [← pth_take a n 32 hn]
    exact h2 n (by rw [pth_length]; exact hn)
  · rw [pth_length] at h1 h4
    rw [pth_take a i 32 h1] at h3
    obtain ⟨b, n, e, hr, hq⟩ := h _ r h3
    have hl : i = n := by rw [← pth_length a i, ← pth_length b n, hq]
    subst hl
    obtain ⟨p, v, m, s⟩ := r
    subst e
    exact .inr ⟨b, i, v, m, s, h2, hr, hq.symm, h3, fun j hj hj2 => by rw [← pth_take a j 32 hj2]; exact h4 j hj hj2⟩
/-! ### places of acts -/
theorem t3 (q : Nat) : Int.tmod (q : Int) 3 = ((q % 3 : Nat) : Int) := rfl
theorem d3 (q : Nat) : Int.tdiv (q : Int) 3 = ((q / 3 : Nat) : Int) := rfl
theorem d6 (q : Nat) : Int.tdiv (q : Int) 6 = ((q / 6 : Nat) : Int) := rfl
theorem prefix18 (k p : Nat) (hp : p < 256) : milestoneref07_Prefix.f k (p : Int) = milestoneref07_Prefix.f k ((p % 18 : Nat) : Int) := by
  unfold milestoneref07_Prefix.f
  rw [t3, t3, d3, d3, d6, d6]
  have e1 : (p % 18 : Nat) % 3 = p % 3 := by omega
  have e2 : (((p % 18 / 3 : Nat) : Int)) % 2 = ((p / 3 : Nat) : Int) % 2 := by omega
  have e3 : (((p % 18 / 6 : Nat) : Int)) % 256 % 3 = ((p / 6 : Nat) : Int) % 256 % 3 := by omega
  rw [e1, e2, e3]
def prefOk (p : Nat) : Bool := match milestoneref07_Prefix.f 40 (p : Int) with
  | some (a, n) => decide (0 ≤ a ∧ a < 4294967296 ∧ 0 ≤ n ∧ n ≤ 32 ∧ a.toNat % lo n.toNat = 0)
  | none => false
theorem pref_all : ((List.range 18).all prefOk) = true := by decide +kernel
theorem at_rounds {α : Type} {f : Nat → Option α} (hm : ∀ k, LeO (f k) (f (k + 1))) {a b : Nat} (h : a ≤ b) {r : α} (hr : f a = some r) : f b = some r := by
  obtain ⟨d, rfl⟩ : ∃ d, b = a + d := ⟨b - a, by omega⟩
  clear h
  induction d with
  | zero => exact hr
  | succ d ih => exact hm (a + d) r ih
theorem pref_is (p : Nat) (hp : p < 256) : ∃ a n : Nat, Rt a n ∧ ∀ k, 40 ≤ k → milestoneref07_Prefix.f k (p : Int) = some ((a : Int), (n : Int)) := by
  have h := pref_all
  rw [List.all_eq_true] at h
  have h2 := h (p % 18) (List.mem_range.2 (Nat.mod_lt _ (by omega)))
  unfold prefOk at h2
  cases hx : milestoneref07_Prefix.f 40 ((p % 18 : Nat) : Int) with
  | none => rw [hx] at h2; cases h2
  | some x =>
    obtain ⟨a, n⟩ := x
    rw [hx] at h2
    obtain ⟨h3, h4, h5, h6, h7⟩ := of_decide_eq_true h2
    refine ⟨a.toNat, n.toNat, ⟨by omega, by omega, h7⟩, fun k hk => ?_⟩
    rw [prefix18 k p hp, Int.toNat_of_nonneg h3, Int.toNat_of_nonneg h5]
    exact at_rounds (fun k => milestoneref07_Prefix.mono _ k) hk hx
theorem place_is (f0 : Int) (f1 f2 f3 : Nat) (h1 : f1 < 4294967296) (h2 : f2 < 256) : ∃ a n : Nat, Rt a n ∧ ∀ k, 100 ≤ k → milestonelaw09_place.f k f0 (f1 : Int) (f2 : Int) (f3 : Int) = some ((a : Int), (n : Int)) := by
  by_cases h : Int.tmod (f3 : Int) 2 = 0
  · obtain ⟨a, n, hr, hk⟩ := pref_is f2 h2
    refine ⟨a, n, hr, fun k hkk => ?_⟩
    unfold milestonelaw09_place.f
    rw [if_pos h, hk k (by omega)]
    rfl
  · have e : Int.tmod (f2 : Int) 34 = ((f2 % 34 : Nat) : Int) := rfl
    refine ⟨ofN f1 (min (f2 % 34) 32), min (f2 % 34) 32, ⟨Nat.lt_of_le_of_lt (ofN_le _ _) h1, Nat.min_le_right _ _, ofN_mod _ _⟩, fun k hkk => ?_⟩
    unfold milestonelaw09_place.f
    rw [if_neg h, e, rof_is k f1 (f2 % 34) h1 (by omega) (by omega)]
    rfl

theorem w30 (x : S30) (h : (Lit.int .u8 x.f0).wf = true ∧ ((Lit.int .u32 x.f1).wf = true ∧ ((Lit.int .u8 x.f2).wf = true ∧ (Lit.int .u8 x.f3).wf = true))) : ∃ b c d : Nat, x.f1 = (b : Int) ∧ x.f2 = (c : Int) ∧ x.f3 = (d : Int) ∧ b < 4294967296 ∧ c < 256 ∧ d < 256 := by
  have h1 := Go.bounds_u32 h.2.1
  have h2 := Go.bounds_u8 h.2.2.1
  have h3 := Go.bounds_u8 h.2.2.2
  exact ⟨x.f1.toNat, x.f2.toNat, x.f3.toNat, by omega, by omega, by omega, by omega, by omega, by omega⟩
theorem rd30_mem (l : List S30) (i : Nat) (h : i < l.length) : rd_T30 l (i : Int) ∈ l := by
  show l.getD (i : Int).toNat z30 ∈ l
  rw [Int.toNat_natCast, List.getD_eq_getElem?_getD, List.getElem?_eq_getElem h]
  exact List.getElem_mem h
theorem rd33_mem (l : List S33) (i : Nat) (h : i < l.length) : rd_T33 l (i : Int) ∈ l := by
  show l.getD (i : Int).toNat z33 ∈ l
  rw [Int.toNat_natCast, List.getD_eq_getElem?_getD, List.getElem?_eq_getElem h]
  exact List.getElem_mem h
theorem act_place (x : S30) (h : (Lit.int .u8 x.f0).wf = true ∧ ((Lit.int .u32 x.f1).wf = true ∧ ((Lit.int .u8 x.f2).wf = true ∧ (Lit.int .u8 x.f3).wf = true))) : ∃ a n : Nat, Rt a n ∧ ∀ k, 100 ≤ k → milestonelaw09_place.f k x.f0 x.f1 x.f2 x.f3 = some ((a : Int), (n : Int)) := by
  obtain ⟨b, c, d, e1, e2, e3, h1, h2, h3⟩ := w30 x h
  rw [e1, e2, e3]
  exact place_is x.f0 b c d h1 h2
theorem wr1 (i : Nat) (h : i < 1000000) : wrap64 ((i : Int) + 1) = ((i + 1 : Nat) : Int) := by unfold wrap64; omega
theorem awake_is : milestonelaw09_awake.f = some true := by decide +kernel

theorem nests_l0 (x0 : List S30) (x1 : Int) (hw : ∀ x ∈ x0, (Lit.int .u8 x.f0).wf = true ∧ ((Lit.int .u32 x.f1).wf = true ∧ ((Lit.int .u8 x.f2).wf = true ∧ (Lit.int .u8 x.f3).wf = true))) (hl : x0.length ≤ 40) (d : Nat) : ∀ (i : Nat) (T : Tr S33), i + d = x0.length → Inv T → T.all.length ≤ i → ∃ T', Inv T' ∧ T'.all.length ≤ 40 ∧ ∀ k, 100 ≤ k → milestonelaw09_TrieNests.l0 (k + d + 1) x0 x1 (i : Int) T = milestonelaw09_TrieNests.l1 k x1 99 0 T' := by
  induction d with
  | zero =>
    intro i T hi' hT hc
    refine ⟨T, hT, by omega, fun k hk => ?_⟩
    rw [milestonelaw09_TrieNests.l0, if_neg (by omega)]
  | succ d ih =>
    intro i T hi' hT hc
    obtain ⟨a, n, hr, hp⟩ := act_place _ (hw _ (rd30_mem x0 i (by omega)))
    have hl2 := put_len T (pth a n) ⟨⟨(a : Int), (n : Int)⟩, (i : Int), 0, 0⟩
    obtain ⟨T', h1, h2, h3⟩ := ih (i + 1) (T.put (pth a n) ⟨⟨(a : Int), (n : Int)⟩, (i : Int), 0, 0⟩) (by omega) (hT.put hr _ _ _) (by omega)
    refine ⟨T', h1, h2, fun k hk => ?_⟩
    rw [show k + (d + 1) + 1 = (k + d + 1) + 1 by omega, milestonelaw09_TrieNests.l0, if_pos (by omega), if_pos (by omega), hp _ (by omega), Option.bind_some, put_f hr (by omega), Option.bind_some, wr1 i (by omega)]
    exact h3 k hk
theorem nests_l2 (x1 : Int) (l : List S33) (hn : l.length < 1000) (h : ∀ r ∈ l, prefix_Has.f r.f0.f0 r.f0.f1 x1 = some false) (d : Nat) : ∀ (i k : Nat), i + d = l.length → milestonelaw09_TrieNests.l2 (k + d + 1) x1 l (i : Int) = some true := by
  induction d with
  | zero =>
    intro i k hi'
    rw [milestonelaw09_TrieNests.l2, if_neg (by omega)]
  | succ d ih =>
    intro i k hi'
    rw [show k + (d + 1) + 1 = (k + d + 1) + 1 by omega, milestonelaw09_TrieNests.l2, if_pos (by omega), if_pos (by omega), h _ (rd33_mem l i (by omega)), Option.bind_some, if_neg (by decide), wr1 i (by omega)]
    exact ih (i + 1) k (by omega)
theorem nests_l1 (a : Nat) (ha : a < 4294967296) (L : Nat) : ∀ (m last k : Nat) (T : Tr S33), min last 33 ≤ L → m + L ≤ 33 → 100 + L ≤ k → Inv T → T.all.length ≤ 40 → (∀ j, last ≤ j → j ≤ 32 → T.get (pth a j) = none) → milestonelaw09_TrieNests.l1 (k + 1) (a : Int) (last : Int) (m : Int) T = some true := by
  induction L with
  | zero =>
    intro m last k T h1 h2 hk hT hc hj
    rw [milestonelaw09_TrieNests.l1, if_pos (by omega), look_f T a ha, Option.bind_some]
    rcases look_is hT a ha with ⟨e, hno⟩ | ⟨b, n, v, ms, s, e, hr, hq, hg, _⟩
    · rw [e, if_neg (by exact Bool.false_ne_true)]
      unfold trie_Trie_All.f
      rw [if_pos (show T.all.length ≤ 1000000 by omega), Option.bind_some]
      obtain ⟨k2, rfl⟩ : ∃ k2, k = k2 + T.all.length + 1 := ⟨k - T.all.length - 1, by omega⟩
      refine nests_l2 (a : Int) T.all (by omega) (fun r hr => ?_) T.all.length 0 k2 (by omega)
      obtain ⟨p, hp⟩ := (Tr.mem_all T r).1 hr
      obtain ⟨b, n, e1, hr2, hq⟩ := hT p r hp
      rw [e1, has_pth hr2 ha, decide_eq_false]
      intro e2
      rw [hq, e2, hno n hr2.2.1] at hp
      cases hp
    · have h0 := hj n (by omega) hr.2.1
      rw [hg] at h0
      cases h0
  | succ L ih =>
    intro m last k T h1 h2 hk hT hc hj
    rw [milestonelaw09_TrieNests.l1, if_pos (by omega), look_f T a ha, Option.bind_some]
    rcases look_is hT a ha with ⟨e, hno⟩ | ⟨b, n, v, ms, s, e, hr, hq, hg, hup⟩
    · rw [e, if_neg (by exact Bool.false_ne_true)]
      unfold trie_Trie_All.f
      rw [if_pos (show T.all.length ≤ 1000000 by omega), Option.bind_some]
      obtain ⟨k2, rfl⟩ : ∃ k2, k = k2 + T.all.length + 1 := ⟨k - T.all.length - 1, by omega⟩
      refine nests_l2 (a : Int) T.all (by omega) (fun r hr => ?_) T.all.length 0 k2 (by omega)
      obtain ⟨p, hp⟩ := (Tr.mem_all T r).1 hr
      obtain ⟨b, n, e1, hr2, hq⟩ := hT p r hp
      rw [e1, has_pth hr2 ha, decide_eq_false]
      intro e2
      rw [hq, e2, hno n hr2.2.1] at hp
      cases hp
    · have hlt : n < last := by
        apply Nat.lt_of_not_le
        intro hle
        have h0 := hj n hle hr.2.1
        rw [hg] at h0
        cases h0
      have hn := hr.2.1
      rw [e]
      show (if true = true then _ else _) = _
      rw [if_pos rfl]
      show ((prefix_Has.f (b : Int) (n : Int) (a : Int)).bind fun t154 => (if t154 = true then (if (n : Int) ≥ (last : Int) then (some false) else ((trie_Trie_Drop.f T (b : Int) (n : Int)).bind fun bt155 => (if bt155.1 = 0 then (milestonelaw09_TrieNests.l1 k (a : Int) (n : Int) (wrap64 ((m : Int) + 1)) bt155.2) else (some false)))) else (some false))) = some true
      have hd : trie_Trie_Drop.f T (b : Int) (n : Int) = some (0, T.drop (pth a n)) := by
        unfold trie_Trie_Drop.f
        rw [right_rt hr, Option.bind_some, if_pos rfl, if_pos ⟨by omega, by omega⟩, Int.toNat_natCast, path_is b n hr.1 hn, hq, if_pos (by rw [hg]; rfl)]
      rw [has_pth hr ha, Option.bind_some, if_pos (decide_eq_true hq), if_neg (by omega), hd, Option.bind_some, if_pos rfl, wr1 m (by omega)]
      obtain ⟨k2, rfl⟩ : ∃ k2, k = k2 + 1 := ⟨k - 1, by omega⟩
      refine ih (m + 1) n k2 _ (by omega) (by omega) (by omega) (hT.drop _) (Nat.le_trans (drop_len _ _) hc) (fun j h3 h4 => ?_)
      rw [Tr.get_drop]
      by_cases e2 : pth a j = pth a n
      · rw [if_pos e2]
      · rw [if_neg e2]
        by_cases e3 : j = n
        · subst e3; exact absurd rfl e2
        · exact hup j (by omega) h4
theorem TrieNests : milestonelaw09_TrieNests.Pure := by
  intro l0 a1 _ hw h1
  have h1 := Go.bounds_u32 h1
  obtain ⟨a, rfl⟩ := Int.eq_ofNat_of_zero_le h1.1
  refine ⟨400, ?_⟩
  unfold milestonelaw09_TrieNests.f
  rw [awake_is, Option.bind_some, if_pos rfl]
  by_cases hl : (l0.length : Int) > 40
  · rw [decide_eq_true hl, milestonelaw09_TrieNests.j0, if_pos rfl, awake_is, Option.bind_some]
  · rw [decide_eq_false hl, milestonelaw09_TrieNests.j0, if_neg (by decide)]
    obtain ⟨T', h2, h3, h4⟩ := nests_l0 l0 (a : Int) hw (by omega) l0.length 0 (Tr.node none Tr.nil Tr.nil) (by omega) Inv.nil (Nat.le_refl _)
    have h5 := h4 (398 - l0.length) (by omega)
    rw [show 398 - l0.length + l0.length + 1 = 399 by omega] at h5
    refine h5.trans ?_
    obtain ⟨k, hk⟩ : ∃ k, 398 - l0.length = k + 1 := ⟨397 - l0.length, by omega⟩
    rw [hk]
    exact nests_l1 a (by omega) 33 0 99 k T' (by omega) (by omega) (by omega) h2 h3 (fun j hj hj2 => by omega)

end Go.Proofs.Ytbmiifhmgfhidaa.Pure
