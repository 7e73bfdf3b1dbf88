/- A trie under any list of puts and drops stays in step with a plain list of rows, and its look-ups with the list's longest match.
For every input; no condition is added to the given statement. -/
import Derived.Test.YtbmiifhmgfhidaaQTriePlaysx10
import Derived.Laws.BitsAllLaws
import Derived.OpenShut
import Derived.Lib.Bytes
namespace Go.Proofs.Ytbmiifhmgfhidaa.Pure
open Go.RowKit Go.Proofs.Ytbmiifhmgfhidaa.QTriePlays Go.Proofs.YtbmiifhmgfhidaaW.PrintWords Go.Proofs.YtbmiifhmgfhidaaW.PrintLast Go.Proofs.YtbmiifhmgfhidaaW.PrintMore
set_option linter.unusedSimpArgs false
set_option linter.unusedVariables false

/-- how many bits are left behind the first n -/
def lo (n : Nat) : Nat := 2 ^ (32 - n)
theorem lo_pos (n : Nat) : 0 < lo n := Nat.two_pow_pos _
theorem lo_step (n : Nat) (h : n < 32) : lo n = lo (n + 1) * 2 := by
  unfold lo
  rw [show 32 - n = (32 - (n + 1)) + 1 by omega, Nat.pow_succ]
theorem lo_0 : lo 0 = 4294967296 := by decide
/-- the first n bits -/
def hi (a n : Nat) : Nat := a / lo n
def ofN (a n : Nat) : Nat := hi a n * lo n
def bitN (a i : Nat) : Bool := decide (a / 2 ^ (31 - i) % 2 = 1)
theorem hi_step (a n : Nat) (h : n < 32) : hi a (n + 1) = 2 * hi a n + (if bitN a n = true then 1 else 0) := by
  unfold hi bitN
  have e : lo (n + 1) = 2 ^ (31 - n) := by unfold lo; rw [show 32 - (n + 1) = 31 - n by omega]
  rw [lo_step n h, e, ← Nat.div_div_eq_div_mul]
  generalize a / 2 ^ (31 - n) = z
  by_cases hz : z % 2 = 1
  · rw [decide_eq_true hz, if_pos rfl]; omega
  · rw [decide_eq_false hz, if_neg (by decide)]; omega
theorem hi_0 (a : Nat) (h : a < 4294967296) : hi a 0 = 0 := by
  unfold hi
  rw [lo_0]
  omega
theorem hi_lt (a n : Nat) (h : a < 4294967296) (hn : n ≤ 32) : hi a n < 2 ^ n := by
  unfold hi lo
  rw [Nat.div_lt_iff_lt_mul (Nat.two_pow_pos _), ← Nat.pow_add, show n + (32 - n) = 32 by omega]
  omega
theorem ofN_eq (a n : Nat) : ofN a n = a - a % lo n := by
  unfold ofN hi
  have := Nat.div_add_mod a (lo n)
  rw [Nat.mul_comm] at this
  omega
theorem ofN_le (a n : Nat) : ofN a n ≤ a := by rw [ofN_eq]; omega
theorem hi_ofN (a n : Nat) : hi (ofN a n) n = hi a n := by
  unfold ofN
  rw [show hi (hi a n * lo n) n = hi a n * lo n / lo n from rfl, Nat.mul_div_cancel _ (lo_pos n)]
theorem ofN_mod (a n : Nat) : ofN a n % lo n = 0 := by
  unfold ofN
  exact Nat.mul_mod_left _ _
def maskN (n : Nat) : Nat := if n = 0 ∨ 32 < n then 0 else 4294967296 - lo n
theorem mask_is (n : Nat) (h : n < 256) : prefix_mask.f (n : Int) = some ((maskN n : Nat) : Int) := by
  have : ∀ n, n < 256 → prefix_mask.f ((n : Nat) : Int) = some ((maskN n : Nat) : Int) := by decide +kernel
  exact this n h
theorem maskN_lt (n : Nat) : maskN n < 4294967296 := by
  unfold maskN
  have := lo_pos n
  split <;> omega
theorem not_mask (n : Nat) (hn : n ≤ 32) : 4294967295 - maskN n = 2 ^ (32 - n) - 1 := by
  unfold maskN lo
  have hp : 0 < 2 ^ (32 - n) := Nat.two_pow_pos _
  have hle : 2 ^ (32 - n) ≤ 4294967296 := Nat.pow_le_pow_right (n := 2) (by omega) (show 32 - n ≤ 32 by omega)
  by_cases h0 : n = 0
  · subst h0; rfl
  · rw [if_neg (by omega)]
    omega
theorem bits_not (a n : Nat) (ha : a < 4294967296) (hn : n ≤ 32) : Go.bits .andNot .u32 (a : Int) ((maskN n : Nat) : Int) = ((a % lo n : Nat) : Int) := by
  rw [u32_andNot_nat a _ ha (maskN_lt n), not_mask n hn, Nat.and_two_pow_sub_one_eq_mod]
  rfl
theorem rbit_loop (d : Nat) : ∀ (k x i : Nat), i + d = 31 → x < 4294967296 → d < k → milestoneref01_Bit.l0 k (x : Int) (i : Int) = some (decide (x / 2 ^ d % 2 = 1)) := by
  induction d with
  | zero =>
    intro k x i hi hx hk
    obtain ⟨k, rfl⟩ : ∃ m, k = m + 1 := ⟨k - 1, by omega⟩
    rw [milestoneref01_Bit.l0, if_neg (by omega), Int.tmod_eq_emod_of_nonneg (Int.natCast_nonneg _), Nat.pow_zero, Nat.div_one]
    refine congrArg some ?_
    by_cases h : x % 2 = 1
    · rw [decide_eq_true h]
      exact beq_iff_eq.2 (by omega)
    · rw [decide_eq_false h]
      exact beq_eq_false_iff_ne.2 (by omega)
  | succ d ih =>
    intro k x i hi hx hk
    obtain ⟨k, rfl⟩ : ∃ m, k = m + 1 := ⟨k - 1, by omega⟩
    have e1 : Aside0 (wrap64 ((i : Int) + 1) = ((i + 1 : Nat) : Int)) := ⟨by unfold wrap64; omega⟩
    have e2 : Aside0 ((Int.tdiv (x : Int) 2) % 4294967296 = ((x / 2 : Nat) : Int)) := ⟨by rw [Int.tdiv_eq_ediv_of_nonneg (Int.natCast_nonneg _)]; omega⟩
    have key := ih k (x / 2) (i + 1) (by omega) (by omega) (by omega)
    rw [milestoneref01_Bit.l0, if_pos (by omega), e1.out, e2.out, key, Nat.div_div_eq_div_mul, Nat.pow_succ, Nat.mul_comm 2]
theorem rbit_is (k a i : Nat) (ha : a < 4294967296) (hi : i < 32) (hk : 32 < k) : milestoneref01_Bit.f k (a : Int) (i : Int) = some (bitN a i) := by
  unfold milestoneref01_Bit.f
  exact rbit_loop (31 - i) k a i (by omega) ha (by omega)
theorem rof_loop (a n : Nat) (ha : a < 4294967296) (hn : n ≤ 32) (d : Nat) : ∀ (k i : Nat), i + d = 32 → 40 + d < k →
    milestoneref01_Of.l0 k (a : Int) (n : Int) ((hi a (min i n) * 2 ^ (i - n) : Nat) : Int) (i : Int) = some (((ofN a n : Nat) : Int), (n : Int)) := by
  induction d with
  | zero =>
    intro k i hi' hk
    obtain ⟨k, rfl⟩ : ∃ m, k = m + 1 := ⟨k - 1, by omega⟩
    have e : i = 32 := by omega
    subst e
    rw [milestoneref01_Of.l0, if_neg (by omega), Nat.min_eq_right hn]
    rfl
  | succ d ih =>
    intro k i hi' hk
    obtain ⟨k, rfl⟩ : ∃ m, k = m + 1 := ⟨k - 1, by omega⟩
    have e1 : Aside0 (wrap64 ((i : Int) + 1) = ((i + 1 : Nat) : Int)) := ⟨by unfold wrap64; omega⟩
    have e2 : Aside0 (wrap64 (n : Int) = (n : Int)) := ⟨by unfold wrap64; omega⟩
    have key := ih k (i + 1) (by omega) (by omega)
    have ht : (i : Int) < 32 := by omega
    rw [milestoneref01_Of.l0, if_pos ht, e1.out, e2.out]
    by_cases hlt : i < n
    · have hs := hi_step a i (by omega)
      have hl := hi_lt a (i + 1) ha (by omega)
      have hp : 2 ^ (i + 1) ≤ 4294967296 := Nat.pow_le_pow_right (n := 2) (by omega) (show i + 1 ≤ 32 by omega)
      rw [Nat.min_eq_left (by omega), show i + 1 - n = 0 by omega, Nat.pow_zero, Nat.mul_one] at key
      have ht2 : (i : Int) < (n : Int) := by omega
      rw [if_pos ht2, rbit_is k a i ha (by omega) (by omega), Option.bind_some, Nat.min_eq_left (by omega), show i - n = 0 by omega, Nat.pow_zero, Nat.mul_one]
      by_cases hb : bitN a i = true
      · rw [if_pos hb] at hs
        have e3 : (((hi a i : Nat) : Int) * 2 + 1) % 4294967296 = ((hi a (i + 1) : Nat) : Int) := by omega
        rw [if_pos hb, e3]
        exact key
      · rw [if_neg hb] at hs
        have e3 : (((hi a i : Nat) : Int) * 2) % 4294967296 = ((hi a (i + 1) : Nat) : Int) := by omega
        rw [if_neg hb, e3]
        exact key
    · have ht2 : ¬ (i : Int) < (n : Int) := by omega
      have hl := hi_lt a n ha hn
      have hq : hi a n * 2 ^ (i - n) * 2 < 4294967296 := by
        have h1 : hi a n * 2 ^ (i - n) * 2 = hi a n * 2 ^ (i + 1 - n) := by rw [show i + 1 - n = i - n + 1 by omega, Nat.pow_succ, Nat.mul_assoc]
        have h2 : hi a n * 2 ^ (i + 1 - n) < 2 ^ n * 2 ^ (i + 1 - n) := Nat.mul_lt_mul_of_pos_right hl (Nat.two_pow_pos _)
        have h3 : 2 ^ n * 2 ^ (i + 1 - n) ≤ 2 ^ 32 := by
          rw [← Nat.pow_add]
          exact Nat.pow_le_pow_right (by omega) (by omega)
        rw [h1]
        exact Nat.lt_of_lt_of_le h2 h3
      have h1 : hi a n * 2 ^ (i + 1 - n) = hi a n * 2 ^ (i - n) * 2 := by rw [show i + 1 - n = i - n + 1 by omega, Nat.pow_succ, Nat.mul_assoc]
      rw [Nat.min_eq_right (by omega), h1] at key
      rw [if_neg ht2, Nat.min_eq_right (by omega)]
      generalize hi a n * 2 ^ (i - n) = z at key hq ⊢
      have e3 : ((z : Int) * 2) % 4294967296 = ((z * 2 : Nat) : Int) := by omega
      rw [e3]
      exact key
theorem rof_is (k a n : Nat) (ha : a < 4294967296) (hn : n < 256) (hk : 80 < k) : milestoneref01_Of.f k (a : Int) (n : Int) = some (((ofN a (min n 32) : Nat) : Int), ((min n 32 : Nat) : Int)) := by
  obtain ⟨k, rfl⟩ : ∃ m, k = m + 1 := ⟨k - 1, by omega⟩
  have key := rof_loop a (min n 32) ha (by omega) 32 k 0 (by omega) (by omega)
  rw [Nat.zero_min, hi_0 a ha, Nat.zero_mul] at key
  unfold milestoneref01_Of.f
  by_cases h : n > 32
  · rw [Nat.min_eq_right (by omega)] at key ⊢
    rw [if_pos (by omega), milestoneref01_Of.j0]
    exact key
  · rw [Nat.min_eq_left (by omega)] at key ⊢
    rw [if_neg (by omega), milestoneref01_Of.j0]
    exact key
theorem lo_mul (i n : Nat) (h : i ≤ n) (hn : n ≤ 32) : lo i = lo n * 2 ^ (n - i) := by
  unfold lo
  rw [← Nat.pow_add, show 32 - n + (n - i) = 32 - i by omega]
theorem hi_div (a i n : Nat) (h : i ≤ n) (hn : n ≤ 32) : hi a i = hi a n / 2 ^ (n - i) := by
  unfold hi
  rw [lo_mul i n h hn, Nat.div_div_eq_div_mul]
theorem hi_down {a b n : Nat} (i : Nat) (h : i ≤ n) (hn : n ≤ 32) (e : hi a n = hi b n) : hi a i = hi b i := by
  rw [hi_div a i n h hn, hi_div b i n h hn, e]
theorem eq_hi (p a n : Nat) (hp : p % lo n = 0) : ofN a n = p ↔ hi p n = hi a n := by
  have hl := lo_pos n
  constructor
  · intro h
    rw [← h, hi_ofN]
  · intro h
    unfold ofN
    rw [← h]
    unfold hi
    exact Nat.div_mul_cancel (Nat.dvd_of_mod_eq_zero hp)
theorem rhas_loop (p n a : Nat) (hn : n ≤ 32) (hp : p < 4294967296) (ha : a < 4294967296) (d : Nat) : ∀ (k i : Nat), i + d = n → hi p i = hi a i → 40 + d < k →
    milestoneref01_Has.l0 k (a : Int) (i : Int) (p : Int) (n : Int) = some (decide (hi p n = hi a n)) := by
  have e2 : Aside0 (wrap64 (n : Int) = (n : Int)) := ⟨by unfold wrap64; omega⟩
  induction d with
  | zero =>
    intro k i hi' he hk
    obtain ⟨k, rfl⟩ : ∃ m, k = m + 1 := ⟨k - 1, by omega⟩
    have e : i = n := by omega
    subst e
    rw [milestoneref01_Has.l0, e2.out, if_neg (by omega), decide_eq_true he]
  | succ d ih =>
    intro k i hi' he hk
    obtain ⟨k, rfl⟩ : ∃ m, k = m + 1 := ⟨k - 1, by omega⟩
    have e1 : Aside0 (wrap64 ((i : Int) + 1) = ((i + 1 : Nat) : Int)) := ⟨by unfold wrap64; omega⟩
    have ht : (i : Int) < (n : Int) := by omega
    have h32 : i < 32 := by omega
    have hs := hi_step p i h32
    have hs2 := hi_step a i h32
    rw [milestoneref01_Has.l0, e2.out, if_pos ht, rbit_is k p i hp h32 (by omega), Option.bind_some, rbit_is k a i ha h32 (by omega), Option.bind_some, e1.out]
    by_cases hb : bitN p i = bitN a i
    · rw [hb, if_neg (by simp)]
      exact ih k (i + 1) (by omega) (by rw [hs, hs2, he, hb]) (by omega)
    · rw [if_pos (bne_iff_ne.2 hb)]
      refine congrArg some ?_
      symm
      rw [decide_eq_false_iff_not]
      intro q
      have hd := hi_down (i + 1) (by omega) hn q
      rw [hs, hs2, he] at hd
      apply hb
      cases hx : bitN p i <;> cases hy : bitN a i <;> rw [hx, hy] at hd <;> first | rfl | (simp at hd)
theorem rhas_is (k p n a : Nat) (hn : n ≤ 32) (hp : p < 4294967296) (ha : a < 4294967296) (hk : 80 < k) : milestoneref01_Has.f k (p : Int) (n : Int) (a : Int) = some (decide (hi p n = hi a n)) := by
  unfold milestoneref01_Has.f
  exact rhas_loop p n a hn hp ha n k 0 (by omega) (by rw [hi_0 p hp, hi_0 a ha]) (by omega)
theorem right_is (a n : Nat) (ha : a < 4294967296) (hn : n < 256) : prefix_Right.f (a : Int) (n : Int) = some (decide (n ≤ 32 ∧ a % lo n = 0)) := by
  unfold prefix_Right.f
  by_cases h : n ≤ 32
  · rw [if_pos (by omega), mask_is n hn, Option.bind_some, bits_not a n ha h]
    refine congrArg some ?_
    by_cases h2 : a % lo n = 0
    · rw [decide_eq_true ⟨h, h2⟩]
      exact beq_iff_eq.2 (by omega)
    · rw [decide_eq_false (fun q => h2 q.2)]
      exact beq_eq_false_iff_ne.2 (by omega)
  · rw [if_neg (by omega), decide_eq_false (fun q => h q.1)]
theorem bit_is (a i : Nat) (ha : a < 4294967296) (hi' : i < 256) : prefix_Bit.f (a : Int) (i : Int) = some (if i < 32 then bitN a i else false) := by
  unfold prefix_Bit.f
  by_cases h : i < 32
  · have e1 : shr .u32 (a : Int) ((31 - (i : Int)) % 256) = ((a / 2 ^ (31 - i) : Nat) : Int) := by
      unfold shr
      have e : min ((31 - (i : Int)) % 256).toNat IntKind.u32.bits = 31 - i := by
        have : IntKind.u32.bits = 32 := rfl
        omega
      rw [e, show ((2 : Int) ^ (31 - i)) = ((2 ^ (31 - i) : Nat) : Int) by simp]
      exact (Int.natCast_ediv _ _).symm
    have hd : a / 2 ^ (31 - i) < 4294967296 := Nat.lt_of_le_of_lt (Nat.div_le_self _ _) ha
    have e2 : Go.bits .and .u32 ((a / 2 ^ (31 - i) : Nat) : Int) 1 = ((a / 2 ^ (31 - i) % 2 : Nat) : Int) := by
      have := u32_and_nat (a / 2 ^ (31 - i)) 1 hd (by omega)
      rw [Nat.and_one_is_mod] at this
      exact this
    rw [if_pos (by omega), if_pos h, e1, e2]
    refine congrArg some ?_
    unfold bitN
    by_cases hb : a / 2 ^ (31 - i) % 2 = 1
    · rw [decide_eq_true hb, hb]; rfl
    · rw [decide_eq_false hb]
      exact beq_eq_false_iff_ne.2 (by omega)
  · rw [if_neg (by omega), if_neg h]

/-! ## a tree of bits, as a map -/
section
open Tr
variable {α : Type}
theorem Tr.get_put (p : List Bool) (r : α) : ∀ (T : Tr α) (q : List Bool), Tr.get (Tr.put T p r) q = if q = p then some r else Tr.get T q := by
  have main : ∀ p : List Bool, ∀ (T : Tr α) (q : List Bool), Tr.get (Tr.put T p r) q = if q = p then some r else Tr.get T q := by
    intro p
    induction p with
    | nil =>
      intro T q
      have hn : ∀ (o : Option α) (a b : Tr α), Tr.get (Tr.node (some r) a b) q = if q = [] then some r else Tr.get (Tr.node o a b) q := by
        intro o a b
        cases q with
        | nil => rw [if_pos rfl]; rfl
        | cons k q => rw [if_neg (by simp)]; cases k <;> rfl
      cases T with
      | nil =>
        have h2 : Tr.get (Tr.nil : Tr α) q = Tr.get (Tr.node none Tr.nil Tr.nil) q := by
          cases q with
          | nil => rfl
          | cons k q => cases k <;> simp [Tr.get, get_nil]
        rw [h2]
        exact hn none Tr.nil Tr.nil
      | node o a b => exact hn o a b
    | cons k p ih =>
      intro T q
      have hn : ∀ (o : Option α) (a b : Tr α), Tr.get (Tr.put (Tr.node o a b) (k :: p) r) q = if q = k :: p then some r else Tr.get (Tr.node o a b) q := by
        intro o a b
        cases q with
        | nil =>
          rw [if_neg (by simp)]
          cases k <;> rfl
        | cons k2 q =>
          cases k <;> cases k2
          · have := ih a q
            simp only [Tr.put, Tr.get, this, List.cons.injEq, true_and]
          · rw [if_neg (by simp)]; rfl
          · rw [if_neg (by simp)]; rfl
          · have := ih b q
            simp only [Tr.put, Tr.get, this, List.cons.injEq, true_and]
      cases T with
      | nil =>
        rw [put_nil, hn, get_nil]
        congr 1
        cases q with
        | nil => rfl
        | cons k q => cases k <;> simp [Tr.get, get_nil]
      | node o a b => exact hn o a b
  exact main p
/-- a cut: what leads nowhere is Tr.nil -/
theorem Tr.get_prune (T : Tr α) (q : List Bool) : Tr.get (Tr.prune T) q = Tr.get T q := by
  unfold Tr.prune
  split
  · rw [get_nil]
    cases q with
    | nil => rfl
    | cons k q => cases k <;> simp [Tr.get, get_nil]
  · rfl
theorem Tr.get_drop (p : List Bool) : ∀ (T : Tr α) (q : List Bool), Tr.get (Tr.drop T p) q = if q = p then none else Tr.get T q := by
  induction p with
  | nil =>
    intro T q
    cases T with
    | nil => simp [Tr.drop, get_nil]
    | node o a b =>
      cases q with
      | nil => rfl
      | cons k q => rw [if_neg (by simp)]; cases k <;> rfl
  | cons k p ih =>
    intro T q
    cases T with
    | nil => simp [Tr.drop, get_nil]
    | node o a b =>
      cases q with
      | nil => rw [if_neg (by simp)]; cases k <;> rfl
      | cons k2 q =>
        cases k <;> cases k2
        · have := ih a q
          simp only [Tr.drop, Tr.get, Tr.get_prune, this, List.cons.injEq, true_and]
        · rw [if_neg (by simp)]; rfl
        · rw [if_neg (by simp)]; rfl
        · have := ih b q
          simp only [Tr.drop, Tr.get, Tr.get_prune, this, List.cons.injEq, true_and]
theorem Tr.mem_all (T : Tr α) : ∀ r, r ∈ Tr.all T ↔ ∃ p, Tr.get T p = some r := by
  induction T with
  | nil => intro r; simp [Tr.all, get_nil]
  | node o a b iha ihb =>
    intro r
    simp only [Tr.all, List.mem_append, iha, ihb]
    constructor
    · rintro ((h | ⟨p, h⟩) | ⟨p, h⟩)
      · exact ⟨[], by cases o <;> simp_all [Tr.get]⟩
      · exact ⟨false :: p, h⟩
      · exact ⟨true :: p, h⟩
    · rintro ⟨p, h⟩
      cases p with
      | nil => exact .inl (.inl (by simp only [Tr.get] at h; subst h; simp))
      | cons k p => cases k
                    · exact .inl (.inr ⟨p, h⟩)
                    · exact .inr ⟨p, h⟩
end

/-! ## prefixes and the ways of a tree -/
def pth (a n : Nat) : List Bool := (List.range n).map (bitN a)
theorem pth_length (a n : Nat) : (pth a n).length = n := by unfold pth; simp
theorem side_is2 (a i : Nat) (ha : a < 4294967296) (hi' : i < 32) : (trie_side.f (a : Int) (i : Int) == some 1) = bitN a i := by
  unfold trie_side.f
  rw [bit_is a i ha (by omega), if_pos hi', Option.bind_some]
  cases bitN a i <;> rfl
theorem pathFrom_is (a : Nat) (ha : a < 4294967296) (m : Nat) : ∀ i, i + m ≤ 32 → pathFrom (a : Int) m i = (List.range' i m).map (bitN a) := by
  induction m with
  | zero => intro i _; rfl
  | succ m ih =>
    intro i hi'
    rw [pathFrom, side_is2 a i ha (by omega), ih (i + 1) (by omega), List.range'_succ]
    rfl
theorem path_is (a n : Nat) (ha : a < 4294967296) (hn : n ≤ 32) : pathFrom (a : Int) n 0 = pth a n := by
  rw [pathFrom_is a ha n 0 (by omega)]
  unfold pth
  rw [List.range_eq_range']
theorem pth_succ (a n : Nat) : pth a (n + 1) = pth a n ++ [bitN a n] := by
  unfold pth
  rw [List.range_succ, List.map_append]
  rfl
theorem pth_hi (a b : Nat) (ha : a < 4294967296) (hb : b < 4294967296) (n : Nat) (hn : n ≤ 32) : pth a n = pth b n ↔ hi a n = hi b n := by
  induction n with
  | zero => rw [hi_0 a ha, hi_0 b hb]; exact ⟨fun _ => rfl, fun _ => rfl⟩
  | succ n ih =>
    have ih := ih (by omega)
    rw [pth_succ, pth_succ]
    have s1 := hi_step a n (by omega)
    have s2 := hi_step b n (by omega)
    constructor
    · intro h
      have h2 := List.append_inj' h rfl
      have e1 := ih.1 h2.1
      have e2 : bitN a n = bitN b n := by simpa using h2.2
      rw [s1, s2, e1, e2]
    · intro h
      have e1 : hi a n = hi b n := by rw [s1, s2] at h; split at h <;> split at h <;> omega
      have e2 : bitN a n = bitN b n := by
        rw [s1, s2, e1] at h
        cases h1 : bitN a n <;> cases h2 : bitN b n <;> simp [h1, h2] at h <;> rfl
      rw [ih.2 e1, e2]
theorem pth_take (a : Nat) (n m : Nat) (h : n ≤ m) : (pth a m).take n = pth a n := by
  unfold pth
  rw [← List.map_take, List.take_range, Nat.min_eq_left h]
/-- a prefix that may be -/
def Rt (a n : Nat) : Prop := a < 4294967296 ∧ n ≤ 32 ∧ a % lo n = 0
theorem Rt.hi_mul {a n : Nat} (h : Rt a n) : hi a n * lo n = a := by
  unfold hi
  exact Nat.div_mul_cancel (Nat.dvd_of_mod_eq_zero h.2.2)
theorem pth_inj {a n b m : Nat} (h : Rt a n) (k : Rt b m) (e : pth a n = pth b m) : a = b ∧ n = m := by
  have hl : n = m := by rw [← pth_length a n, ← pth_length b m, e]
  subst hl
  have e2 := (pth_hi a b h.1 k.1 n h.2.1).1 e
  exact ⟨by rw [← h.hi_mul, ← k.hi_mul, e2], rfl⟩
theorem right_rt {a n : Nat} (h : Rt a n) : prefix_Right.f (a : Int) (n : Int) = some true := by
  rw [right_is a n h.1 (by have := h.2.1; omega)]
  exact congrArg some (decide_eq_true ⟨h.2.1, h.2.2⟩)
/-- what stands in a tree stands at its prefix's way -/
def Inv (T : Tr S33) : Prop := ∀ q r, T.get q = some r → ∃ a n : Nat, r.f0 = ⟨(a : Int), (n : Int)⟩ ∧ Rt a n ∧ q = pth a n
theorem Inv.nil : Inv (Tr.node none Tr.nil Tr.nil) := by
  intro q r h
  have : Tr.get (Tr.node none Tr.nil Tr.nil : Tr S33) q = none := by rw [← Tr.get_nil2]; exact Tr.get_nil q
  rw [this] at h
  cases h
theorem Inv.put {T : Tr S33} (h : Inv T) {a n : Nat} (hr : Rt a n) (v m s : Int) : Inv (T.put (pth a n) ⟨⟨(a : Int), (n : Int)⟩, v, m, s⟩) := by
  intro q r hq
  rw [Tr.get_put] at hq
  by_cases e : q = pth a n
  · rw [if_pos e] at hq
    injection hq with hq
    subst hq
    exact ⟨a, n, rfl, hr, e⟩
  · rw [if_neg e] at hq
    exact h q r hq
theorem Inv.drop {T : Tr S33} (h : Inv T) (p : List Bool) : Inv (T.drop p) := by
  intro q r hq
  rw [Tr.get_drop] at hq
  by_cases e : q = p
  · rw [if_pos e] at hq; cases hq
  · rw [if_neg e] at hq
    exact h q r hq
theorem put_f {T : Tr S33} {a n : Nat} (hr : Rt a n) (hc : T.all.length < 1000000) (v m s : Int) : trie_Trie_Put.f T (a : Int) (n : Int) v m s = some (0, T.put (pth a n) ⟨⟨(a : Int), (n : Int)⟩, v, m, s⟩) := by
  unfold trie_Trie_Put.f
  rw [right_rt hr, Option.bind_some, if_pos rfl, if_pos hc, Int.toNat_natCast, path_is a n hr.1 hr.2.1]
theorem put_len (T : Tr S33) (p : List Bool) (r : S33) : (T.put p r).all.length ≤ T.all.length + 1 := by
  have := Tr.len_put p r T
  omega
theorem drop_len (T : Tr S33) (p : List Bool) : (T.drop p).all.length ≤ T.all.length := by
  have := Tr.len_drop p T
  omega
/-- the deepest on the way -/
theorem look_spec (q : List Bool) : ∀ (T : Tr S33) (d : Option S33), (T.look q d = d ∧ ∀ i, i ≤ q.length → T.get (q.take i) = none) ∨ ∃ i r, i ≤ q.length ∧ T.look q d = some r ∧ T.get (q.take i) = some r ∧ ∀ j, i < j → j ≤ q.length → T.get (q.take j) = none := by
  induction q with
  | nil =>
    intro T d
    cases T with
    | nil => exact .inl ⟨rfl, fun i _ => Tr.get_nil _⟩
    | node o a b =>
      cases o with
      | none => exact .inl ⟨rfl, fun i _ => by rw [List.take_nil]; rfl⟩
      | some r => exact .inr ⟨0, r, Nat.le_refl _, rfl, rfl, fun j h1 h2 => absurd h2 (by simp; omega)⟩
  | cons k q ih =>
    intro T d
    cases T with
    | nil => exact .inl ⟨rfl, fun i _ => Tr.get_nil _⟩
    | node o a b =>
      obtain ⟨s, hs1, hs2⟩ : ∃ s : Tr S33, (Tr.node o a b).look (k :: q) d = s.look q (o.or d) ∧ ∀ i, (Tr.node o a b).get ((k :: q).take (i + 1)) = s.get (q.take i) := by
        cases k
        · exact ⟨a, rfl, fun _ => rfl⟩
        · exact ⟨b, rfl, fun _ => rfl⟩
      rw [hs1]
      rcases ih s (o.or d) with ⟨h1, h2⟩ | ⟨i, r, h1, h2, h3, h4⟩
      · cases o with
        | none =>
          refine .inl ⟨h1, fun i hi' => ?_⟩
          cases i with
          | zero => rfl
          | succ i => rw [hs2]; exact h2 i (by simpa using hi')
        | some r =>
          refine .inr ⟨0, r, Nat.zero_le _, h1, rfl, fun j hj1 hj2 => ?_⟩
          cases j with
          | zero => omega
          | succ j => rw [hs2]; exact h2 j (by simpa using hj2)
      · refine .inr ⟨i + 1, r, by simpa using h1, h2, by rw [hs2]; exact h3, fun j hj1 hj2 => ?_⟩
        cases j with
        | zero => omega
        | succ j => rw [hs2]; exact h4 j (by omega) (by simpa using hj2)
theorem look_f (T : Tr S33) (a : Nat) (ha : a < 4294967296) : trie_Trie_Look.f T (a : Int) = some ((oR (T.look (pth a 32) none)).f0.f0, (oR (T.look (pth a 32) none)).f0.f1, (oR (T.look (pth a 32) none)).f1, (oR (T.look (pth a 32) none)).f2, (oR (T.look (pth a 32) none)).f3, (T.look (pth a 32) none).isSome, T) := by
  unfold trie_Trie_Look.f
  rw [path_is a 32 ha (Nat.le_refl _)]
/-- the longest prefix of an address, if its tree is right -/
theorem look_is {T : Tr S33} (h : Inv T) (a : Nat) (ha : a < 4294967296) : (T.look (pth a 32) none = none ∧ ∀ n, n ≤ 32 → T.get (pth a n) = none) ∨ ∃ b n v m s, T.look (pth a 32) none = some ⟨⟨((b : Nat) : Int), ((n : Nat) : Int)⟩, v, m, s⟩ ∧ Rt b n ∧ pth b n = pth a n ∧ T.get (pth a n) = some ⟨⟨((b : Nat) : Int), ((n : Nat) : Int)⟩, v, m, s⟩ ∧ ∀ j, n < j → j ≤ 32 → T.get (pth a j) = none := by
  rcases look_spec (pth a 32) T none with ⟨h1, h2⟩ | ⟨i, r, h1, h2, h3, h4⟩
  · refine .inl ⟨h1, fun n hn => ?_⟩
    rw [← pth_take a n 32 hn]
    exact h2 n (by rw [pth_length]; exact hn)
  · rw [pth_length] at h1 h4
    rw [pth_take a i 32 h1] at h3
    obtain ⟨b, n, e, hr, hq⟩ := h _ r h3
    have hl : i = n := by rw [← pth_length a i, ← pth_length b n, hq]
    subst hl
    obtain ⟨p, v, m, s⟩ := r
    subst e
    exact .inr ⟨b, i, v, m, s, h2, hr, hq.symm, h3, fun j hj hj2 => by rw [← pth_take a j 32 hj2]; exact h4 j hj hj2⟩
/-! ### places of acts -/
theorem t3 (q : Nat) : Int.tmod (q : Int) 3 = ((q % 3 : Nat) : Int) := rfl
theorem d3 (q : Nat) : Int.tdiv (q : Int) 3 = ((q / 3 : Nat) : Int) := rfl
theorem d6 (q : Nat) : Int.tdiv (q : Int) 6 = ((q / 6 : Nat) : Int) := rfl
theorem prefix18 (k p : Nat) (hp : p < 256) : milestoneref07_Prefix.f k (p : Int) = milestoneref07_Prefix.f k ((p % 18 : Nat) : Int) := by
  unfold milestoneref07_Prefix.f
  rw [t3, t3, d3, d3, d6, d6]
  have e1 : (p % 18 : Nat) % 3 = p % 3 := by omega
  have e2 : (((p % 18 / 3 : Nat) : Int)) % 2 = ((p / 3 : Nat) : Int) % 2 := by omega
  have e3 : (((p % 18 / 6 : Nat) : Int)) % 256 % 3 = ((p / 6 : Nat) : Int) % 256 % 3 := by omega
  rw [e1, e2, e3]
def prefOk (p : Nat) : Bool := match milestoneref07_Prefix.f 40 (p : Int) with
  | some (a, n) => decide (0 ≤ a ∧ a < 4294967296 ∧ 0 ≤ n ∧ n ≤ 32 ∧ a.toNat % lo n.toNat = 0)
  | none => false
theorem pref_all : ((List.range 18).all prefOk) = true := by decide +kernel
theorem at_rounds {α : Type} {f : Nat → Option α} (hm : ∀ k, LeO (f k) (f (k + 1))) {a b : Nat} (h : a ≤ b) {r : α} (hr : f a = some r) : f b = some r := by
  obtain ⟨d, rfl⟩ : ∃ d, b = a + d := ⟨b - a, by omega⟩
  clear h
  induction d with
  | zero => exact hr
  | succ d ih => exact hm (a + d) r ih
theorem pref_is (p : Nat) (hp : p < 256) : ∃ a n : Nat, Rt a n ∧ ∀ k, 40 ≤ k → milestoneref07_Prefix.f k (p : Int) = some ((a : Int), (n : Int)) := by
  have h := pref_all
  rw [List.all_eq_true] at h
  have h2 := h (p % 18) (List.mem_range.2 (Nat.mod_lt _ (by omega)))
  unfold prefOk at h2
  cases hx : milestoneref07_Prefix.f 40 ((p % 18 : Nat) : Int) with
  | none => rw [hx] at h2; cases h2
  | some x =>
    obtain ⟨a, n⟩ := x
    rw [hx] at h2
    obtain ⟨h3, h4, h5, h6, h7⟩ := of_decide_eq_true h2
    refine ⟨a.toNat, n.toNat, ⟨by omega, by omega, h7⟩, fun k hk => ?_⟩
    rw [prefix18 k p hp, Int.toNat_of_nonneg h3, Int.toNat_of_nonneg h5]
    exact at_rounds (fun k => milestoneref07_Prefix.mono _ k) hk hx
theorem place_is (f0 : Int) (f1 f2 f3 : Nat) (h1 : f1 < 4294967296) (h2 : f2 < 256) : ∃ a n : Nat, Rt a n ∧ ∀ k, 100 ≤ k → milestonelaw09_place.f k f0 (f1 : Int) (f2 : Int) (f3 : Int) = some ((a : Int), (n : Int)) := by
  by_cases h : Int.tmod (f3 : Int) 2 = 0
  · obtain ⟨a, n, hr, hk⟩ := pref_is f2 h2
    refine ⟨a, n, hr, fun k hkk => ?_⟩
    unfold milestonelaw09_place.f
    rw [if_pos h, hk k (by omega)]
    rfl
  · have e : Int.tmod (f2 : Int) 34 = ((f2 % 34 : Nat) : Int) := rfl
    refine ⟨ofN f1 (min (f2 % 34) 32), min (f2 % 34) 32, ⟨Nat.lt_of_le_of_lt (ofN_le _ _) h1, Nat.min_le_right _ _, ofN_mod _ _⟩, fun k hkk => ?_⟩
    unfold milestonelaw09_place.f
    rw [if_neg h, e, rof_is k f1 (f2 % 34) h1 (by omega) (by omega)]
    rfl

theorem w30 (x : S30) (h : (Lit.int .u8 x.f0).wf = true ∧ ((Lit.int .u32 x.f1).wf = true ∧ ((Lit.int .u8 x.f2).wf = true ∧ (Lit.int .u8 x.f3).wf = true))) : ∃ b c d : Nat, x.f1 = (b : Int) ∧ x.f2 = (c : Int) ∧ x.f3 = (d : Int) ∧ b < 4294967296 ∧ c < 256 ∧ d < 256 := by
  have h1 := Go.bounds_u32 h.2.1
  have h2 := Go.bounds_u8 h.2.2.1
  have h3 := Go.bounds_u8 h.2.2.2
  exact ⟨x.f1.toNat, x.f2.toNat, x.f3.toNat, by omega, by omega, by omega, by omega, by omega, by omega⟩
theorem rd30_mem (l : List S30) (i : Nat) (h : i < l.length) : rd_T30 l (i : Int) ∈ l := by
  show l.getD (i : Int).toNat z30 ∈ l
  rw [Int.toNat_natCast, List.getD_eq_getElem?_getD, List.getElem?_eq_getElem h]
  exact List.getElem_mem h
theorem rd33_mem (l : List S33) (i : Nat) (h : i < l.length) : rd_T33 l (i : Int) ∈ l := by
  show l.getD (i : Int).toNat z33 ∈ l
  rw [Int.toNat_natCast, List.getD_eq_getElem?_getD, List.getElem?_eq_getElem h]
  exact List.getElem_mem h
theorem act_place (x : S30) (h : (Lit.int .u8 x.f0).wf = true ∧ ((Lit.int .u32 x.f1).wf = true ∧ ((Lit.int .u8 x.f2).wf = true ∧ (Lit.int .u8 x.f3).wf = true))) : ∃ a n : Nat, Rt a n ∧ ∀ k, 100 ≤ k → milestonelaw09_place.f k x.f0 x.f1 x.f2 x.f3 = some ((a : Int), (n : Int)) := by
  obtain ⟨b, c, d, e1, e2, e3, h1, h2, h3⟩ := w30 x h
  rw [e1, e2, e3]
  exact place_is x.f0 b c d h1 h2
theorem wr1 (i : Nat) (h : i < 1000000) : wrap64 ((i : Int) + 1) = ((i + 1 : Nat) : Int) := by unfold wrap64; omega
theorem awake_is : milestonelaw09_awake.f = some true := by decide +kernel

def keyR (r : S33) : List Bool := pth r.f0.f0.toNat r.f0.f1.toNat

theorem rd33_get (l : List S33) (i : Nat) (h : i < l.length) : rd_T33 l (i : Int) = l[i] := by
  show l.getD (i : Int).toNat z33 = _
  rw [Int.toNat_natCast, List.getD_eq_getElem?_getD, List.getElem?_eq_getElem h]; rfl
/-- a route of a prefix that may be -/
def RtR (r : S33) : Prop := ∃ a n : Nat, r.f0 = ⟨(a : Int), (n : Int)⟩ ∧ Rt a n
theorem key_inj {r s : S33} (h : RtR r) (k : RtR s) (e : keyR r = keyR s) : r.f0 = s.f0 := by
  obtain ⟨a, n, e1, h1⟩ := h
  obtain ⟨b, m, e2, h2⟩ := k
  unfold keyR at e
  rw [e1, e2] at e ⊢
  obtain ⟨rfl, rfl⟩ := pth_inj h1 h2 e
  rfl
theorem put_R {T : Tr S33} {r : S33} (hr : RtR r) (hc : T.all.length < 1000000) : trie_Trie_Put.f T r.f0.f0 r.f0.f1 r.f1 r.f2 r.f3 = some (0, T.put (keyR r) r) := by
  obtain ⟨a, n, e, h⟩ := hr
  obtain ⟨p, v, m, s⟩ := r
  subst e
  exact put_f h hc v m s
theorem Inv.putR {T : Tr S33} (h : Inv T) {r : S33} (hr : RtR r) : Inv (T.put (keyR r) r) := by
  obtain ⟨a, n, e, hh⟩ := hr
  obtain ⟨p, v, m, s⟩ := r
  subst e
  exact h.put hh v m s
theorem find_is (l : List S33) (hl : l.length < 1000) (a n : Int) (d : Nat) : ∀ (i k : Nat), i + d = l.length → (∃ t, i ≤ t ∧ ∃ ht : t < l.length, milestonelaw09_find.l0 (k + d + 1) l (i : Int) a n = some (t : Int) ∧ l[t].f0 = ⟨a, n⟩) ∨ (milestonelaw09_find.l0 (k + d + 1) l (i : Int) a n = some (-1) ∧ ∀ t (ht : t < l.length), i ≤ t → l[t].f0 ≠ ⟨a, n⟩) := by
  induction d with
  | zero =>
    intro i k hi'
    rw [milestonelaw09_find.l0, if_neg (by omega)]
    exact .inr ⟨rfl, fun t ht hit => by omega⟩
  | succ d ih =>
    intro i k hi'
    rw [show k + (d + 1) + 1 = (k + d + 1) + 1 by omega, milestonelaw09_find.l0, if_pos (by omega), if_pos (by omega), wr1 i (by omega), rd33_get l i (by omega)]
    by_cases hb : (l[i].f0.f0 == a && (l[i].f0.f1 == n)) = true
    · rw [if_pos hb]
      have h2 := (Bool.and_eq_true _ _).mp hb
      have e1 : l[i].f0.f0 = a := beq_iff_eq.mp h2.1
      have e2 : l[i].f0.f1 = n := beq_iff_eq.mp h2.2
      exact .inl ⟨i, Nat.le_refl _, by omega, rfl, by rw [← e1, ← e2]⟩
    · rw [if_neg hb]
      rcases ih (i + 1) k (by omega) with ⟨t, h1, ht, h2, h3⟩ | ⟨h1, h2⟩
      · exact .inl ⟨t, by omega, ht, h2, h3⟩
      · refine .inr ⟨h1, fun t ht hit => ?_⟩
        by_cases e : t = i
        · subst e
          intro e
          apply hb
          rw [e]
          simp
        · exact h2 t ht (by omega)

/-! ## a tree, and a list of its routes -/
/-- the list has just the tree's routes, each prefix once -/
structure Rel (T : Tr S33) (l : List S33) : Prop where
  inv : Inv T
  rt : ∀ r ∈ l, RtR r
  get : ∀ r, RtR r → ∀ s, T.get (keyR r) = some s ↔ (s ∈ l ∧ s.f0 = r.f0)
  one : l.Pairwise (fun r s => r.f0 ≠ s.f0)
  len : T.all.length = l.length
theorem Rel.nil : Rel (Tr.node none Tr.nil Tr.nil) [] where
  inv := Inv.nil
  rt := fun r hr => by cases hr
  get := fun r _ s => by
    rw [← Tr.get_nil2, Tr.get_nil]
    exact ⟨(fun h => by cases h), (fun h => by cases h.1)⟩
  one := List.Pairwise.nil
  len := rfl
theorem one_get {l : List S33} (h : l.Pairwise (fun r s => r.f0 ≠ s.f0)) {i j : Nat} (hi' : i < l.length) (hj : j < l.length) (e : l[i].f0 = l[j].f0) : i = j := by
  rcases Nat.lt_trichotomy i j with hlt | h2 | hlt
  · exact absurd e (List.pairwise_iff_getElem.1 h i j hi' hj hlt)
  · exact h2
  · exact absurd e.symm (List.pairwise_iff_getElem.1 h j i hj hi' hlt)
theorem Rel.no {T : Tr S33} {l : List S33} (h : Rel T l) {r : S33} (hr : RtR r) (hn : ∀ s ∈ l, s.f0 ≠ r.f0) : T.get (keyR r) = none := by
  cases hg : T.get (keyR r) with
  | none => rfl
  | some s =>
    have := (h.get r hr s).1 hg
    exact absurd this.2 (hn s this.1)
theorem Rel.at_ {T : Tr S33} {l : List S33} (h : Rel T l) {r : S33} (hr : RtR r) {t : Nat} (ht : t < l.length) (e : l[t].f0 = r.f0) : T.get (keyR r) = some l[t] := (h.get r hr _).2 ⟨List.getElem_mem ht, e⟩
theorem keyR_eq {r s : S33} (e : r.f0 = s.f0) : keyR r = keyR s := by unfold keyR; rw [e]
/-- what the tree has behind a put, told by prefixes -/
theorem get_putR {T : Tr S33} {r q : S33} (hr : RtR r) (hq : RtR q) (s : S33) : (T.put (keyR r) r).get (keyR q) = some s ↔ ((q.f0 = r.f0 ∧ s = r) ∨ (q.f0 ≠ r.f0 ∧ T.get (keyR q) = some s)) := by
  rw [Tr.get_put]
  by_cases e : q.f0 = r.f0
  · rw [if_pos (keyR_eq e)]
    constructor
    · intro h; exact .inl ⟨e, (Option.some.inj h).symm⟩
    · rintro (⟨_, h⟩ | ⟨h, _⟩)
      · rw [h]
      · exact absurd e h
  · rw [if_neg (fun h => e (key_inj hq hr h))]
    constructor
    · intro h; exact .inr ⟨e, h⟩
    · rintro (⟨h, _⟩ | ⟨_, h⟩)
      · exact absurd h e
      · exact h
theorem Rel.push {T : Tr S33} {l : List S33} (h : Rel T l) {r : S33} (hr : RtR r) (hn : ∀ s ∈ l, s.f0 ≠ r.f0) : Rel (T.put (keyR r) r) (l ++ [r]) where
  inv := h.inv.putR hr
  rt := fun s hs => by
    rcases List.mem_append.1 hs with hs | hs
    · exact h.rt s hs
    · rw [List.mem_singleton] at hs; subst hs; exact hr
  get := fun q hq s => by
    rw [get_putR hr hq, h.get q hq, List.mem_append, List.mem_singleton]
    constructor
    · rintro (⟨e, rfl⟩ | ⟨e, h1, h2⟩)
      · exact ⟨.inr rfl, e.symm⟩
      · exact ⟨.inl h1, h2⟩
    · rintro ⟨h1 | rfl, h2⟩
      · exact .inr ⟨fun e => hn s h1 (h2.trans e), h1, h2⟩
      · exact .inl ⟨h2.symm, rfl⟩
  one := by
    rw [List.pairwise_append]
    refine ⟨h.one, List.pairwise_singleton _ _, fun a ha b hb => ?_⟩
    rw [List.mem_singleton] at hb
    subst hb
    exact hn a ha
  len := by
    have := Tr.len_put (keyR r) r T
    rw [h.no hr hn] at this
    simp only [Option.toList_none, List.length_nil] at this
    rw [List.length_append, List.length_singleton, ← h.len]
    omega
theorem mem_set_one {l : List S33} (h : l.Pairwise (fun r s => r.f0 ≠ s.f0)) {t : Nat} (ht : t < l.length) {r : S33} (e : l[t].f0 = r.f0) (s : S33) : s ∈ l.set t r ↔ s = r ∨ (s ∈ l ∧ s.f0 ≠ r.f0) := by
  constructor
  · intro hs
    obtain ⟨j, hj, e2⟩ := List.getElem_of_mem hs
    rw [List.getElem_set] at e2
    by_cases h3 : t = j
    · rw [if_pos h3] at e2; exact .inl e2.symm
    · rw [if_neg h3] at e2
      have hj2 : j < l.length := by simpa using hj
      refine .inr ⟨by rw [← e2]; exact List.getElem_mem hj2, fun e3 => h3 ?_⟩
      rw [← e2, ← e] at e3
      exact (one_get h hj2 ht e3).symm
  · rintro (rfl | ⟨h1, h2⟩)
    · exact List.mem_iff_getElem.2 ⟨t, by simpa using ht, by rw [List.getElem_set, if_pos rfl]⟩
    · obtain ⟨j, hj, rfl⟩ := List.getElem_of_mem h1
      refine List.mem_iff_getElem.2 ⟨j, by simpa using hj, ?_⟩
      rw [List.getElem_set, if_neg]
      rintro rfl
      exact h2 e
theorem Rel.set {T : Tr S33} {l : List S33} (h : Rel T l) {r : S33} (hr : RtR r) {t : Nat} (ht : t < l.length) (e : l[t].f0 = r.f0) : Rel (T.put (keyR r) r) (l.set t r) where
  inv := h.inv.putR hr
  rt := fun s hs => by
    rcases (mem_set_one h.one ht e s).1 hs with rfl | ⟨hs, _⟩
    · exact hr
    · exact h.rt s hs
  get := fun q hq s => by
    rw [get_putR hr hq, h.get q hq, mem_set_one h.one ht e]
    constructor
    · rintro (⟨e2, rfl⟩ | ⟨e2, h1, h2⟩)
      · exact ⟨.inl rfl, e2.symm⟩
      · exact ⟨.inr ⟨h1, fun e3 => e2 (h2.symm.trans e3)⟩, h2⟩
    · rintro ⟨rfl | ⟨h1, h3⟩, h2⟩
      · exact .inl ⟨h2.symm, rfl⟩
      · exact .inr ⟨fun e3 => h3 (h2.trans e3), h1, h2⟩
  one := by
    rw [List.pairwise_iff_getElem]
    intro i j hi' hj hij
    have hi2 : i < l.length := by simpa using hi'
    have hj2 : j < l.length := by simpa using hj
    rw [List.getElem_set, List.getElem_set]
    have hp := List.pairwise_iff_getElem.1 h.one i j hi2 hj2 hij
    split
    · rename_i e2
      subst e2
      rw [if_neg (by omega), ← e]
      exact hp
    · split
      · rename_i e2
        subst e2
        rw [← e]
        exact hp
      · exact hp
  len := by
    have := Tr.len_put (keyR r) r T
    rw [h.at_ hr ht e] at this
    simp only [Option.toList_some, List.length_singleton] at this
    rw [List.length_set, ← h.len]
    omega
theorem get_dropR {T : Tr S33} {r q : S33} (hr : RtR r) (hq : RtR q) (s : S33) : (T.drop (keyR r)).get (keyR q) = some s ↔ (q.f0 ≠ r.f0 ∧ T.get (keyR q) = some s) := by
  rw [Tr.get_drop]
  by_cases e : q.f0 = r.f0
  · rw [if_pos (keyR_eq e)]
    exact ⟨(fun h => by cases h), (fun h => absurd e h.1)⟩
  · rw [if_neg (fun h => e (key_inj hq hr h))]
    exact ⟨fun h => ⟨e, h⟩, fun h => h.2⟩
/-! ### one tree for another one -/
theorem all_congr {α : Type} (T : Tr α) : ∀ T' : Tr α, (∀ q, T.get q = T'.get q) → T.all = T'.all := by
  have empty : ∀ T : Tr α, (∀ q, T.get q = none) → T.all = [] := fun T h => by
    cases hl : T.all with
    | nil => rfl
    | cons r l =>
      obtain ⟨q, hq⟩ := (Tr.mem_all T r).1 (by rw [hl]; exact List.mem_cons_self)
      rw [h q] at hq
      cases hq
  induction T with
  | nil =>
    intro T' h
    exact (empty T' (fun q => by rw [← h q]; exact Tr.get_nil q)).symm
  | node o a b iha ihb =>
    intro T' h
    cases T' with
    | nil => exact empty _ (fun q => by rw [h q]; exact Tr.get_nil q)
    | node o' a' b' =>
      have h0 : o = o' := h []
      have h1 := iha a' (fun q => h (false :: q))
      have h2 := ihb b' (fun q => h (true :: q))
      show (o.toList ++ a.all) ++ b.all = (o'.toList ++ a'.all) ++ b'.all
      rw [h0, h1, h2]
theorem look_congr (T T' : Tr S33) (h : ∀ q, T.get q = T'.get q) (q : List Bool) : T.look q none = T'.look q none := by
  rcases look_spec q T none with ⟨h1, h2⟩ | ⟨i, r, h1, h2, h3, h4⟩ <;> rcases look_spec q T' none with ⟨k1, k2⟩ | ⟨j, s, k1, k2, k3, k4⟩
  · rw [h1, k1]
  · have := h2 j k1
    rw [h, k3] at this
    cases this
  · have := k2 i h1
    rw [← h, h3] at this
    cases this
  · rcases Nat.lt_trichotomy i j with hlt | rfl | hlt
    · have := h4 j hlt k1
      rw [h, k3] at this
      cases this
    · rw [h, k3] at h3
      rw [h2, k2, h3]
    · have := k4 i hlt h1
      rw [← h, h3] at this
      cases this
/-! ### the longest one of a list -/
theorem has_r {k : Nat} {r : S33} (hr : RtR r) (x : Nat) (hx : x < 4294967296) (hk : 80 < k) : milestoneref01_Has.f k r.f0.f0 r.f0.f1 (x : Int) = some (decide (keyR r = pth x r.f0.f1.toNat)) := by
  obtain ⟨a, n, e, h⟩ := hr
  unfold keyR
  rw [e, rhas_is k a n x h.2.1 h.1 hx hk]
  refine congrArg some ?_
  rw [decide_eq_decide]
  exact (pth_hi a x h.1 hx n h.2.1).symm
def HasR (x : Nat) (r : S33) : Prop := keyR r = pth x r.f0.f1.toNat
def lgst (l : List S33) (x : Nat) (c : Int) : Prop := (c = -1 ∧ ∀ r ∈ l, ¬ HasR x r) ∨ ∃ m, ∃ hm : m < l.length, c = (m : Int) ∧ HasR x l[m] ∧ ∀ r ∈ l, HasR x r → r.f0.f1 ≤ l[m].f0.f1
theorem longest_l0 (l : List S33) (x : Nat) (hx : x < 4294967296) (hl : l.length < 1000) (hr : ∀ r ∈ l, RtR r) (d : Nat) : ∀ (i k : Nat) (c : Int), i + d = l.length → 100 ≤ k → lgst (l.take i) x c → ∃ c', lgst l x c' ∧ milestonelaw09_longest.l0 (k + d + 1) l (x : Int) c (i : Int) = (if c' < 0 then (some (0, 0, 0, 0, 0, false)) else (some ((rd_T33 l c').f0.f0, (rd_T33 l c').f0.f1, (rd_T33 l c').f1, (rd_T33 l c').f2, (rd_T33 l c').f3, true))) := by
  induction d with
  | zero =>
    intro i k c hi' hk hc
    have hi2 : i = l.length := by omega
    rw [hi2, List.take_length] at hc
    refine ⟨c, hc, ?_⟩
    rw [milestonelaw09_longest.l0, if_neg (by omega)]
    rcases hc with ⟨rfl, _⟩ | ⟨m, hm, rfl, _, _⟩
    · rfl
    · rw [if_neg (show ¬ ((m : Int) < 0) by omega), if_pos (by omega), if_pos (by omega), if_neg (show ¬ ((m : Int) < 0) by omega)]
  | succ d ih =>
    intro i k c hi' hk hc
    have hi2 : i < l.length := by omega
    have htk : l.take (i + 1) = l.take i ++ [l[i]] := by rw [List.take_succ_eq_append_getElem hi2]
    have hri := hr l[i] (List.getElem_mem hi2)
    rw [show k + (d + 1) + 1 = (k + d + 1) + 1 by omega, milestonelaw09_longest.l0, if_pos (by omega), if_pos (by omega), rd33_get l i hi2, has_r hri x hx (by omega), Option.bind_some, wr1 i (by omega)]
    have hself : lgst (l.take i) x (-1) → HasR x l[i] → lgst (l.take (i + 1)) x (i : Int) := by
      rintro (⟨_, hn⟩ | ⟨m, _, h, _⟩) hh
      · refine .inr ⟨i, by rw [List.length_take]; omega, rfl, by rw [List.getElem_take]; exact hh, fun r hr2 hr3 => ?_⟩
        rw [List.getElem_take]
        rw [htk] at hr2
        rcases List.mem_append.1 hr2 with h4 | h4
        · exact absurd hr3 (hn r h4)
        · rw [List.mem_singleton] at h4; subst h4; exact Int.le_refl _
      · omega
    by_cases hh : HasR x l[i]
    · rw [if_pos (decide_eq_true (show keyR l[i] = pth x l[i].f0.f1.toNat from hh))]
      rcases hc with ⟨rfl, hn⟩ | ⟨m, hm, rfl, hhm, hmax⟩
      · rw [if_pos (by decide)]
        exact ih (i + 1) k _ (by omega) hk (hself (.inl ⟨rfl, hn⟩) hh)
      · have hm2 : m < i ∧ m < l.length := by rw [List.length_take] at hm; omega
        rw [List.getElem_take] at hhm hmax
        rw [if_neg (by omega), if_pos (by omega), if_pos (by omega), rd33_get l m hm2.2]
        by_cases hgt : l[i].f0.f1 > l[m].f0.f1
        · rw [if_pos hgt]
          refine ih (i + 1) k _ (by omega) hk (.inr ⟨i, by rw [List.length_take]; omega, rfl, by rw [List.getElem_take]; exact hh, fun r hr2 hr3 => ?_⟩)
          rw [List.getElem_take]
          rw [htk] at hr2
          rcases List.mem_append.1 hr2 with h4 | h4
          · have := hmax r h4 hr3; omega
          · rw [List.mem_singleton] at h4; subst h4; exact Int.le_refl _
        · rw [if_neg hgt]
          refine ih (i + 1) k _ (by omega) hk (.inr ⟨m, by rw [List.length_take]; omega, rfl, by rw [List.getElem_take]; exact hhm, fun r hr2 hr3 => ?_⟩)
          rw [List.getElem_take]
          rw [htk] at hr2
          rcases List.mem_append.1 hr2 with h4 | h4
          · exact hmax r h4 hr3
          · rw [List.mem_singleton] at h4; subst h4; omega
    · rw [if_neg (by rw [decide_eq_false (show ¬ keyR l[i] = pth x l[i].f0.f1.toNat from hh)]; decide)]
      refine ih (i + 1) k c (by omega) hk ?_
      rcases hc with ⟨rfl, hn⟩ | ⟨m, hm, rfl, hhm, hmax⟩
      · refine .inl ⟨rfl, fun r hr2 => ?_⟩
        rw [htk] at hr2
        rcases List.mem_append.1 hr2 with h4 | h4
        · exact hn r h4
        · rw [List.mem_singleton] at h4; subst h4; exact hh
      · rw [List.length_take] at hm
        rw [List.getElem_take] at hhm hmax
        refine .inr ⟨m, by rw [List.length_take]; omega, rfl, by rw [List.getElem_take]; exact hhm, fun r hr2 hr3 => ?_⟩
        rw [List.getElem_take]
        rw [htk] at hr2
        rcases List.mem_append.1 hr2 with h4 | h4
        · exact hmax r h4 hr3
        · rw [List.mem_singleton] at h4; subst h4; exact absurd hr3 hh
theorem longest_is {T : Tr S33} {l : List S33} (h : Rel T l) (hl : l.length < 1000) (x : Nat) (hx : x < 4294967296) (k : Nat) (hk : 1200 ≤ k) : milestonelaw09_longest.f k l (x : Int) = some ((oR (T.look (pth x 32) none)).f0.f0, (oR (T.look (pth x 32) none)).f0.f1, (oR (T.look (pth x 32) none)).f1, (oR (T.look (pth x 32) none)).f2, (oR (T.look (pth x 32) none)).f3, (T.look (pth x 32) none).isSome) := by
  obtain ⟨c', hc', he⟩ := longest_l0 l x hx hl h.rt l.length 0 (k - l.length - 1) (-1) (by omega) (by omega) (.inl ⟨rfl, fun r hr => by simp at hr⟩)
  rw [show k - l.length - 1 + l.length + 1 = k by omega] at he
  unfold milestonelaw09_longest.f
  refine (show milestonelaw09_longest.l0 k l (x : Int) (-1) ((0 : Nat) : Int) = _ from he).trans ?_
  rcases look_is h.inv x hx with ⟨e, hno⟩ | ⟨b, n, v, ms, s, e, hr, hq, hg, hup⟩
  · rw [e]
    rcases hc' with ⟨rfl, _⟩ | ⟨m, hm, rfl, hhm, _⟩
    · rfl
    · exfalso
      have hrm := h.rt _ (List.getElem_mem hm)
      have h1 := h.at_ hrm hm rfl
      obtain ⟨a, n, e1, h2⟩ := hrm
      unfold HasR at hhm
      rw [hhm, e1] at h1
      have := hno n h2.2.1
      rw [show ((n : Int)).toNat = n from Int.toNat_natCast n, this] at h1
      cases h1
  · rw [e]
    have hrt : RtR (⟨⟨(b : Int), (n : Int)⟩, v, ms, s⟩ : S33) := ⟨b, n, rfl, hr⟩
    have hkey : keyR (⟨⟨(b : Int), (n : Int)⟩, v, ms, s⟩ : S33) = pth x n := hq
    have hmem := (h.get _ hrt (⟨⟨(b : Int), (n : Int)⟩, v, ms, s⟩ : S33)).1 (by rw [hkey]; exact hg)
    have hhas : HasR x (⟨⟨(b : Int), (n : Int)⟩, v, ms, s⟩ : S33) := hkey
    rcases hc' with ⟨_, hn⟩ | ⟨m, hm, rfl, hhm, hmax⟩
    · exact absurd hhas (hn _ hmem.1)
    · have h1 := hmax _ hmem.1 hhas
      have hrm := h.rt _ (List.getElem_mem hm)
      have h2 := h.at_ hrm hm rfl
      obtain ⟨a, j, e1, h3⟩ := hrm
      unfold HasR at hhm
      rw [hhm, e1] at h2
      rw [e1] at h1
      have h1' : n ≤ j := by
        have : (n : Int) ≤ (j : Int) := h1
        omega
      have hj : j = n := by
        apply Nat.le_antisymm _ h1'
        apply Nat.le_of_not_lt
        intro hlt
        have := hup j hlt h3.2.1
        rw [show ((j : Int)).toNat = j from Int.toNat_natCast j, this] at h2
        cases h2
      subst hj
      rw [show ((j : Int)).toNat = j from Int.toNat_natCast j, hg] at h2
      have h4 : l[m] = (⟨⟨(b : Int), (j : Int)⟩, v, ms, s⟩ : S33) := (Option.some.inj h2).symm
      rw [if_neg (by omega), rd33_get l m hm, h4]
      rfl

theorem find_f (l : List S33) (hl : l.length < 1000) (a n : Int) (k : Nat) (hk : 1100 ≤ k) : (∃ t, ∃ ht : t < l.length, milestonelaw09_find.f k l a n = some (t : Int) ∧ l[t].f0 = ⟨a, n⟩) ∨ (milestonelaw09_find.f k l a n = some (-1) ∧ ∀ s ∈ l, s.f0 ≠ ⟨a, n⟩) := by
  have hf := find_is l hl a n l.length 0 (k - l.length - 1) (by omega)
  rw [show k - l.length - 1 + l.length + 1 = k by omega] at hf
  unfold milestonelaw09_find.f
  rcases hf with ⟨t, _, ht, h1, h2⟩ | ⟨h1, h2⟩
  · exact .inl ⟨t, ht, h1, h2⟩
  · refine .inr ⟨h1, fun s hs => ?_⟩
    obtain ⟨j, hj, rfl⟩ := List.getElem_of_mem hs
    exact h2 j hj (Nat.zero_le _)
def wfA (x : S30) : Prop := (Lit.int .u8 x.f0).wf = true ∧ ((Lit.int .u32 x.f1).wf = true ∧ ((Lit.int .u8 x.f2).wf = true ∧ (Lit.int .u8 x.f3).wf = true))

theorem mem_cut_one {l : List S33} (h : l.Pairwise (fun r s => r.f0 ≠ s.f0)) {t : Nat} (ht : t < l.length) (s : S33) : s ∈ l.take t ++ l.drop (t + 1) ↔ (s ∈ l ∧ s.f0 ≠ l[t].f0) := by
  rw [List.mem_append]
  constructor
  · rintro (h1 | h1)
    · obtain ⟨j, hj, rfl⟩ := List.getElem_of_mem h1
      rw [List.length_take] at hj
      rw [List.getElem_take]
      exact ⟨List.getElem_mem _, fun e => by have := one_get h (by omega) ht e; omega⟩
    · obtain ⟨j, hj, rfl⟩ := List.getElem_of_mem h1
      rw [List.length_drop] at hj
      rw [List.getElem_drop]
      exact ⟨List.getElem_mem _, fun e => by have := one_get h (by omega) ht e; omega⟩
  · rintro ⟨h1, h2⟩
    obtain ⟨j, hj, rfl⟩ := List.getElem_of_mem h1
    rcases Nat.lt_trichotomy j t with h3 | rfl | h3
    · exact .inl (List.mem_iff_getElem.2 ⟨j, by rw [List.length_take]; omega, by rw [List.getElem_take]⟩)
    · exact absurd rfl h2
    · refine .inr (List.mem_iff_getElem.2 ⟨j - (t + 1), by rw [List.length_drop]; omega, ?_⟩)
      rw [List.getElem_drop]
      congr 1
      omega
theorem Rel.cut {T : Tr S33} {l : List S33} (h : Rel T l) {r : S33} (hr : RtR r) {t : Nat} (ht : t < l.length) (e : l[t].f0 = r.f0) : Rel (T.drop (keyR r)) (l.take t ++ l.drop (t + 1)) where
  inv := h.inv.drop _
  rt := fun s hs => h.rt s ((mem_cut_one h.one ht s).1 hs).1
  get := fun q hq s => by
    rw [get_dropR hr hq, h.get q hq, mem_cut_one h.one ht, e]
    constructor
    · rintro ⟨h1, h2, h3⟩
      exact ⟨⟨h2, fun e2 => h1 (h3.symm.trans e2)⟩, h3⟩
    · rintro ⟨⟨h1, h2⟩, h3⟩
      exact ⟨fun e2 => h2 (h3.trans e2), h1, h3⟩
  one := by
    have hs : List.Sublist (l.take t ++ l.drop (t + 1)) l := by
      have h1 : List.Sublist (l.drop (t + 1)) (l.drop t) := by
        rw [← List.drop_drop]
        exact List.drop_sublist _ _
      have h2 := List.Sublist.append (List.Sublist.refl (l.take t)) h1
      rwa [List.take_append_drop] at h2
    exact h.one.sublist hs
  len := by
    have := Tr.len_drop (keyR r) T
    rw [h.at_ hr ht e] at this
    simp only [Option.toList_some, List.length_singleton] at this
    rw [List.length_append, List.length_take, List.length_drop, ← h.len] at *
    have := h.len
    omega
theorem drop_yes {T : Tr S33} {l : List S33} (h : Rel T l) (hl : l.length < 1000) {a n : Nat} (hr : Rt a n) {t : Nat} (ht : t < l.length) (e : l[t].f0 = ⟨(a : Int), (n : Int)⟩) : trie_Trie_Drop.f T (a : Int) (n : Int) = some (0, T.drop (pth a n)) := by
  have hrt : RtR (⟨⟨(a : Int), (n : Int)⟩, 0, 0, 0⟩ : S33) := ⟨a, n, rfl, hr⟩
  have hg := h.at_ hrt ht e
  have hlen := h.len
  unfold trie_Trie_Drop.f
  rw [right_rt hr, Option.bind_some, if_pos rfl, if_pos ⟨by omega, by omega⟩, Int.toNat_natCast, path_is a n hr.1 hr.2.1, if_pos (by rw [show pth a n = keyR (⟨⟨(a : Int), (n : Int)⟩, 0, 0, 0⟩ : S33) from rfl, hg]; rfl)]
theorem drop_no {T : Tr S33} {l : List S33} (h : Rel T l) (hl : l.length < 1000) {a n : Nat} (hr : Rt a n) (hn : ∀ s ∈ l, s.f0 ≠ ⟨(a : Int), (n : Int)⟩) : trie_Trie_Drop.f T (a : Int) (n : Int) = some (2, T) := by
  have hrt : RtR (⟨⟨(a : Int), (n : Int)⟩, 0, 0, 0⟩ : S33) := ⟨a, n, rfl, hr⟩
  have hg := h.no hrt hn
  have hlen := h.len
  unfold trie_Trie_Drop.f
  rw [right_rt hr, Option.bind_some, if_pos rfl, if_pos ⟨by omega, by omega⟩, Int.toNat_natCast, path_is a n hr.1 hr.2.1, if_neg (by rw [show pth a n = keyR (⟨⟨(a : Int), (n : Int)⟩, 0, 0, 0⟩ : S33) from rfl, hg]; decide)]
theorem get_f {T : Tr S33} {a n : Nat} (hr : Rt a n) : trie_Trie_Get.f T (a : Int) (n : Int) = some ((oR (T.get (pth a n))).f0.f0, (oR (T.get (pth a n))).f0.f1, (oR (T.get (pth a n))).f1, (oR (T.get (pth a n))).f2, (oR (T.get (pth a n))).f3, (T.get (pth a n)).isSome, T) := by
  unfold trie_Trie_Get.f
  rw [right_rt hr, Option.bind_some, Int.toNat_natCast, path_is a n hr.1 hr.2.1]
  rfl
theorem j2_eq (k : Nat) (x0 : List S30) (x1 : List Int) (l : List S33) (T : Tr S33) (i t : Int) : milestonelaw09_TriePlays.j2 (k + 1) x0 x1 l i t false T = if t ≥ 0 then (if 0 ≤ t then (if t ≤ (l.length : Int) then ((some (l.take (t : Int).toNat : List (S33))).bind fun y167 => (if ([] : List (S33)).length + y167.length < 5864062014805 then ((some (([] : List (S33)) ++ y167 : List (S33))).bind fun y171 => (if 0 ≤ (wrap64 (t + 1)) then (if (wrap64 (t + 1)) ≤ (l.length : Int) then ((some (l.drop ((wrap64 (t + 1)) : Int).toNat : List (S33))).bind fun y174 => (if y171.length + y174.length < 5864062014805 then ((some (y171 ++ y174 : List (S33))).bind fun y178 => ((trie_Trie_Len.f T).bind fun bt181 => (if bt181.1 = (y178.length : Int) then (milestonelaw09_TriePlays.l0 k x0 x1 y178 (wrap64 (i + 1)) bt181.2) else (some false)))) else (none))) else (none)) else (none))) else (none))) else (none)) else (none)) else ((trie_Trie_Len.f T).bind fun b => if b.1 = (l.length : Int) then milestonelaw09_TriePlays.l0 k x0 x1 l (wrap64 (i + 1)) b.2 else some false) := by
  rw [milestonelaw09_TriePlays.j2]
  rfl
theorem j2_cut (k : Nat) (x0 : List S30) (x1 : List Int) (l : List S33) (T : Tr S33) (i : Int) (t : Nat) (ht : t < l.length) (hl : l.length < 1000) : milestonelaw09_TriePlays.j2 (k + 1) x0 x1 l i (t : Int) false T = (trie_Trie_Len.f T).bind fun b => if b.1 = ((l.take t ++ l.drop (t + 1)).length : Int) then milestonelaw09_TriePlays.l0 k x0 x1 (l.take t ++ l.drop (t + 1)) (wrap64 (i + 1)) b.2 else some false := by
  have b1 : (t : Int) ≥ 0 := by omega
  have b2 : (t : Int) ≤ (l.length : Int) := by omega
  have ew : wrap64 ((t : Int) + 1) = ((t + 1 : Nat) : Int) := wr1 t (by omega)
  have b3 : (0 : Int) ≤ ((t + 1 : Nat) : Int) := by omega
  have b4 : ((t + 1 : Nat) : Int) ≤ (l.length : Int) := by omega
  have b5 : ([] : List S33).length + (l.take t).length < 5864062014805 := by rw [List.length_take]; simp only [List.length_nil]; omega
  have b6 : (l.take t).length + (l.drop (t + 1)).length < 5864062014805 := by rw [List.length_take, List.length_drop]; omega
  rw [j2_eq]
  rw [if_pos b1, if_pos (show (0:Int) ≤ (t:Int) from b1), if_pos b2]
  rw [Option.bind_some]
  rw [if_pos (by rw [Int.toNat_natCast]; exact b5)]
  rw [Option.bind_some, ew]
  rw [if_pos b3, if_pos b4, Option.bind_some, List.nil_append, Int.toNat_natCast, Int.toNat_natCast]
  rw [if_pos b6]
  rw [Option.bind_some]
theorem j2_stay (k : Nat) (x0 : List S30) (x1 : List Int) (l : List S33) (T : Tr S33) (i : Int) : milestonelaw09_TriePlays.j2 (k + 1) x0 x1 l i (-1) false T = (trie_Trie_Len.f T).bind fun b => if b.1 = (l.length : Int) then milestonelaw09_TriePlays.l0 k x0 x1 l (wrap64 (i + 1)) b.2 else some false := by
  have b1 : ¬ ((-1 : Int) ≥ 0) := by decide
  rw [j2_eq]
  rw [if_neg b1]
theorem plays_l0 (x0 : List S30) (x1 : List Int) (hw : ∀ x ∈ x0, wfA x) (hl : x0.length ≤ 60) (d : Nat) : ∀ (i : Nat) (l : List S33) (T : Tr S33), i + d = x0.length → Rel T l → l.length ≤ i → ∃ m l' T', m ≤ 2 * d + 1 ∧ Rel T' l' ∧ l'.length ≤ 60 ∧ ∀ k, 1200 ≤ k → milestonelaw09_TriePlays.l0 (k + m) x0 x1 l (i : Int) T = milestonelaw09_TriePlays.l1 k x0 x1 l' 0 T' := by
  induction d with
  | zero =>
    intro i l T hi' hR hc
    refine ⟨1, l, T, by omega, hR, by omega, fun k hk => ?_⟩
    rw [milestonelaw09_TriePlays.l0, if_neg (by omega)]
  | succ d ih =>
    intro i l T hi' hR hc
    obtain ⟨a, n, hr, hp⟩ := act_place _ (hw _ (rd30_mem x0 i (by omega)))
    have hlen := hR.len
    have hrt : ∀ v, RtR (⟨(⟨(a : Int), (n : Int)⟩ : S27), v, 0, 0⟩ : S33) := fun v => ⟨a, n, rfl, hr⟩
    have hfm := fun t (h : milestonelaw09_find.f 1100 l (a : Int) (n : Int) = some t) (k : Nat) (hk : 1100 ≤ k) => at_rounds (fun k => milestonelaw09_find.mono _ _ _ k) hk h
    by_cases hput : Int.tmod (rd_T30 x0 (i : Int)).f0 6 < 4
    · rcases find_f l (by omega) (a : Int) (n : Int) 1100 (Nat.le_refl _) with ⟨t, ht, h1, h2⟩ | ⟨h1, h2⟩
      · have hR2 := hR.set (hrt (wrap64 (rd_T30 x0 (i : Int)).f3)) ht h2
        obtain ⟨m, l', T', g0, g1, g2, g3⟩ := ih (i + 1) _ _ (by omega) hR2 (by rw [List.length_set]; omega)
        refine ⟨m + 1, l', T', by omega, g1, g2, fun k hk => ?_⟩
        rw [show k + (m + 1) = (k + m) + 1 by omega, milestonelaw09_TriePlays.l0, if_pos (by omega), if_pos (by omega), hp _ (by omega), Option.bind_some, hfm _ h1 _ (by omega), Option.bind_some, if_pos hput, put_f hr (by omega), Option.bind_some, if_pos rfl, if_pos (by omega), if_pos (by omega), if_pos (by omega)]
        have hl2 := hR2.len
        rw [List.length_set] at hl2
        unfold trie_Trie_Len.f
        rw [Option.bind_some, if_pos (show ((T.put (pth a n) (⟨⟨(a : Int), (n : Int)⟩, wrap64 (rd_T30 x0 (i : Int)).f3, 0, 0⟩ : S33)).all.length : Int) = (l.length : Int) from congrArg Int.ofNat hl2), wr1 i (by omega)]
        exact g3 k hk
      · have hR2 := hR.push (hrt (wrap64 (rd_T30 x0 (i : Int)).f3)) h2
        obtain ⟨m, l', T', g0, g1, g2, g3⟩ := ih (i + 1) _ _ (by omega) hR2 (by rw [List.length_append, List.length_singleton]; omega)
        refine ⟨m + 1, l', T', by omega, g1, g2, fun k hk => ?_⟩
        rw [show k + (m + 1) = (k + m) + 1 by omega, milestonelaw09_TriePlays.l0, if_pos (by omega), if_pos (by omega), hp _ (by omega), Option.bind_some, hfm _ h1 _ (by omega), Option.bind_some, if_pos hput, put_f hr (by omega), Option.bind_some, if_pos rfl, if_neg (by decide), Option.bind_some, if_pos (by rw [List.length_singleton]; omega), Option.bind_some]
        unfold trie_Trie_Len.f
        rw [Option.bind_some, if_pos (show ((T.put (pth a n) (⟨⟨(a : Int), (n : Int)⟩, wrap64 (rd_T30 x0 (i : Int)).f3, 0, 0⟩ : S33)).all.length : Int) = ((l ++ [(⟨⟨(a : Int), (n : Int)⟩, wrap64 (rd_T30 x0 (i : Int)).f3, 0, 0⟩ : S33)]).length : Int) from congrArg Int.ofNat hR2.len), wr1 i (by omega)]
        exact g3 k hk
    · rcases find_f l (by omega) (a : Int) (n : Int) 1100 (Nat.le_refl _) with ⟨t, ht, h1, h2⟩ | ⟨h1, h2⟩
      · have hR2 := hR.cut (hrt 0) ht h2
        have hl2 := hR2.len
        obtain ⟨m, l', T', g0, g1, g2, g3⟩ := ih (i + 1) _ _ (by omega) hR2 (by rw [List.length_append, List.length_take, List.length_drop]; omega)
        refine ⟨m + 2, l', T', by omega, g1, g2, fun k hk => ?_⟩
        have q1 : (((0 : Int) == 0) != (decide ((t : Int) ≥ 0))) = false := by rw [decide_eq_true (show (t : Int) ≥ 0 by omega)]; rfl
        have ew : wrap64 ((t : Int) + 1) = ((t + 1 : Nat) : Int) := wr1 t (by omega)
        rw [show k + (m + 2) = ((k + m) + 1) + 1 by omega, milestonelaw09_TriePlays.l0, if_pos (by omega), if_pos (by omega), hp _ (by omega), Option.bind_some, hfm _ h1 _ (by omega), Option.bind_some, if_neg hput, drop_yes hR (by omega) hr ht h2, Option.bind_some]
        show (if (((0 : Int) == 0) != (decide ((t : Int) ≥ 0))) = true then _ else _) = _
        rw [q1, if_neg Bool.false_ne_true]
        show (if (0 : Int) = 0 then _ else _) = _
        rw [if_pos rfl]
        refine (j2_cut _ x0 x1 l _ _ t ht (by omega)).trans ?_
        unfold trie_Trie_Len.f
        rw [Option.bind_some, if_pos (show ((T.drop (pth a n)).all.length : Int) = ((l.take t ++ l.drop (t + 1)).length : Int) from congrArg Int.ofNat hl2), wr1 i (by omega)]
        exact g3 k hk
      · obtain ⟨m, l', T', g0, g1, g2, g3⟩ := ih (i + 1) l T (by omega) hR (by omega)
        refine ⟨m + 2, l', T', by omega, g1, g2, fun k hk => ?_⟩
        have q1 : (((2 : Int) == 0) != (decide ((-1 : Int) ≥ 0))) = false := by decide
        rw [show k + (m + 2) = ((k + m) + 1) + 1 by omega, milestonelaw09_TriePlays.l0, if_pos (by omega), if_pos (by omega), hp _ (by omega), Option.bind_some, hfm _ h1 _ (by omega), Option.bind_some, if_neg hput, drop_no hR (by omega) hr h2, Option.bind_some]
        show (if (((2 : Int) == 0) != (decide ((-1 : Int) ≥ 0))) = true then _ else _) = _
        rw [q1, if_neg Bool.false_ne_true]
        show (if (2 : Int) = 0 then _ else _) = _
        rw [if_neg (by decide)]
        refine (j2_stay _ x0 x1 l _ _).trans ?_
        unfold trie_Trie_Len.f
        rw [Option.bind_some, if_pos (show (T.all.length : Int) = (l.length : Int) from congrArg Int.ofNat hlen), wr1 i (by omega)]
        exact g3 k hk
def addrs (x1 : List Int) : Prop := ∀ x ∈ x1, ∃ b : Nat, b < 4294967296 ∧ x = (b : Int)
theorem plays_l2 (l : List S33) (T : Tr S33) (hR : Rel T l) (hll : l.length ≤ 60) (x1 : List Int) (hx : addrs x1) (hl : x1.length ≤ 1000) (d : Nat) : ∀ (i k : Nat), i + d = x1.length → 1300 ≤ k → milestonelaw09_TriePlays.l2 (k + d + 1) x1 l (i : Int) T = some true := by
  induction d with
  | zero =>
    intro i k hi' hk
    rw [milestonelaw09_TriePlays.l2, if_neg (by omega)]
  | succ d ih =>
    intro i k hi' hk
    obtain ⟨b, hb, e⟩ := hx (rd x1 (i : Int)) (by
      show x1.getD (i : Int).toNat 0 ∈ x1
      rw [Int.toNat_natCast, List.getD_eq_getElem?_getD, List.getElem?_eq_getElem (by omega)]
      exact List.getElem_mem _)
    rw [show k + (d + 1) + 1 = (k + d + 1) + 1 by omega, milestonelaw09_TriePlays.l2, if_pos (by omega), if_pos (by omega), e, look_f T b hb, Option.bind_some, longest_is hR (by omega) b hb _ (by omega), Option.bind_some, wr1 i (by omega)]
    generalize T.look (pth b 32) none = z
    show (if (z.isSome != z.isSome) = true then _ else _) = _
    rw [if_neg (by simp), if_neg (by simp)]
    exact ih (i + 1) k (by omega) hk
theorem plays_l1 (x0 : List S30) (hw : ∀ x ∈ x0, wfA x) (hl : x0.length ≤ 60) (l : List S33) (T : Tr S33) (hR : Rel T l) (hll : l.length ≤ 60) (d : Nat) : ∀ (i : Nat) (x1 : List Int), i + d = x0.length → addrs x1 → x1.length ≤ 30 + i → ∃ x1' : List Int, addrs x1' ∧ x1'.length ≤ 90 ∧ ∀ k, 1200 ≤ k → milestonelaw09_TriePlays.l1 (k + d + 1) x0 x1 l (i : Int) T = milestonelaw09_TriePlays.l2 k x1' l 0 T := by
  induction d with
  | zero =>
    intro i x1 hi' hx hc
    refine ⟨x1, hx, by omega, fun k hk => ?_⟩
    rw [milestonelaw09_TriePlays.l1, if_neg (by omega)]
  | succ d ih =>
    intro i x1 hi' hx hc
    obtain ⟨a, n, hr, hp⟩ := act_place _ (hw _ (rd30_mem x0 i (by omega)))
    have hrt : RtR (⟨(⟨(a : Int), (n : Int)⟩ : S27), 0, 0, 0⟩ : S33) := ⟨a, n, rfl, hr⟩
    have hfm := fun t (h : milestonelaw09_find.f 1100 l (a : Int) (n : Int) = some t) (k : Nat) (hk : 1100 ≤ k) => at_rounds (fun k => milestonelaw09_find.mono _ _ _ k) hk h
    obtain ⟨x1', g1, g2, g3⟩ := ih (i + 1) (x1 ++ [(a : Int)]) (by omega) (fun x hx2 => by
      rcases List.mem_append.1 hx2 with h | h
      · exact hx x h
      · rw [List.mem_singleton] at h; exact ⟨a, hr.1, h⟩) (by rw [List.length_append, List.length_singleton]; omega)
    refine ⟨x1', g1, g2, fun k hk => ?_⟩
    rw [show k + (d + 1) + 1 = (k + d + 1) + 1 by omega, milestonelaw09_TriePlays.l1, if_pos (by omega), if_pos (by omega), hp _ (by omega), Option.bind_some, get_f hr, Option.bind_some]
    rcases find_f l (by omega) (a : Int) (n : Int) 1100 (Nat.le_refl _) with ⟨t, ht, h1, h2⟩ | ⟨h1, h2⟩
    · have hg : T.get (pth a n) = some l[t] := hR.at_ hrt ht h2
      rw [hfm _ h1 _ (by omega), Option.bind_some, hg]
      show (if (true != (decide ((t : Int) ≥ 0))) = true then _ else _) = _
      rw [decide_eq_true (show (t : Int) ≥ 0 by omega), if_neg (by decide)]
      show (if true = true then _ else _) = _
      rw [if_pos rfl, if_pos (by omega), if_pos (by omega), rd33_get l t ht, if_neg (by simp [oR]), if_pos (by simp only [List.length_nil]; omega), Option.bind_some, Option.bind_some, if_pos (by rw [List.nil_append, List.length_singleton]; omega), List.nil_append, wr1 i (by omega)]
      exact g3 k hk
    · have hg : T.get (pth a n) = none := hR.no hrt h2
      rw [hfm _ h1 _ (by omega), Option.bind_some, hg]
      show (if (false != (decide ((-1 : Int) ≥ 0))) = true then _ else _) = _
      rw [if_neg (by decide)]
      show (if false = true then _ else _) = _
      rw [if_neg (by decide), if_pos (by simp only [List.length_nil]; omega), Option.bind_some, Option.bind_some, if_pos (by rw [List.nil_append, List.length_singleton]; omega), List.nil_append, wr1 i (by omega)]
      exact g3 k hk
theorem TriePlays : milestonelaw09_TriePlays.Pure := by
  intro l0 l1 _ hw0 _ _ hw1
  refine ⟨6000, ?_⟩
  unfold milestonelaw09_TriePlays.f
  rw [awake_is, Option.bind_some, if_pos rfl]
  by_cases hl : (l0.length : Int) > 60
  · rw [if_pos hl, milestonelaw09_TriePlays.j0, if_pos rfl, awake_is, Option.bind_some]
  · rw [if_neg hl]
    by_cases hl1 : (l1.length : Int) > 30
    · rw [decide_eq_true hl1, milestonelaw09_TriePlays.j0, if_pos rfl, awake_is, Option.bind_some]
    · rw [decide_eq_false hl1, milestonelaw09_TriePlays.j0, if_neg (by decide)]
      obtain ⟨m, l, T, g0, g1, g2, g3⟩ := plays_l0 l0 l1 hw0 (by omega) l0.length 0 [] (Tr.node none Tr.nil Tr.nil) (by omega) Rel.nil (Nat.le_refl _)
      have e1 := g3 (5999 - m) (by omega)
      rw [show 5999 - m + m = 5999 by omega] at e1
      refine e1.trans ?_
      obtain ⟨x1', k1, k2, k3⟩ := plays_l1 l0 hw0 (by omega) l T g1 g2 l0.length 0 l1 (by omega) (fun x hx => by
        have h := Go.bounds_u32 (hw1 x hx)
        exact ⟨x.toNat, by omega, by omega⟩) (by omega)
      have e2 := k3 (5999 - m - l0.length - 1) (by omega)
      rw [show 5999 - m - l0.length - 1 + l0.length + 1 = 5999 - m by omega] at e2
      refine e2.trans ?_
      have e3 := plays_l2 l T g1 g2 x1' k1 (by omega) x1'.length 0 (5999 - m - l0.length - 1 - x1'.length - 1) (by omega) (by omega)
      rw [show 5999 - m - l0.length - 1 - x1'.length - 1 + x1'.length + 1 = 5999 - m - l0.length - 1 by omega] at e3
      exact e3

end Go.Proofs.Ytbmiifhmgfhidaa.Pure
