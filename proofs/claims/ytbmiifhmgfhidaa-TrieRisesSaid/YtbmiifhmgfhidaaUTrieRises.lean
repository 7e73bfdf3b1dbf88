/- All routes of a trie, rising by prefixes, each once.
For every input; no condition is added to the given statement. -/
import Derived.Test.YtbmiifhmgfhidaaQTrieRisesx8
import Derived.Laws.BitsAllLaws
import Derived.OpenShut
import Derived.Lib.Bytes
namespace Go.Proofs.Ytbmiifhmgfhidaa.Pure
open Go.RowKit Go.Proofs.Ytbmiifhmgfhidaa.QTrieRises Go.Proofs.YtbmiifhmgfhidaaW.PrintWords Go.Proofs.YtbmiifhmgfhidaaW.PrintLast Go.Proofs.YtbmiifhmgfhidaaW.PrintMore
set_option linter.unusedSimpArgs false
set_option linter.unusedVariables false

/-- how many bits are left behind the first n -/
def lo (n : Nat) : Nat := 2 ^ (32 - n)
theorem lo_pos (n : Nat) : 0 < lo n := Nat.two_pow_pos _
theorem lo_step (n : Nat) (h : n < 32) : lo n = lo (n + 1) * 2 := by
  unfold lo
  rw [show 32 - n = (32 - (n + 1)) + 1 by omega, Nat.pow_succ]
theorem lo_0 : lo 0 = 4294967296 := by decide
/-- the first n bits -/
def hi (a n : Nat) : Nat := a / lo n
def ofN (a n : Nat) : Nat := hi a n * lo n
def bitN (a i : Nat) : Bool := decide (a / 2 ^ (31 - i) % 2 = 1)
theorem hi_step (a n : Nat) (h : n < 32) : hi a (n + 1) = 2 * hi a n + (if bitN a n = true then 1 else 0) := by
  unfold hi bitN
  have e : lo (n + 1) = 2 ^ (31 - n) := by unfold lo; rw [show 32 - (n + 1) = 31 - n by omega]
  rw [lo_step n h, e, ← Nat.div_div_eq_div_mul]
  generalize a / 2 ^ (31 - n) = z
  by_cases hz : z % 2 = 1
  · rw [decide_eq_true hz, if_pos rfl]; omega
  · rw [decide_eq_false hz, if_neg (by decide)]; omega
theorem hi_0 (a : Nat) (h : a < 4294967296) : hi a 0 = 0 := by
  unfold hi
  rw [lo_0]
  omega
theorem hi_lt (a n : Nat) (h : a < 4294967296) (hn : n ≤ 32) : hi a n < 2 ^ n := by
  unfold hi lo
  rw [Nat.div_lt_iff_lt_mul (Nat.two_pow_pos _), ← Nat.pow_add, show n + (32 - n) = 32 by omega]
  omega
theorem ofN_eq (a n : Nat) : ofN a n = a - a % lo n := by
  unfold ofN hi
  have := Nat.div_add_mod a (lo n)
  rw [Nat.mul_comm] at this
  omega
theorem ofN_le (a n : Nat) : ofN a n ≤ a := by rw [ofN_eq]; omega
theorem hi_ofN (a n : Nat) : hi (ofN a n) n = hi a n := by
  unfold ofN
  rw [show hi (hi a n * lo n) n = hi a n * lo n / lo n from rfl, Nat.mul_div_cancel _ (lo_pos n)]
theorem ofN_mod (a n : Nat) : ofN a n % lo n = 0 := by
  unfold ofN
  exact Nat.mul_mod_left _ _
def maskN (n : Nat) : Nat := if n = 0 ∨ 32 < n then 0 else 4294967296 - lo n
theorem mask_is (n : Nat) (h : n < 256) : prefix_mask.f (n : Int) = some ((maskN n : Nat) : Int) := by
  have : ∀ n, n < 256 → prefix_mask.f ((n : Nat) : Int) = some ((maskN n : Nat) : Int) := by decide +kernel
  exact this n h
theorem maskN_lt (n : Nat) : maskN n < 4294967296 := by
  unfold maskN
  have := lo_pos n
  split <;> omega
theorem not_mask (n : Nat) (hn : n ≤ 32) : 4294967295 - maskN n = 2 ^ (32 - n) - 1 := by
  unfold maskN lo
  have hp : 0 < 2 ^ (32 - n) := Nat.two_pow_pos _
  have hle : 2 ^ (32 - n) ≤ 4294967296 := Nat.pow_le_pow_right (n := 2) (by omega) (show 32 - n ≤ 32 by omega)
  by_cases h0 : n = 0
  · subst h0; rfl
  · rw [if_neg (by omega)]
    omega
theorem bits_not (a n : Nat) (ha : a < 4294967296) (hn : n ≤ 32) : Go.bits .andNot .u32 (a : Int) ((maskN n : Nat) : Int) = ((a % lo n : Nat) : Int) := by
  rw [u32_andNot_nat a _ ha (maskN_lt n), not_mask n hn, Nat.and_two_pow_sub_one_eq_mod]
  rfl
theorem rbit_loop (d : Nat) : ∀ (k x i : Nat), i + d = 31 → x < 4294967296 → d < k → milestoneref01_Bit.l0 k (x : Int) (i : Int) = some (decide (x / 2 ^ d % 2 = 1)) := by
  induction d with
  | zero =>
    intro k x i hi hx hk
    obtain ⟨k, rfl⟩ : ∃ m, k = m + 1 := ⟨k - 1, by omega⟩
    rw [milestoneref01_Bit.l0, if_neg (by omega), Int.tmod_eq_emod_of_nonneg (Int.natCast_nonneg _), Nat.pow_zero, Nat.div_one]
    refine congrArg some ?_
    by_cases h : x % 2 = 1
    · rw [decide_eq_true h]
      exact beq_iff_eq.2 (by omega)
    · rw [decide_eq_false h]
      exact beq_eq_false_iff_ne.2 (by omega)
  | succ d ih =>
    intro k x i hi hx hk
    obtain ⟨k, rfl⟩ : ∃ m, k = m + 1 := ⟨k - 1, by omega⟩
    have e1 : Aside0 (wrap64 ((i : Int) + 1) = ((i + 1 : Nat) : Int)) := ⟨by unfold wrap64; omega⟩
    have e2 : Aside0 ((Int.tdiv (x : Int) 2) % 4294967296 = ((x / 2 : Nat) : Int)) := ⟨by rw [Int.tdiv_eq_ediv_of_nonneg (Int.natCast_nonneg _)]; omega⟩
    have key := ih k (x / 2) (i + 1) (by omega) (by omega) (by omega)
    rw [milestoneref01_Bit.l0, if_pos (by omega), e1.out, e2.out, key, Nat.div_div_eq_div_mul, Nat.pow_succ, Nat.mul_comm 2]
theorem rbit_is (k a i : Nat) (ha : a < 4294967296) (hi : i < 32) (hk : 32 < k) : milestoneref01_Bit.f k (a : Int) (i : Int) = some (bitN a i) := by
  unfold milestoneref01_Bit.f
  exact rbit_loop (31 - i) k a i (by omega) ha (by omega)
theorem rof_loop (a n : Nat) (ha : a < 4294967296) (hn : n ≤ 32) (d : Nat) : ∀ (k i : Nat), i + d = 32 → 40 + d < k →
    milestoneref01_Of.l0 k (a : Int) (n : Int) ((hi a (min i n) * 2 ^ (i - n) : Nat) : Int) (i : Int) = some (((ofN a n : Nat) : Int), (n : Int)) := by
  induction d with
  | zero =>
    intro k i hi' hk
    obtain ⟨k, rfl⟩ : ∃ m, k = m + 1 := ⟨k - 1, by omega⟩
    have e : i = 32 := by omega
    subst e
    rw [milestoneref01_Of.l0, if_neg (by omega), Nat.min_eq_right hn]
    rfl
  | succ d ih =>
    intro k i hi' hk
    obtain ⟨k, rfl⟩ : ∃ m, k = m + 1 := ⟨k - 1, by omega⟩
    have e1 : Aside0 (wrap64 ((i : Int) + 1) = ((i + 1 : Nat) : Int)) := ⟨by unfold wrap64; omega⟩
    have e2 : Aside0 (wrap64 (n : Int) = (n : Int)) := ⟨by unfold wrap64; omega⟩
    have key := ih k (i + 1) (by omega) (by omega)
    have ht : (i : Int) < 32 := by omega
    rw [milestoneref01_Of.l0, if_pos ht, e1.out, e2.out]
    by_cases hlt : i < n
    · have hs := hi_step a i (by omega)
      have hl := hi_lt a (i + 1) ha (by omega)
      have hp : 2 ^ (i + 1) ≤ 4294967296 := Nat.pow_le_pow_right (n := 2) (by omega) (show i + 1 ≤ 32 by omega)
      rw [Nat.min_eq_left (by omega), show i + 1 - n = 0 by omega, Nat.pow_zero, Nat.mul_one] at key
      have ht2 : (i : Int) < (n : Int) := by omega
      rw [if_pos ht2, rbit_is k a i ha (by omega) (by omega), Option.bind_some, Nat.min_eq_left (by omega), show i - n = 0 by omega, Nat.pow_zero, Nat.mul_one]
      by_cases hb : bitN a i = true
      · rw [if_pos hb] at hs
        have e3 : (((hi a i : Nat) : Int) * 2 + 1) % 4294967296 = ((hi a (i + 1) : Nat) : Int) := by omega
        rw [if_pos hb, e3]
        exact key
      · rw [if_neg hb] at hs
        have e3 : (((hi a i : Nat) : Int) * 2) % 4294967296 = ((hi a (i + 1) : Nat) : Int) := by omega
        rw [if_neg hb, e3]
        exact key
    · have ht2 : ¬ (i : Int) < (n : Int) := by omega
      have hl := hi_lt a n ha hn
      have hq : hi a n * 2 ^ (i - n) * 2 < 4294967296 := by
        have h1 : hi a n * 2 ^ (i - n) * 2 = hi a n * 2 ^ (i + 1 - n) := by rw [show i + 1 - n = i - n + 1 by omega, Nat.pow_succ, Nat.mul_assoc]
        have h2 : hi a n * 2 ^ (i + 1 - n) < 2 ^ n * 2 ^ (i + 1 - n) := Nat.mul_lt_mul_of_pos_right hl (Nat.two_pow_pos _)
        have h3 : 2 ^ n * 2 ^ (i + 1 - n) ≤ 2 ^ 32 := by
          rw [← Nat.pow_add]
          exact Nat.pow_le_pow_right (by omega) (by omega)
        rw [h1]
        exact Nat.lt_of_lt_of_le h2 h3
      have h1 : hi a n * 2 ^ (i + 1 - n) = hi a n * 2 ^ (i - n) * 2 := by rw [show i + 1 - n = i - n + 1 by omega, Nat.pow_succ, Nat.mul_assoc]
      rw [Nat.min_eq_right (by omega), h1] at key
      rw [if_neg ht2, Nat.min_eq_right (by omega)]
      generalize hi a n * 2 ^ (i - n) = z at key hq ⊢
      have e3 : ((z : Int) * 2) % 4294967296 = ((z * 2 : Nat) : Int) := by omega
      rw [e3]
      exact key
theorem rof_is (k a n : Nat) (ha : a < 4294967296) (hn : n < 256) (hk : 80 < k) : milestoneref01_Of.f k (a : Int) (n : Int) = some (((ofN a (min n 32) : Nat) : Int), ((min n 32 : Nat) : Int)) := by
  obtain ⟨k, rfl⟩ : ∃ m, k = m + 1 := ⟨k - 1, by omega⟩
  have key := rof_loop a (min n 32) ha (by omega) 32 k 0 (by omega) (by omega)
  rw [Nat.zero_min, hi_0 a ha, Nat.zero_mul] at key
  unfold milestoneref01_Of.f
  by_cases h : n > 32
  · rw [Nat.min_eq_right (by omega)] at key ⊢
    rw [if_pos (by omega), milestoneref01_Of.j0]
    exact key
  · rw [Nat.min_eq_left (by omega)] at key ⊢
    rw [if_neg (by omega), milestoneref01_Of.j0]
    exact key
theorem eq_hi (p a n : Nat) (hp : p % lo n = 0) : ofN a n = p ↔ hi p n = hi a n := by
  have hl := lo_pos n
  constructor
  · intro h
    rw [← h, hi_ofN]
  · intro h
    unfold ofN
    rw [← h]
    unfold hi
    exact Nat.div_mul_cancel (Nat.dvd_of_mod_eq_zero hp)
theorem right_is (a n : Nat) (ha : a < 4294967296) (hn : n < 256) : prefix_Right.f (a : Int) (n : Int) = some (decide (n ≤ 32 ∧ a % lo n = 0)) := by
  unfold prefix_Right.f
  by_cases h : n ≤ 32
  · rw [if_pos (by omega), mask_is n hn, Option.bind_some, bits_not a n ha h]
    refine congrArg some ?_
    by_cases h2 : a % lo n = 0
    · rw [decide_eq_true ⟨h, h2⟩]
      exact beq_iff_eq.2 (by omega)
    · rw [decide_eq_false (fun q => h2 q.2)]
      exact beq_eq_false_iff_ne.2 (by omega)
  · rw [if_neg (by omega), decide_eq_false (fun q => h q.1)]
theorem bit_is (a i : Nat) (ha : a < 4294967296) (hi' : i < 256) : prefix_Bit.f (a : Int) (i : Int) = some (if i < 32 then bitN a i else false) := by
  unfold prefix_Bit.f
  by_cases h : i < 32
  · have e1 : shr .u32 (a : Int) ((31 - (i : Int)) % 256) = ((a / 2 ^ (31 - i) : Nat) : Int) := by
      unfold shr
      have e : min ((31 - (i : Int)) % 256).toNat IntKind.u32.bits = 31 - i := by
        have : IntKind.u32.bits = 32 := rfl
        omega
      rw [e, show ((2 : Int) ^ (31 - i)) = ((2 ^ (31 - i) : Nat) : Int) by simp]
      exact (Int.natCast_ediv _ _).symm
    have hd : a / 2 ^ (31 - i) < 4294967296 := Nat.lt_of_le_of_lt (Nat.div_le_self _ _) ha
    have e2 : Go.bits .and .u32 ((a / 2 ^ (31 - i) : Nat) : Int) 1 = ((a / 2 ^ (31 - i) % 2 : Nat) : Int) := by
      have := u32_and_nat (a / 2 ^ (31 - i)) 1 hd (by omega)
      rw [Nat.and_one_is_mod] at this
      exact this
    rw [if_pos (by omega), if_pos h, e1, e2]
    refine congrArg some ?_
    unfold bitN
    by_cases hb : a / 2 ^ (31 - i) % 2 = 1
    · rw [decide_eq_true hb, hb]; rfl
    · rw [decide_eq_false hb]
      exact beq_eq_false_iff_ne.2 (by omega)
  · rw [if_neg (by omega), if_neg h]

/-! ## a tree of bits, as a map -/
section
open Tr
variable {α : Type}
theorem Tr.get_put (p : List Bool) (r : α) : ∀ (T : Tr α) (q : List Bool), Tr.get (Tr.put T p r) q = if q = p then some r else Tr.get T q := by
  have main : ∀ p : List Bool, ∀ (T : Tr α) (q : List Bool), Tr.get (Tr.put T p r) q = if q = p then some r else Tr.get T q := by
    intro p
    induction p with
    | nil =>
      intro T q
      have hn : ∀ (o : Option α) (a b : Tr α), Tr.get (Tr.node (some r) a b) q = if q = [] then some r else Tr.get (Tr.node o a b) q := by
        intro o a b
        cases q with
        | nil => rw [if_pos rfl]; rfl
        | cons k q => rw [if_neg (by simp)]; cases k <;> rfl
      cases T with
      | nil =>
        have h2 : Tr.get (Tr.nil : Tr α) q = Tr.get (Tr.node none Tr.nil Tr.nil) q := by
          cases q with
          | nil => rfl
          | cons k q => cases k <;> simp [Tr.get, get_nil]
        rw [h2]
        exact hn none Tr.nil Tr.nil
      | node o a b => exact hn o a b
    | cons k p ih =>
      intro T q
      have hn : ∀ (o : Option α) (a b : Tr α), Tr.get (Tr.put (Tr.node o a b) (k :: p) r) q = if q = k :: p then some r else Tr.get (Tr.node o a b) q := by
        intro o a b
        cases q with
        | nil =>
          rw [if_neg (by simp)]
          cases k <;> rfl
        | cons k2 q =>
          cases k <;> cases k2
          · have := ih a q
            simp only [Tr.put, Tr.get, this, List.cons.injEq, true_and]
          · rw [if_neg (by simp)]; rfl
          · rw [if_neg (by simp)]; rfl
          · have := ih b q
            simp only [Tr.put, Tr.get, this, List.cons.injEq, true_and]
      cases T with
      | nil =>
        rw [put_nil, hn, get_nil]
        congr 1
        cases q with
        | nil => rfl
        | cons k q => cases k <;> simp [Tr.get, get_nil]
      | node o a b => exact hn o a b
  exact main p
/-- a cut: what leads nowhere is Tr.nil -/
theorem Tr.get_prune (T : Tr α) (q : List Bool) : Tr.get (Tr.prune T) q = Tr.get T q := by
  unfold Tr.prune
  split
  · rw [get_nil]
    cases q with
    | nil => rfl
    | cons k q => cases k <;> simp [Tr.get, get_nil]
  · rfl
theorem Tr.get_drop (p : List Bool) : ∀ (T : Tr α) (q : List Bool), Tr.get (Tr.drop T p) q = if q = p then none else Tr.get T q := by
  induction p with
  | nil =>
    intro T q
    cases T with
    | nil => simp [Tr.drop, get_nil]
    | node o a b =>
      cases q with
      | nil => rfl
      | cons k q => rw [if_neg (by simp)]; cases k <;> rfl
  | cons k p ih =>
    intro T q
    cases T with
    | nil => simp [Tr.drop, get_nil]
    | node o a b =>
      cases q with
      | nil => rw [if_neg (by simp)]; cases k <;> rfl
      | cons k2 q =>
        cases k <;> cases k2
        · have := ih a q
          simp only [Tr.drop, Tr.get, Tr.get_prune, this, List.cons.injEq, true_and]
        · rw [if_neg (by simp)]; rfl
        · rw [if_neg (by simp)]; rfl
        · have := ih b q
          simp only [Tr.drop, Tr.get, Tr.get_prune, this, List.cons.injEq, true_and]
theorem Tr.mem_all (T : Tr α) : ∀ r, r ∈ Tr.all T ↔ ∃ p, Tr.get T p = some r := by
  induction T with
  | nil => intro r; simp [Tr.all, get_nil]
  | node o a b iha ihb =>
    intro r
    simp only [Tr.all, List.mem_append, iha, ihb]
    constructor
    · rintro ((h | ⟨p, h⟩) | ⟨p, h⟩)
      · exact ⟨[], by cases o <;> simp_all [Tr.get]⟩
      · exact ⟨false :: p, h⟩
      · exact ⟨true :: p, h⟩
    · rintro ⟨p, h⟩
      cases p with
      | nil => exact .inl (.inl (by simp only [Tr.get] at h; subst h; simp))
      | cons k p => cases k
                    · exact .inl (.inr ⟨p, h⟩)
                    · exact .inr ⟨p, h⟩
end

/-! ## prefixes and the ways of a tree -/
def pth (a n : Nat) : List Bool := (List.range n).map (bitN a)
theorem pth_length (a n : Nat) : (pth a n).length = n := by unfold pth; simp
theorem side_is2 (a i : Nat) (ha : a < 4294967296) (hi' : i < 32) : (trie_side.f (a : Int) (i : Int) == some 1) = bitN a i := by
  unfold trie_side.f
  rw [bit_is a i ha (by omega), if_pos hi', Option.bind_some]
  cases bitN a i <;> rfl
theorem pathFrom_is (a : Nat) (ha : a < 4294967296) (m : Nat) : ∀ i, i + m ≤ 32 → pathFrom (a : Int) m i = (List.range' i m).map (bitN a) := by
  induction m with
  | zero => intro i _; rfl
  | succ m ih =>
    intro i hi'
    rw [pathFrom, side_is2 a i ha (by omega), ih (i + 1) (by omega), List.range'_succ]
    rfl
theorem path_is (a n : Nat) (ha : a < 4294967296) (hn : n ≤ 32) : pathFrom (a : Int) n 0 = pth a n := by
  rw [pathFrom_is a ha n 0 (by omega)]
  unfold pth
  rw [List.range_eq_range']
theorem pth_succ (a n : Nat) : pth a (n + 1) = pth a n ++ [bitN a n] := by
  unfold pth
  rw [List.range_succ, List.map_append]
  rfl
theorem pth_hi (a b : Nat) (ha : a < 4294967296) (hb : b < 4294967296) (n : Nat) (hn : n ≤ 32) : pth a n = pth b n ↔ hi a n = hi b n := by
  induction n with
  | zero => rw [hi_0 a ha, hi_0 b hb]; exact ⟨fun _ => rfl, fun _ => rfl⟩
  | succ n ih =>
    have ih := ih (by omega)
    rw [pth_succ, pth_succ]
    have s1 := hi_step a n (by omega)
    have s2 := hi_step b n (by omega)
    constructor
    · intro h
      have h2 := List.append_inj' h rfl
      have e1 := ih.1 h2.1
      have e2 : bitN a n = bitN b n := by simpa using h2.2
      rw [s1, s2, e1, e2]
    · intro h
      have e1 : hi a n = hi b n := by rw [s1, s2] at h; split at h <;> split at h <;> omega
      have e2 : bitN a n = bitN b n := by
        rw [s1, s2, e1] at h
        cases h1 : bitN a n <;> cases h2 : bitN b n <;> simp [h1, h2] at h <;> rfl
      rw [ih.2 e1, e2]
theorem pth_take (a : Nat) (n m : Nat) (h : n ≤ m) : (pth a m).take n = pth a n := by
  unfold pth
  rw [← List.map_take, List.take_range, Nat.min_eq_left h]
/-- a prefix that may be -/
def Rt (a n : Nat) : Prop := a < 4294967296 ∧ n ≤ 32 ∧ a % lo n = 0
theorem Rt.hi_mul {a n : Nat} (h : Rt a n) : hi a n * lo n = a := by
  unfold hi
  exact Nat.div_mul_cancel (Nat.dvd_of_mod_eq_zero h.2.2)
theorem pth_inj {a n b m : Nat} (h : Rt a n) (k : Rt b m) (e : pth a n = pth b m) : a = b ∧ n = m := by
  have hl : n = m := by rw [← pth_length a n, ← pth_length b m, e]
  subst hl
  have e2 := (pth_hi a b h.1 k.1 n h.2.1).1 e
  exact ⟨by rw [← h.hi_mul, ← k.hi_mul, e2], rfl⟩
theorem right_rt {a n : Nat} (h : Rt a n) : prefix_Right.f (a : Int) (n : Int) = some true := by
  rw [right_is a n h.1 (by have := h.2.1; omega)]
  exact congrArg some (decide_eq_true ⟨h.2.1, h.2.2⟩)
/-- what stands in a tree stands at its prefix's way -/
def Inv (T : Tr S33) : Prop := ∀ q r, T.get q = some r → ∃ a n : Nat, r.f0 = ⟨(a : Int), (n : Int)⟩ ∧ Rt a n ∧ q = pth a n
theorem Inv.nil : Inv (Tr.node none Tr.nil Tr.nil) := by
  intro q r h
  have : Tr.get (Tr.node none Tr.nil Tr.nil : Tr S33) q = none := by rw [← Tr.get_nil2]; exact Tr.get_nil q
  rw [this] at h
  cases h
theorem Inv.put {T : Tr S33} (h : Inv T) {a n : Nat} (hr : Rt a n) (v m s : Int) : Inv (T.put (pth a n) ⟨⟨(a : Int), (n : Int)⟩, v, m, s⟩) := by
  intro q r hq
  rw [Tr.get_put] at hq
  by_cases e : q = pth a n
  · rw [if_pos e] at hq
    injection hq with hq
    subst hq
    exact ⟨a, n, rfl, hr, e⟩
  · rw [if_neg e] at hq
    exact h q r hq
theorem Inv.drop {T : Tr S33} (h : Inv T) (p : List Bool) : Inv (T.drop p) := by
  intro q r hq
  rw [Tr.get_drop] at hq
  by_cases e : q = p
  · rw [if_pos e] at hq; cases hq
  · rw [if_neg e] at hq
    exact h q r hq
theorem put_f {T : Tr S33} {a n : Nat} (hr : Rt a n) (hc : T.all.length < 1000000) (v m s : Int) : trie_Trie_Put.f T (a : Int) (n : Int) v m s = some (0, T.put (pth a n) ⟨⟨(a : Int), (n : Int)⟩, v, m, s⟩) := by
  unfold trie_Trie_Put.f
  rw [right_rt hr, Option.bind_some, if_pos rfl, if_pos hc, Int.toNat_natCast, path_is a n hr.1 hr.2.1]
theorem put_len (T : Tr S33) (p : List Bool) (r : S33) : (T.put p r).all.length ≤ T.all.length + 1 := by
  have := Tr.len_put p r T
  omega
theorem drop_len (T : Tr S33) (p : List Bool) : (T.drop p).all.length ≤ T.all.length := by
  have := Tr.len_drop p T
  omega
/-- the deepest on the way -/
theorem look_spec (q : List Bool) : ∀ (T : Tr S33) (d : Option S33), (T.look q d = d ∧ ∀ i, i ≤ q.length → T.get (q.take i) = none) ∨ ∃ i r, i ≤ q.length ∧ T.look q d = some r ∧ T.get (q.take i) = some r ∧ ∀ j, i < j → j ≤ q.length → T.get (q.take j) = none := by
  induction q with
  | nil =>
    intro T d
    cases T with
    | nil => exact .inl ⟨rfl, fun i _ => Tr.get_nil _⟩
    | node o a b =>
      cases o with
      | none => exact .inl ⟨rfl, fun i _ => by rw [List.take_nil]; rfl⟩
      | some r => exact .inr ⟨0, r, Nat.le_refl _, rfl, rfl, fun j h1 h2 => absurd h2 (by simp; omega)⟩
  | cons k q ih =>
    intro T d
    cases T with
    | nil => exact .inl ⟨rfl, fun i _ => Tr.get_nil _⟩
    | node o a b =>
      obtain ⟨s, hs1, hs2⟩ : ∃ s : Tr S33, (Tr.node o a b).look (k :: q) d = s.look q (o.or d) ∧ ∀ i, (Tr.node o a b).get ((k :: q).take (i + 1)) = s.get (q.take i) := by
        cases k
        · exact ⟨a, rfl, fun _ => rfl⟩
        · exact ⟨b, rfl, fun _ => rfl⟩
      rw [hs1]
      rcases ih s (o.or d) with ⟨h1, h2⟩ | ⟨i, r, h1, h2, h3, h4⟩
      · cases o with
        | none =>
          refine .inl ⟨h1, fun i hi' => ?_⟩
          cases i with
          | zero => rfl
          | succ i => rw [hs2]; exact h2 i (by simpa using hi')
        | some r =>
          refine .inr ⟨0, r, Nat.zero_le _, h1, rfl, fun j hj1 hj2 => ?_⟩
          cases j with
          | zero => omega
          | succ j => rw [hs2]; exact h2 j (by simpa using hj2)
      · refine .inr ⟨i + 1, r, by simpa using h1, h2, by rw [hs2]; exact h3, fun j hj1 hj2 => ?_⟩
        cases j with
        | zero => omega
        | succ j => rw [hs2]; exact h4 j (by omega) (by simpa using hj2)
theorem look_f (T : Tr S33) (a : Nat) (ha : a < 4294967296) : trie_Trie_Look.f T (a : Int) = some ((oR (T.look (pth a 32) none)).f0.f0, (oR (T.look (pth a 32) none)).f0.f1, (oR (T.look (pth a 32) none)).f1, (oR (T.look (pth a 32) none)).f2, (oR (T.look (pth a 32) none)).f3, (T.look (pth a 32) none).isSome, T) := by
  unfold trie_Trie_Look.f
  rw [path_is a 32 ha (Nat.le_refl _)]
/-- the longest prefix of an address, if its tree is right -/
theorem look_is {T : Tr S33} (h : Inv T) (a : Nat) (ha : a < 4294967296) : (T.look (pth a 32) none = none ∧ ∀ n, n ≤ 32 → T.get (pth a n) = none) ∨ ∃ b n v m s, T.look (pth a 32) none = some ⟨⟨((b : Nat) : Int), ((n : Nat) : Int)⟩, v, m, s⟩ ∧ Rt b n ∧ pth b n = pth a n ∧ T.get (pth a n) = some ⟨⟨((b : Nat) : Int), ((n : Nat) : Int)⟩, v, m, s⟩ ∧ ∀ j, n < j → j ≤ 32 → T.get (pth a j) = none := by
  rcases look_spec (pth a 32) T none with ⟨h1, h2⟩ | ⟨i, r, h1, h2, h3, h4⟩
  · refine .inl ⟨h1, fun n hn => ?_⟩
    rw [← pth_take a n 32 hn]
    exact h2 n (by rw [pth_length]; exact hn)
  · rw [pth_length] at h1 h4
    rw [pth_take a i 32 h1] at h3
    obtain ⟨b, n, e, hr, hq⟩ := h _ r h3
    have hl : i = n := by rw [← pth_length a i, ← pth_length b n, hq]
    subst hl
    obtain ⟨p, v, m, s⟩ := r
    subst e
    exact .inr ⟨b, i, v, m, s, h2, hr, hq.symm, h3, fun j hj hj2 => by rw [← pth_take a j 32 hj2]; exact h4 j hj hj2⟩
/-! ### places of acts -/
theorem t3 (q : Nat) : Int.tmod (q : Int) 3 = ((q % 3 : Nat) : Int) := rfl
theorem d3 (q : Nat) : Int.tdiv (q : Int) 3 = ((q / 3 : Nat) : Int) := rfl
theorem d6 (q : Nat) : Int.tdiv (q : Int) 6 = ((q / 6 : Nat) : Int) := rfl
theorem prefix18 (k p : Nat) (hp : p < 256) : milestoneref07_Prefix.f k (p : Int) = milestoneref07_Prefix.f k ((p % 18 : Nat) : Int) := by
  unfold milestoneref07_Prefix.f
  rw [t3, t3, d3, d3, d6, d6]
  have e1 : (p % 18 : Nat) % 3 = p % 3 := by omega
  have e2 : (((p % 18 / 3 : Nat) : Int)) % 2 = ((p / 3 : Nat) : Int) % 2 := by omega
  have e3 : (((p % 18 / 6 : Nat) : Int)) % 256 % 3 = ((p / 6 : Nat) : Int) % 256 % 3 := by omega
  rw [e1, e2, e3]
def prefOk (p : Nat) : Bool := match milestoneref07_Prefix.f 40 (p : Int) with
  | some (a, n) => decide (0 ≤ a ∧ a < 4294967296 ∧ 0 ≤ n ∧ n ≤ 32 ∧ a.toNat % lo n.toNat = 0)
  | none => false
theorem pref_all : ((List.range 18).all prefOk) = true := by decide +kernel
theorem at_rounds {α : Type} {f : Nat → Option α} (hm : ∀ k, LeO (f k) (f (k + 1))) {a b : Nat} (h : a ≤ b) {r : α} (hr : f a = some r) : f b = some r := by
  obtain ⟨d, rfl⟩ : ∃ d, b = a + d := ⟨b - a, by omega⟩
  clear h
  induction d with
  | zero => exact hr
  | succ d ih => exact hm (a + d) r ih
theorem pref_is (p : Nat) (hp : p < 256) : ∃ a n : Nat, Rt a n ∧ ∀ k, 40 ≤ k → milestoneref07_Prefix.f k (p : Int) = some ((a : Int), (n : Int)) := by
  have h := pref_all
  rw [List.all_eq_true] at h
  have h2 := h (p % 18) (List.mem_range.2 (Nat.mod_lt _ (by omega)))
  unfold prefOk at h2
  cases hx : milestoneref07_Prefix.f 40 ((p % 18 : Nat) : Int) with
  | none => rw [hx] at h2; cases h2
  | some x =>
    obtain ⟨a, n⟩ := x
    rw [hx] at h2
    obtain ⟨h3, h4, h5, h6, h7⟩ := of_decide_eq_true h2
    refine ⟨a.toNat, n.toNat, ⟨by omega, by omega, h7⟩, fun k hk => ?_⟩
    rw [prefix18 k p hp, Int.toNat_of_nonneg h3, Int.toNat_of_nonneg h5]
    exact at_rounds (fun k => milestoneref07_Prefix.mono _ k) hk hx
theorem place_is (f0 : Int) (f1 f2 f3 : Nat) (h1 : f1 < 4294967296) (h2 : f2 < 256) : ∃ a n : Nat, Rt a n ∧ ∀ k, 100 ≤ k → milestonelaw09_place.f k f0 (f1 : Int) (f2 : Int) (f3 : Int) = some ((a : Int), (n : Int)) := by
  by_cases h : Int.tmod (f3 : Int) 2 = 0
  · obtain ⟨a, n, hr, hk⟩ := pref_is f2 h2
    refine ⟨a, n, hr, fun k hkk => ?_⟩
    unfold milestonelaw09_place.f
    rw [if_pos h, hk k (by omega)]
    rfl
  · have e : Int.tmod (f2 : Int) 34 = ((f2 % 34 : Nat) : Int) := rfl
    refine ⟨ofN f1 (min (f2 % 34) 32), min (f2 % 34) 32, ⟨Nat.lt_of_le_of_lt (ofN_le _ _) h1, Nat.min_le_right _ _, ofN_mod _ _⟩, fun k hkk => ?_⟩
    unfold milestonelaw09_place.f
    rw [if_neg h, e, rof_is k f1 (f2 % 34) h1 (by omega) (by omega)]
    rfl

theorem w30 (x : S30) (h : (Lit.int .u8 x.f0).wf = true ∧ ((Lit.int .u32 x.f1).wf = true ∧ ((Lit.int .u8 x.f2).wf = true ∧ (Lit.int .u8 x.f3).wf = true))) : ∃ b c d : Nat, x.f1 = (b : Int) ∧ x.f2 = (c : Int) ∧ x.f3 = (d : Int) ∧ b < 4294967296 ∧ c < 256 ∧ d < 256 := by
  have h1 := Go.bounds_u32 h.2.1
  have h2 := Go.bounds_u8 h.2.2.1
  have h3 := Go.bounds_u8 h.2.2.2
  exact ⟨x.f1.toNat, x.f2.toNat, x.f3.toNat, by omega, by omega, by omega, by omega, by omega, by omega⟩
theorem rd30_mem (l : List S30) (i : Nat) (h : i < l.length) : rd_T30 l (i : Int) ∈ l := by
  show l.getD (i : Int).toNat z30 ∈ l
  rw [Int.toNat_natCast, List.getD_eq_getElem?_getD, List.getElem?_eq_getElem h]
  exact List.getElem_mem h
theorem rd33_mem (l : List S33) (i : Nat) (h : i < l.length) : rd_T33 l (i : Int) ∈ l := by
  show l.getD (i : Int).toNat z33 ∈ l
  rw [Int.toNat_natCast, List.getD_eq_getElem?_getD, List.getElem?_eq_getElem h]
  exact List.getElem_mem h
theorem act_place (x : S30) (h : (Lit.int .u8 x.f0).wf = true ∧ ((Lit.int .u32 x.f1).wf = true ∧ ((Lit.int .u8 x.f2).wf = true ∧ (Lit.int .u8 x.f3).wf = true))) : ∃ a n : Nat, Rt a n ∧ ∀ k, 100 ≤ k → milestonelaw09_place.f k x.f0 x.f1 x.f2 x.f3 = some ((a : Int), (n : Int)) := by
  obtain ⟨b, c, d, e1, e2, e3, h1, h2, h3⟩ := w30 x h
  rw [e1, e2, e3]
  exact place_is x.f0 b c d h1 h2
theorem wr1 (i : Nat) (h : i < 1000000) : wrap64 ((i : Int) + 1) = ((i + 1 : Nat) : Int) := by unfold wrap64; omega
theorem awake_is : milestonelaw09_awake.f = some true := by decide +kernel

/-! ## the order of all routes -/
inductive Ahd : List Bool → List Bool → Prop
  | nil (k : Bool) (q : List Bool) : Ahd [] (k :: q)
  | ft (p q : List Bool) : Ahd (false :: p) (true :: q)
  | cons (k : Bool) {p q : List Bool} (h : Ahd p q) : Ahd (k :: p) (k :: q)
theorem Ahd.left (pre : List Bool) {p q : List Bool} (h : Ahd p q) : Ahd (pre ++ p) (pre ++ q) := by
  induction pre with
  | nil => exact h
  | cons k pre ih => exact .cons k ih
theorem Ahd.two {p q : List Bool} (h : Ahd p q) : (∃ k s, q = p ++ k :: s) ∨ ∃ c s t, p = c ++ false :: s ∧ q = c ++ true :: t := by
  induction h with
  | nil k q => exact .inl ⟨k, q, rfl⟩
  | ft p q => exact .inr ⟨[], p, q, rfl, rfl⟩
  | cons k h ih =>
    rcases ih with ⟨j, s, e⟩ | ⟨c, s, t, e1, e2⟩
    · exact .inl ⟨j, s, by rw [e]; rfl⟩
    · exact .inr ⟨k :: c, s, t, by rw [e1]; rfl, by rw [e2]; rfl⟩
theorem all_sorted {α : Type} (key : α → List Bool) (T : Tr α) : ∀ pre : List Bool, (∀ q r, T.get q = some r → key r = pre ++ q) → T.all.Pairwise (fun r s => Ahd (key r) (key s)) := by
  induction T with
  | nil => intro pre _; exact List.Pairwise.nil
  | node o a b iha ihb =>
    intro pre h
    have ha : ∀ q r, a.get q = some r → key r = (pre ++ [false]) ++ q := fun q r hq => by rw [h (false :: q) r hq]; simp
    have hb : ∀ q r, b.get q = some r → key r = (pre ++ [true]) ++ q := fun q r hq => by rw [h (true :: q) r hq]; simp
    have pa := iha _ ha
    have pb := ihb _ hb
    have ho : ∀ r ∈ o.toList, key r = pre := fun r hr => by
      have := h [] r (by cases o with
        | none => cases hr
        | some z => simp at hr; subst hr; rfl)
      simpa using this
    show List.Pairwise _ ((o.toList ++ a.all) ++ b.all)
    rw [List.pairwise_append, List.pairwise_append]
    refine ⟨⟨by cases o <;> simp, pa, fun r hr s hs => ?_⟩, pb, fun r hr s hs => ?_⟩
    · obtain ⟨q, hq⟩ := (Tr.mem_all a s).1 hs
      rw [ho r hr, ha q s hq]
      have := Ahd.left pre (Ahd.nil false q)
      simpa using this
    · obtain ⟨q, hq⟩ := (Tr.mem_all b s).1 hs
      rw [hb q s hq]
      rcases List.mem_append.1 hr with hr | hr
      · rw [ho r hr]
        have := Ahd.left pre (Ahd.nil true q)
        simpa using this
      · obtain ⟨q2, hq2⟩ := (Tr.mem_all a r).1 hr
        rw [ha q2 r hq2]
        have := Ahd.left pre (Ahd.ft q2 q)
        simpa using this
theorem ahd_num {a n b m : Nat} (h : Rt a n) (k : Rt b m) (e : Ahd (pth a n) (pth b m)) : a < b ∨ (a = b ∧ n < m) := by
  rcases e.two with ⟨j, s, e⟩ | ⟨c, s, t, e1, e2⟩
  · have hl : m = n + 1 + s.length := by
      have := congrArg List.length e
      rw [pth_length, List.length_append, pth_length, List.length_cons] at this
      omega
    have e2 : pth b n = pth a n := by
      rw [← pth_take b n m (by omega), e]
      have := pth_length a n
      rw [List.take_append_of_le_length (by omega), List.take_of_length_le (by omega)]
    have e3 := (pth_hi b a k.1 h.1 n h.2.1).1 e2
    have e4 := h.hi_mul
    have e5 : hi b n * lo n ≤ b := by unfold hi; exact Nat.div_mul_le_self _ _
    rw [e3, e4] at e5
    omega
  · left
    have hn : c.length < n := by
      have := congrArg List.length e1
      rw [pth_length, List.length_append, List.length_cons] at this
      omega
    have hm : c.length < m := by
      have := congrArg List.length e2
      rw [pth_length, List.length_append, List.length_cons] at this
      omega
    have a1 : pth a c.length = c := by rw [← pth_take a c.length n (by omega), e1, List.take_left]
    have b1 : pth b c.length = c := by rw [← pth_take b c.length m (by omega), e2, List.take_left]
    have a2 : pth a (c.length + 1) = c ++ [false] := by rw [← pth_take a (c.length + 1) n (by omega), e1, List.take_append, List.take_of_length_le (by omega), Nat.add_sub_cancel_left]; rfl
    have b2 : pth b (c.length + 1) = c ++ [true] := by rw [← pth_take b (c.length + 1) m (by omega), e2, List.take_append, List.take_of_length_le (by omega), Nat.add_sub_cancel_left]; rfl
    rw [pth_succ, a1] at a2
    rw [pth_succ, b1] at b2
    have a3 : bitN a c.length = false := by simpa using a2
    have b3 : bitN b c.length = true := by simpa using b2
    have h2 := h.2.1
    have hh := (pth_hi a b h.1 k.1 c.length (by omega)).1 (a1.trans b1.symm)
    have s1 := hi_step a c.length (by omega)
    have s2 := hi_step b c.length (by omega)
    rw [a3, if_neg (by decide)] at s1
    rw [b3, if_pos rfl] at s2
    have hlt : hi a (c.length + 1) < hi b (c.length + 1) := by omega
    apply Nat.lt_of_not_le
    intro hle
    have := Nat.div_le_div_right (c := lo (c.length + 1)) hle
    unfold hi at hlt
    omega
def keyR (r : S33) : List Bool := pth r.f0.f0.toNat r.f0.f1.toNat
theorem Inv.key {T : Tr S33} (h : Inv T) : ∀ q r, T.get q = some r → keyR r = [] ++ q := fun q r hq => by
  obtain ⟨a, n, e, _, hq2⟩ := h q r hq
  unfold keyR
  rw [e, hq2]
  rfl
theorem Inv.mem {T : Tr S33} (h : Inv T) {r : S33} (hr : r ∈ T.all) : ∃ a n : Nat, r.f0 = ⟨(a : Int), (n : Int)⟩ ∧ Rt a n ∧ T.get (pth a n) = some r := by
  obtain ⟨q, hq⟩ := (Tr.mem_all T r).1 hr
  obtain ⟨a, n, e, hr, rfl⟩ := h q r hq
  exact ⟨a, n, e, hr, hq⟩
theorem all_ahead {T : Tr S33} (h : Inv T) (i j : Nat) (hij : i < j) (hj : j < T.all.length) : milestoneref01_Ahead.f (rd_T33 T.all (i : Int)).f0.f0 (rd_T33 T.all (i : Int)).f0.f1 (rd_T33 T.all (j : Int)).f0.f0 (rd_T33 T.all (j : Int)).f0.f1 = some true := by
  have hp := List.pairwise_iff_getElem.1 (all_sorted keyR T [] h.key) i j (by omega) hj hij
  have gi : rd_T33 T.all (i : Int) = T.all[i] := by
    show T.all.getD (i : Int).toNat z33 = _
    rw [Int.toNat_natCast, List.getD_eq_getElem?_getD, List.getElem?_eq_getElem (by omega)]; rfl
  have gj : rd_T33 T.all (j : Int) = T.all[j] := by
    show T.all.getD (j : Int).toNat z33 = _
    rw [Int.toNat_natCast, List.getD_eq_getElem?_getD, List.getElem?_eq_getElem hj]; rfl
  rw [gi, gj]
  obtain ⟨a, n, e1, h1, _⟩ := h.mem (List.getElem_mem (show i < T.all.length by omega))
  obtain ⟨b, m, e2, h2, _⟩ := h.mem (List.getElem_mem hj)
  unfold keyR at hp
  rw [e1, e2] at hp ⊢
  have := ahd_num h1 h2 hp
  unfold milestoneref01_Ahead.f
  by_cases hlt : (a : Int) < (b : Int)
  · rw [if_pos hlt]
  · rw [if_neg hlt, if_pos (show (a : Int) = (b : Int) by omega)]
    exact congrArg some (decide_eq_true (show (n : Int) < (m : Int) by omega))

theorem rd33_get (l : List S33) (i : Nat) (h : i < l.length) : rd_T33 l (i : Int) = l[i] := by
  show l.getD (i : Int).toNat z33 = _
  rw [Int.toNat_natCast, List.getD_eq_getElem?_getD, List.getElem?_eq_getElem h]; rfl
/-- a route of a prefix that may be -/
def RtR (r : S33) : Prop := ∃ a n : Nat, r.f0 = ⟨(a : Int), (n : Int)⟩ ∧ Rt a n
theorem key_inj {r s : S33} (h : RtR r) (k : RtR s) (e : keyR r = keyR s) : r.f0 = s.f0 := by
  obtain ⟨a, n, e1, h1⟩ := h
  obtain ⟨b, m, e2, h2⟩ := k
  unfold keyR at e
  rw [e1, e2] at e ⊢
  obtain ⟨rfl, rfl⟩ := pth_inj h1 h2 e
  rfl
def putAllR (l : List S33) (T : Tr S33) : Tr S33 := l.foldl (fun T r => T.put (keyR r) r) T
theorem put_R {T : Tr S33} {r : S33} (hr : RtR r) (hc : T.all.length < 1000000) : trie_Trie_Put.f T r.f0.f0 r.f0.f1 r.f1 r.f2 r.f3 = some (0, T.put (keyR r) r) := by
  obtain ⟨a, n, e, h⟩ := hr
  obtain ⟨p, v, m, s⟩ := r
  subst e
  exact put_f h hc v m s
theorem Inv.putR {T : Tr S33} (h : Inv T) {r : S33} (hr : RtR r) : Inv (T.put (keyR r) r) := by
  obtain ⟨a, n, e, hh⟩ := hr
  obtain ⟨p, v, m, s⟩ := r
  subst e
  exact h.put hh v m s
theorem ofl_is (l : List S33) : ∀ T : Tr S33, (∀ r ∈ l, RtR r) → T.all.length + l.length < 1000000 → trie_Of.l l T = some (putAllR l T) := by
  induction l with
  | nil => intro T _ _; rfl
  | cons r l ih =>
    intro T h hc
    rw [List.length_cons] at hc
    have h2 := put_len T (keyR r) r
    show ((trie_Trie_Put.f T r.f0.f0 r.f0.f1 r.f1 r.f2 r.f3).bind fun x => trie_Of.l l x.2) = _
    rw [put_R (h r List.mem_cons_self) (by omega), Option.bind_some]
    exact ih (T.put (keyR r) r) (fun s hs => h s (List.mem_cons_of_mem _ hs)) (by omega)
theorem putAll_inv (l : List S33) : ∀ T : Tr S33, (∀ r ∈ l, RtR r) → Inv T → Inv (putAllR l T) := by
  induction l with
  | nil => intro T _ h; exact h
  | cons r l ih => intro T h hT; exact ih _ (fun s hs => h s (List.mem_cons_of_mem _ hs)) (hT.putR (h r List.mem_cons_self))
theorem putAll_len (l : List S33) : ∀ T : Tr S33, (putAllR l T).all.length ≤ T.all.length + l.length := by
  induction l with
  | nil => intro T; exact Nat.le_refl _
  | cons r l ih =>
    intro T
    have h1 := ih (T.put (keyR r) r)
    have h2 := put_len T (keyR r) r
    rw [List.length_cons]
    show (putAllR l (T.put (keyR r) r)).all.length ≤ _
    omega
theorem putAll_no (l : List S33) : ∀ (T : Tr S33) (q : List Bool), (∀ r ∈ l, keyR r ≠ q) → (putAllR l T).get q = T.get q := by
  induction l with
  | nil => intro T q _; rfl
  | cons r l ih =>
    intro T q h
    show (putAllR l (T.put (keyR r) r)).get q = _
    rw [ih _ q (fun s hs => h s (List.mem_cons_of_mem _ hs)), Tr.get_put, if_neg (fun e => h r List.mem_cons_self e.symm)]
theorem putAll_last (l : List S33) : ∀ (T : Tr S33) (q : List Bool) (j : Nat) (hj : j < l.length), keyR l[j] = q → (∀ i (hi' : i < l.length), j < i → keyR l[i] ≠ q) → (putAllR l T).get q = some l[j] := by
  induction l with
  | nil => intro T q j hj; exact absurd hj (Nat.not_lt_zero _)
  | cons r l ih =>
    intro T q j hj hq hn
    show (putAllR l (T.put (keyR r) r)).get q = _
    cases j with
    | zero =>
      rw [putAll_no l _ q (fun s hs => by
        obtain ⟨i, hi', e⟩ := List.getElem_of_mem hs
        have := hn (i + 1) (by simp; omega) (by omega)
        rw [← e]
        simpa using this), Tr.get_put, if_pos (by simpa using hq.symm)]
      rfl
    | succ j =>
      have := ih (T.put (keyR r) r) q j (by simpa using hj) (by simpa using hq) (fun i hi' hij => by
        have := hn (i + 1) (by simp; omega) (by omega)
        simpa using this)
      simpa using this
theorem find_is (l : List S33) (hl : l.length < 1000) (a n : Int) (d : Nat) : ∀ (i k : Nat), i + d = l.length → (∃ t, i ≤ t ∧ ∃ ht : t < l.length, milestonelaw09_find.l0 (k + d + 1) l (i : Int) a n = some (t : Int) ∧ l[t].f0 = ⟨a, n⟩) ∨ (milestonelaw09_find.l0 (k + d + 1) l (i : Int) a n = some (-1) ∧ ∀ t (ht : t < l.length), i ≤ t → l[t].f0 ≠ ⟨a, n⟩) := by
  induction d with
  | zero =>
    intro i k hi'
    rw [milestonelaw09_find.l0, if_neg (by omega)]
    exact .inr ⟨rfl, fun t ht hit => by omega⟩
  | succ d ih =>
    intro i k hi'
    rw [show k + (d + 1) + 1 = (k + d + 1) + 1 by omega, milestonelaw09_find.l0, if_pos (by omega), if_pos (by omega), wr1 i (by omega), rd33_get l i (by omega)]
    by_cases hb : (l[i].f0.f0 == a && (l[i].f0.f1 == n)) = true
    · rw [if_pos hb]
      have h2 := (Bool.and_eq_true _ _).mp hb
      have e1 : l[i].f0.f0 = a := beq_iff_eq.mp h2.1
      have e2 : l[i].f0.f1 = n := beq_iff_eq.mp h2.2
      exact .inl ⟨i, Nat.le_refl _, by omega, rfl, by rw [← e1, ← e2]⟩
    · rw [if_neg hb]
      rcases ih (i + 1) k (by omega) with ⟨t, h1, ht, h2, h3⟩ | ⟨h1, h2⟩
      · exact .inl ⟨t, by omega, ht, h2, h3⟩
      · refine .inr ⟨h1, fun t ht hit => ?_⟩
        by_cases e : t = i
        · subst e
          intro e
          apply hb
          rw [e]
          simp
        · exact h2 t ht (by omega)
theorem rises_l0 (x0 : List S30) (hw : ∀ x ∈ x0, (Lit.int .u8 x.f0).wf = true ∧ ((Lit.int .u32 x.f1).wf = true ∧ ((Lit.int .u8 x.f2).wf = true ∧ (Lit.int .u8 x.f3).wf = true))) (hl : x0.length ≤ 60) (d : Nat) : ∀ (i : Nat) (x3 : List S33), i + d = x0.length → x3.length = i → (∀ r ∈ x3, RtR r) → ∃ L : List S33, L.length ≤ 60 ∧ (∀ r ∈ L, RtR r) ∧ ∀ k, 100 ≤ k → milestonelaw09_TrieRises.l0 (k + d + 1) x0 x3 (i : Int) = ((trie_Of.f L).bind fun t142 => ((trie_Trie_All.f t142).bind fun bt144 => ((trie_Trie_Len.f bt144.2).bind fun bt148 => (if (bt144.1.length : Int) = bt148.1 then (milestonelaw09_TrieRises.l1 k L bt144.1 0) else (some false))))) := by
  induction d with
  | zero =>
    intro i x3 hi' hx hr
    refine ⟨x3, by omega, hr, fun k hk => ?_⟩
    rw [milestonelaw09_TrieRises.l0, if_neg (by omega)]
  | succ d ih =>
    intro i x3 hi' hx hr
    obtain ⟨a, n, hrt, hp⟩ := act_place _ (hw _ (rd30_mem x0 i (by omega)))
    obtain ⟨L, h1, h2, h3⟩ := ih (i + 1) (x3 ++ [(⟨(⟨(a : Int), (n : Int)⟩ : S27), (i : Int), 0, 0⟩ : S33)]) (by omega) (by rw [List.length_append, List.length_singleton, hx]) (fun r hr2 => by
      rcases List.mem_append.1 hr2 with hr2 | hr2
      · exact hr r hr2
      · rw [List.mem_singleton] at hr2
        subst hr2
        exact ⟨a, n, rfl, hrt⟩)
    refine ⟨L, h1, h2, fun k hk => ?_⟩
    rw [show k + (d + 1) + 1 = (k + d + 1) + 1 by omega, milestonelaw09_TrieRises.l0, if_pos (by omega), if_pos (by omega), hp _ (by omega), Option.bind_some, if_pos (by omega), wr1 i (by omega)]
    exact h3 k hk
theorem rises_l3 (x3 x6 : List S33) (h6 : x6.length < 500) (h3 : x3.length < 500) (h : ∀ r ∈ x3, ∃ s ∈ x6, s.f0 = r.f0) (d : Nat) : ∀ (i k : Nat), i + d = x3.length → 600 ≤ k → milestonelaw09_TrieRises.l3 (k + d + 1) x3 x6 (i : Int) = some true := by
  induction d with
  | zero =>
    intro i k hi' hk
    rw [milestonelaw09_TrieRises.l3, if_neg (by omega)]
  | succ d ih =>
    intro i k hi' hk
    rw [show k + (d + 1) + 1 = (k + d + 1) + 1 by omega, milestonelaw09_TrieRises.l3, if_pos (by omega), if_pos (by omega), wr1 i (by omega), rd33_get x3 i (by omega)]
    obtain ⟨s, hs, e⟩ := h x3[i] (List.getElem_mem (by omega))
    obtain ⟨j, hj, e2⟩ := List.getElem_of_mem hs
    have hf := find_is x6 (by omega) x3[i].f0.f0 x3[i].f0.f1 x6.length 0 (k + d + 1 - x6.length - 1) (by omega)
    rw [show k + d + 1 - x6.length - 1 + x6.length + 1 = k + d + 1 by omega] at hf
    unfold milestonelaw09_find.f
    rcases hf with ⟨t, _, ht, h1, h2⟩ | ⟨_, h2⟩
    · rw [show ((0 : Int)) = ((0 : Nat) : Int) from rfl, h1, Option.bind_some, if_neg (by omega)]
      exact ih (i + 1) k (by omega) hk
    · exact absurd (by rw [e2, e]) (h2 j hj (Nat.zero_le _))
theorem rises_l2 (x3 x6 : List S33) (h3 : x3.length < 500) (i6 : Nat) (hi6 : i6 < x6.length) (hx : ∃ r ∈ x3, r.f0 = x6[i6].f0) (hlast : ∀ m (hm : m < x3.length), x3[m].f0 = x6[i6].f0 → (∀ j (hj : j < x3.length), m < j → x3[j].f0 ≠ x6[i6].f0) → x3[m] = x6[i6]) (d : Nat) : ∀ (i k : Nat) (c : Int), i + d = x3.length → ((c = -1 ∧ ∀ j (hj : j < x3.length), j < i → x3[j].f0 ≠ x6[i6].f0) ∨ ∃ m, ∃ hm : m < x3.length, m < i ∧ c = (m : Int) ∧ x3[m].f0 = x6[i6].f0 ∧ ∀ j (hj : j < x3.length), m < j → j < i → x3[j].f0 ≠ x6[i6].f0) →
    milestonelaw09_TrieRises.l2 (k + d + 1) x3 x6 (i6 : Int) c (i : Int) = milestonelaw09_TrieRises.l1 k x3 x6 (wrap64 ((i6 : Int) + 1)) := by
  induction d with
  | zero =>
    intro i k c hi' hc
    rw [milestonelaw09_TrieRises.l2, if_neg (by omega)]
    rcases hc with ⟨_, hn⟩ | ⟨m, hm, hmi, rfl, he, hn⟩
    · obtain ⟨r, hr, e⟩ := hx
      obtain ⟨j, hj, e2⟩ := List.getElem_of_mem hr
      exact absurd (by rw [e2, e]) (hn j hj (by omega))
    · have hl := hlast m hm he (fun j hj hmj => hn j hj hmj (by omega))
      rw [if_neg (by omega), if_pos (by omega), if_pos (by omega), if_pos (by omega), if_pos (by omega), rd33_get x3 m hm, rd33_get x6 i6 hi6, hl, if_neg (by simp)]
  | succ d ih =>
    intro i k c hi' hc
    rw [show k + (d + 1) + 1 = (k + d + 1) + 1 by omega, milestonelaw09_TrieRises.l2, if_pos (by omega), if_pos (by omega), if_pos (by omega), if_pos (by omega), rd33_get x3 i (by omega), rd33_get x6 i6 hi6, wr1 i (by omega)]
    by_cases hb : (x3[i].f0.f0 == x6[i6].f0.f0 && (x3[i].f0.f1 == x6[i6].f0.f1)) = true
    · rw [if_pos hb]
      have h2 := (Bool.and_eq_true _ _).mp hb
      have e1 : x3[i].f0.f0 = x6[i6].f0.f0 := beq_iff_eq.mp h2.1
      have e2 : x3[i].f0.f1 = x6[i6].f0.f1 := beq_iff_eq.mp h2.2
      refine ih (i + 1) k _ (by omega) (.inr ⟨i, by omega, by omega, rfl, ?_, fun j hj h4 h5 => by omega⟩)
      cases hz : x3[i].f0
      cases hz2 : x6[i6].f0
      rw [hz, hz2] at e1 e2
      simp only at e1 e2
      rw [e1, e2]
    · rw [if_neg hb]
      have hne : x3[i].f0 ≠ x6[i6].f0 := fun e => hb (by rw [e]; simp)
      refine ih (i + 1) k c (by omega) ?_
      rcases hc with ⟨rfl, hn⟩ | ⟨m, hm, hmi, rfl, he, hn⟩
      · refine .inl ⟨rfl, fun j hj hji => ?_⟩
        by_cases e : j = i
        · subst e; exact hne
        · exact hn j hj (by omega)
      · refine .inr ⟨m, hm, by omega, rfl, he, fun j hj hmj hji => ?_⟩
        by_cases e : j = i
        · subst e; exact hne
        · exact hn j hj hmj (by omega)
theorem rises_l1 (x3 : List S33) (T : Tr S33) (hT : Inv T) (h6 : T.all.length < 500) (h3 : x3.length < 500) (hx : ∀ s ∈ T.all, ∃ r ∈ x3, r.f0 = s.f0) (hx2 : ∀ r ∈ x3, ∃ s ∈ T.all, s.f0 = r.f0) (hlast : ∀ s ∈ T.all, ∀ m (hm : m < x3.length), x3[m].f0 = s.f0 → (∀ j (hj : j < x3.length), m < j → x3[j].f0 ≠ s.f0) → x3[m] = s) (d : Nat) : ∀ (i k : Nat), i + d = T.all.length → 2000 ≤ k → milestonelaw09_TrieRises.l1 (k + d * (x3.length + 3) + 1) x3 T.all (i : Int) = some true := by
  induction d with
  | zero =>
    intro i k hi' hk
    rw [milestonelaw09_TrieRises.l1, if_neg (by omega), Nat.zero_mul, Nat.add_zero]
    obtain ⟨k2, rfl⟩ : ∃ k2, k = k2 + x3.length + 1 := ⟨k - x3.length - 1, by omega⟩
    exact rises_l3 x3 T.all h6 h3 hx2 x3.length 0 k2 (by omega) (by omega)
  | succ d ih =>
    intro i k hi' hk
    have hmem : T.all[i]'(by omega) ∈ T.all := List.getElem_mem (by omega)
    have hend : ∀ q : Nat, q = k + d * (x3.length + 3) + 1 + x3.length + 2 → milestonelaw09_TrieRises.j3 q x3 T.all (i : Int) false = some true := by
      intro q hq
      rw [hq, show k + d * (x3.length + 3) + 1 + x3.length + 2 = (k + d * (x3.length + 3) + 1 + x3.length + 1) + 1 by omega, milestonelaw09_TrieRises.j3, if_neg (by decide)]
      have h2 := rises_l2 x3 T.all h3 i (by omega) (hx _ hmem) (hlast _ hmem) x3.length 0 (k + d * (x3.length + 3) + 1) (-1) (by omega) (.inl ⟨rfl, fun j hj hj0 => absurd hj0 (Nat.not_lt_zero _)⟩)
      refine h2.trans ?_
      rw [wr1 i (by omega)]
      exact ih (i + 1) k (by omega) hk
    rw [show k + (d + 1) * (x3.length + 3) + 1 = (k + d * (x3.length + 3) + 1 + x3.length + 2) + 1 by rw [Nat.add_mul]; omega, milestonelaw09_TrieRises.l1, if_pos (by omega)]
    by_cases h0 : (i : Int) > 0
    · obtain ⟨j, rfl⟩ : ∃ j, i = j + 1 := ⟨i - 1, by omega⟩
      have ew : wrap64 (((j + 1 : Nat) : Int) - 1) = (j : Int) := by unfold wrap64; omega
      rw [if_pos h0, ew, if_pos (by omega), if_pos (by omega), if_pos (by omega), all_ahead hT j (j + 1) (by omega) (by omega), Option.bind_some]
      exact hend _ rfl
    · rw [if_neg h0]
      exact hend _ rfl
theorem last_of {α : Type} (p : α → Prop) (l : List α) (h : ∃ r ∈ l, p r) : ∃ m, ∃ hm : m < l.length, p l[m] ∧ ∀ j (hj : j < l.length), m < j → ¬ p l[j] := by
  induction l with
  | nil => obtain ⟨r, hr, _⟩ := h; cases hr
  | cons a l ih =>
    by_cases h2 : ∃ r ∈ l, p r
    · obtain ⟨m, hm, h3, h4⟩ := ih h2
      refine ⟨m + 1, by simp; omega, by simpa using h3, fun j hj hmj => ?_⟩
      cases j with
      | zero => omega
      | succ j => simpa using h4 j (by simpa using hj) (by omega)
    · obtain ⟨r, hr, hp⟩ := h
      have hra : r = a := by
        rcases List.mem_cons.1 hr with h5 | h5
        · exact h5
        · exact absurd ⟨r, h5, hp⟩ h2
      subst hra
      refine ⟨0, by simp, by simpa using hp, fun j hj h0j => ?_⟩
      cases j with
      | zero => omega
      | succ j => exact fun hpj => h2 ⟨_, List.getElem_mem (by simpa using hj), by simpa using hpj⟩
theorem TrieRises : milestonelaw09_TrieRises.Pure := by
  intro l0 _ hw
  refine ⟨20000, ?_⟩
  unfold milestonelaw09_TrieRises.f
  rw [awake_is, Option.bind_some, if_pos rfl]
  by_cases hl : (l0.length : Int) > 60
  · rw [decide_eq_true hl, milestonelaw09_TrieRises.j0, if_pos rfl, awake_is, Option.bind_some]
  · rw [decide_eq_false hl, milestonelaw09_TrieRises.j0, if_neg (by decide)]
    obtain ⟨L, h1, h2, h3⟩ := rises_l0 l0 hw (by omega) l0.length 0 [] (by omega) rfl (fun r hr => by cases hr)
    have h5 := h3 (19998 - l0.length) (by omega)
    rw [show 19998 - l0.length + l0.length + 1 = 19999 by omega] at h5
    refine h5.trans ?_
    have e0 : (Tr.node none Tr.nil Tr.nil : Tr S33).all.length = 0 := rfl
    have hlen := putAll_len L (Tr.node none Tr.nil Tr.nil)
    have hinv := putAll_inv L _ h2 Inv.nil
    have hof : trie_Of.f L = some (putAllR L (Tr.node none Tr.nil Tr.nil)) := by
      unfold trie_Of.f
      rw [if_pos (by omega)]
      exact ofl_is L _ h2 (by omega)
    have hg := fun q j hj => putAll_last L (Tr.node none Tr.nil Tr.nil) q j hj
    have hno := fun q => putAll_no L (Tr.node none Tr.nil Tr.nil) q
    generalize putAllR L (Tr.node none Tr.nil Tr.nil) = T at hlen hinv hof hg hno
    have hz : ∀ q, (Tr.node none Tr.nil Tr.nil : Tr S33).get q = none := fun q => by rw [← Tr.get_nil2]; exact Tr.get_nil q
    rw [hof, Option.bind_some]
    unfold trie_Trie_All.f
    rw [if_pos (by omega), Option.bind_some]
    unfold trie_Trie_Len.f
    rw [Option.bind_some, if_pos rfl]
    have hkey : ∀ s ∈ T.all, RtR s ∧ T.get (keyR s) = some s := fun s hs => by
      obtain ⟨a, n, e, hr, hq⟩ := hinv.mem hs
      exact ⟨⟨a, n, e, hr⟩, by unfold keyR; rw [e]; exact hq⟩
    have hx : ∀ s ∈ T.all, ∃ r ∈ L, r.f0 = s.f0 := fun s hs => by
      obtain ⟨hs1, hs2⟩ := hkey s hs
      by_cases h : ∃ r ∈ L, keyR r = keyR s
      · obtain ⟨r, hr, e⟩ := h
        exact ⟨r, hr, key_inj (h2 r hr) hs1 e⟩
      · have := hno (keyR s) (fun r hr e => h ⟨r, hr, e⟩)
        rw [hz, hs2] at this
        cases this
    have hx2 : ∀ r ∈ L, ∃ s ∈ T.all, s.f0 = r.f0 := fun r hr => by
      obtain ⟨m, hm, h3, h4⟩ := last_of (fun z => keyR z = keyR r) L ⟨r, hr, rfl⟩
      have := hg (keyR r) m hm h3 h4
      refine ⟨L[m], (Tr.mem_all T _).2 ⟨_, this⟩, key_inj (h2 _ (List.getElem_mem hm)) (h2 r hr) h3⟩
    have hlast : ∀ s ∈ T.all, ∀ m (hm : m < L.length), L[m].f0 = s.f0 → (∀ j (hj : j < L.length), m < j → L[j].f0 ≠ s.f0) → L[m] = s := fun s hs m hm e hn => by
      obtain ⟨hs1, hs2⟩ := hkey s hs
      have := hg (keyR s) m hm (by unfold keyR; rw [e]) (fun j hj hmj e2 => hn j hj hmj (key_inj (h2 _ (List.getElem_mem hj)) hs1 e2))
      rw [hs2] at this
      exact (Option.some.inj this).symm
    obtain ⟨k2, hk2⟩ : ∃ k2, 19998 - l0.length = k2 + T.all.length * (L.length + 3) + 1 ∧ 2000 ≤ k2 := by
      have : T.all.length * (L.length + 3) ≤ 60 * 63 := Nat.mul_le_mul (by omega) (by omega)
      exact ⟨19997 - l0.length - T.all.length * (L.length + 3), by omega, by omega⟩
    show milestonelaw09_TrieRises.l1 (19998 - l0.length) L T.all ((0 : Nat) : Int) = some true
    rw [hk2.1]
    exact rises_l1 L T hinv (by omega) (by omega) hx hx2 hlast T.all.length 0 k2 (by omega) hk2.2

end Go.Proofs.Ytbmiifhmgfhidaa.Pure
