/- Prefixes have one order; whatever lies in one does not stand ahead of it.
For every input; no condition is added to the given statement. -/
import Derived.Test.YtfjdijphpcddnaaDoorQPrefixOrdersx3
import Derived.Laws.BitsAllLaws
import Derived.OpenShut
import Derived.Lib.Bytes
namespace Go.Proofs.YtfjdijphpcddnaaDoor.Pure
open Go.RowKit Go.Proofs.YtfjdijphpcddnaaDoor.QPrefixOrders Go.Proofs.YtfjdijphpcddnaaDoorW.PrintWords Go.Proofs.YtfjdijphpcddnaaDoorW.PrintLast Go.Proofs.YtfjdijphpcddnaaDoorW.PrintMore
set_option linter.unusedSimpArgs false
set_option linter.unusedVariables false

/-! ## addresses as natural numbers -/
theorem u32w (n : Nat) (h : n < 4294967296) : (n : Int) % 4294967296 = (n : Int) := by omega
/-- how many bits are left behind the first n -/
def lo (n : Nat) : Nat := 2 ^ (32 - n)
theorem lo_pos (n : Nat) : 0 < lo n := Nat.two_pow_pos _
theorem lo_step (n : Nat) (h : n < 32) : lo n = lo (n + 1) * 2 := by
  unfold lo
  rw [show 32 - n = (32 - (n + 1)) + 1 by omega, Nat.pow_succ]
theorem lo_0 : lo 0 = 4294967296 := by decide
theorem lo_32 : lo 32 = 1 := by decide
theorem lo_le (n : Nat) : lo n ≤ 4294967296 := by
  have : lo n ≤ 2 ^ 32 := Nat.pow_le_pow_right (by omega) (by omega)
  omega
/-- the first n bits -/
def hi (a n : Nat) : Nat := a / lo n
def ofN (a n : Nat) : Nat := hi a n * lo n
def bitN (a i : Nat) : Bool := decide (a / 2 ^ (31 - i) % 2 = 1)
theorem hi_step (a n : Nat) (h : n < 32) : hi a (n + 1) = 2 * hi a n + (if bitN a n = true then 1 else 0) := by
  unfold hi bitN
  have e : lo (n + 1) = 2 ^ (31 - n) := by unfold lo; rw [show 32 - (n + 1) = 31 - n by omega]
  rw [lo_step n h, e, ← Nat.div_div_eq_div_mul]
  generalize a / 2 ^ (31 - n) = z
  by_cases hz : z % 2 = 1
  · rw [decide_eq_true hz, if_pos rfl]; omega
  · rw [decide_eq_false hz, if_neg (by decide)]; omega
theorem hi_0 (a : Nat) (h : a < 4294967296) : hi a 0 = 0 := by
  unfold hi
  rw [lo_0]
  omega
theorem hi_32 (a : Nat) : hi a 32 = a := by
  unfold hi
  rw [lo_32, Nat.div_one]
theorem hi_lt (a n : Nat) (h : a < 4294967296) (hn : n ≤ 32) : hi a n < 2 ^ n := by
  unfold hi lo
  rw [Nat.div_lt_iff_lt_mul (Nat.two_pow_pos _), ← Nat.pow_add, show n + (32 - n) = 32 by omega]
  omega
theorem ofN_eq (a n : Nat) : ofN a n = a - a % lo n := by
  unfold ofN hi
  have := Nat.div_add_mod a (lo n)
  rw [Nat.mul_comm] at this
  omega
theorem ofN_le (a n : Nat) : ofN a n ≤ a := by rw [ofN_eq]; omega
theorem hi_ofN (a n : Nat) : hi (ofN a n) n = hi a n := by
  unfold ofN
  rw [show hi (hi a n * lo n) n = hi a n * lo n / lo n from rfl, Nat.mul_div_cancel _ (lo_pos n)]
theorem ofN_mod (a n : Nat) : ofN a n % lo n = 0 := by
  unfold ofN
  exact Nat.mul_mod_left _ _
def maskN (n : Nat) : Nat := if n = 0 ∨ 32 < n then 0 else 4294967296 - lo n
theorem mask_is (n : Nat) (h : n < 256) : prefix_mask.f (n : Int) = some ((maskN n : Nat) : Int) := by
  have : ∀ n, n < 256 → prefix_mask.f ((n : Nat) : Int) = some ((maskN n : Nat) : Int) := by decide +kernel
  exact this n h
theorem maskN_lt (n : Nat) : maskN n < 4294967296 := by
  unfold maskN
  have := lo_pos n
  split <;> omega
theorem and_mask (a n : Nat) (ha : a < 4294967296) (hn : n ≤ 32) : a &&& maskN n = ofN a n := by
  by_cases h0 : n = 0
  · subst h0
    rw [show maskN 0 = 0 from rfl, Nat.and_zero]
    unfold ofN
    rw [hi_0 a ha, Nat.zero_mul]
  · have e : maskN n = 2 ^ (32 - n) * (2 ^ n - 1) := by
      unfold maskN lo
      rw [if_neg (by omega), Nat.mul_sub, ← Nat.pow_add, show 32 - n + n = 32 by omega, Nat.mul_one]
    have e2 : ofN a n = 2 ^ (32 - n) * (a / 2 ^ (32 - n)) := by
      unfold ofN hi lo
      rw [Nat.mul_comm]
    rw [e, e2]
    apply Nat.eq_of_testBit_eq
    intro i
    rw [Nat.testBit_and, Nat.testBit_two_pow_mul, Nat.testBit_two_pow_mul, Nat.testBit_two_pow_sub_one]
    by_cases hi' : 32 - n ≤ i
    · rw [Nat.testBit_div_two_pow, show i - (32 - n) + (32 - n) = i by omega]
      by_cases hlt : i - (32 - n) < n
      · simp [hi', hlt]
      · have : a.testBit i = false := Nat.testBit_lt_two_pow (Nat.lt_of_lt_of_le ha (by
          rw [show (4294967296 : Nat) = 2 ^ 32 from rfl]
          exact Nat.pow_le_pow_right (by omega) (by omega)))
        simp [this]
    · simp [hi']
theorem bits_mask (a n : Nat) (ha : a < 4294967296) (hn : n ≤ 32) : Go.bits .and .u32 (a : Int) ((maskN n : Nat) : Int) = ((ofN a n : Nat) : Int) := by
  rw [u32_and_nat a _ ha (maskN_lt n), and_mask a n ha hn]
theorem not_mask (n : Nat) (hn : n ≤ 32) : 4294967295 - maskN n = 2 ^ (32 - n) - 1 := by
  unfold maskN lo
  have hp : 0 < 2 ^ (32 - n) := Nat.two_pow_pos _
  have hle : 2 ^ (32 - n) ≤ 4294967296 := Nat.pow_le_pow_right (n := 2) (by omega) (show 32 - n ≤ 32 by omega)
  by_cases h0 : n = 0
  · subst h0; rfl
  · rw [if_neg (by omega)]
    omega
theorem bits_not (a n : Nat) (ha : a < 4294967296) (hn : n ≤ 32) : Go.bits .andNot .u32 (a : Int) ((maskN n : Nat) : Int) = ((a % lo n : Nat) : Int) := by
  rw [u32_andNot_nat a _ ha (maskN_lt n), not_mask n hn, Nat.and_two_pow_sub_one_eq_mod]
  rfl
theorem of_is (a n : Nat) (ha : a < 4294967296) (hn : n < 256) : prefix_Of.f (a : Int) (n : Int) = some (((ofN a (min n 32) : Nat) : Int), ((min n 32 : Nat) : Int)) := by
  unfold prefix_Of.f
  have e : mn (n : Int) 32 = ((min n 32 : Nat) : Int) := by unfold mn; split <;> omega
  rw [e, mask_is _ (by omega), Option.bind_some, bits_mask a _ ha (by omega)]
theorem rbit_loop (d : Nat) : ∀ (k x i : Nat), i + d = 31 → x < 4294967296 → d < k → milestoneref01_Bit.l0 k (x : Int) (i : Int) = some (decide (x / 2 ^ d % 2 = 1)) := by
  induction d with
  | zero =>
    intro k x i hi hx hk
    obtain ⟨k, rfl⟩ : ∃ m, k = m + 1 := ⟨k - 1, by omega⟩
    rw [milestoneref01_Bit.l0, if_neg (by omega), Int.tmod_eq_emod_of_nonneg (Int.natCast_nonneg _), Nat.pow_zero, Nat.div_one]
    refine congrArg some ?_
    by_cases h : x % 2 = 1
    · rw [decide_eq_true h]
      exact beq_iff_eq.2 (by omega)
    · rw [decide_eq_false h]
      exact beq_eq_false_iff_ne.2 (by omega)
  | succ d ih =>
    intro k x i hi hx hk
    obtain ⟨k, rfl⟩ : ∃ m, k = m + 1 := ⟨k - 1, by omega⟩
    have e1 : Aside0 (wrap64 ((i : Int) + 1) = ((i + 1 : Nat) : Int)) := ⟨by unfold wrap64; omega⟩
    have e2 : Aside0 ((Int.tdiv (x : Int) 2) % 4294967296 = ((x / 2 : Nat) : Int)) := ⟨by rw [Int.tdiv_eq_ediv_of_nonneg (Int.natCast_nonneg _)]; omega⟩
    have key := ih k (x / 2) (i + 1) (by omega) (by omega) (by omega)
    rw [milestoneref01_Bit.l0, if_pos (by omega), e1.out, e2.out, key, Nat.div_div_eq_div_mul, Nat.pow_succ, Nat.mul_comm 2]
theorem rbit_is (k a i : Nat) (ha : a < 4294967296) (hi : i < 32) (hk : 32 < k) : milestoneref01_Bit.f k (a : Int) (i : Int) = some (bitN a i) := by
  unfold milestoneref01_Bit.f
  exact rbit_loop (31 - i) k a i (by omega) ha (by omega)
theorem rof_loop (a n : Nat) (ha : a < 4294967296) (hn : n ≤ 32) (d : Nat) : ∀ (k i : Nat), i + d = 32 → 40 + d < k →
    milestoneref01_Of.l0 k (a : Int) (n : Int) ((hi a (min i n) * 2 ^ (i - n) : Nat) : Int) (i : Int) = some (((ofN a n : Nat) : Int), (n : Int)) := by
  induction d with
  | zero =>
    intro k i hi' hk
    obtain ⟨k, rfl⟩ : ∃ m, k = m + 1 := ⟨k - 1, by omega⟩
    have e : i = 32 := by omega
    subst e
    rw [milestoneref01_Of.l0, if_neg (by omega), Nat.min_eq_right hn]
    rfl
  | succ d ih =>
    intro k i hi' hk
    obtain ⟨k, rfl⟩ : ∃ m, k = m + 1 := ⟨k - 1, by omega⟩
    have e1 : Aside0 (wrap64 ((i : Int) + 1) = ((i + 1 : Nat) : Int)) := ⟨by unfold wrap64; omega⟩
    have e2 : Aside0 (wrap64 (n : Int) = (n : Int)) := ⟨by unfold wrap64; omega⟩
    have key := ih k (i + 1) (by omega) (by omega)
    have ht : (i : Int) < 32 := by omega
    rw [milestoneref01_Of.l0, if_pos ht, e1.out, e2.out]
    by_cases hlt : i < n
    · have hs := hi_step a i (by omega)
      have hl := hi_lt a (i + 1) ha (by omega)
      have hp : 2 ^ (i + 1) ≤ 4294967296 := Nat.pow_le_pow_right (n := 2) (by omega) (show i + 1 ≤ 32 by omega)
      rw [Nat.min_eq_left (by omega), show i + 1 - n = 0 by omega, Nat.pow_zero, Nat.mul_one] at key
      have ht2 : (i : Int) < (n : Int) := by omega
      rw [if_pos ht2, rbit_is k a i ha (by omega) (by omega), Option.bind_some, Nat.min_eq_left (by omega), show i - n = 0 by omega, Nat.pow_zero, Nat.mul_one]
      by_cases hb : bitN a i = true
      · rw [if_pos hb] at hs
        have e3 : (((hi a i : Nat) : Int) * 2 + 1) % 4294967296 = ((hi a (i + 1) : Nat) : Int) := by omega
        rw [if_pos hb, e3]
        exact key
      · rw [if_neg hb] at hs
        have e3 : (((hi a i : Nat) : Int) * 2) % 4294967296 = ((hi a (i + 1) : Nat) : Int) := by omega
        rw [if_neg hb, e3]
        exact key
    · have ht2 : ¬ (i : Int) < (n : Int) := by omega
      have hl := hi_lt a n ha hn
      have hq : hi a n * 2 ^ (i - n) * 2 < 4294967296 := by
        have h1 : hi a n * 2 ^ (i - n) * 2 = hi a n * 2 ^ (i + 1 - n) := by rw [show i + 1 - n = i - n + 1 by omega, Nat.pow_succ, Nat.mul_assoc]
        have h2 : hi a n * 2 ^ (i + 1 - n) < 2 ^ n * 2 ^ (i + 1 - n) := Nat.mul_lt_mul_of_pos_right hl (Nat.two_pow_pos _)
        have h3 : 2 ^ n * 2 ^ (i + 1 - n) ≤ 2 ^ 32 := by
          rw [← Nat.pow_add]
          exact Nat.pow_le_pow_right (by omega) (by omega)
        rw [h1]
        exact Nat.lt_of_lt_of_le h2 h3
      have h1 : hi a n * 2 ^ (i + 1 - n) = hi a n * 2 ^ (i - n) * 2 := by rw [show i + 1 - n = i - n + 1 by omega, Nat.pow_succ, Nat.mul_assoc]
      rw [Nat.min_eq_right (by omega), h1] at key
      rw [if_neg ht2, Nat.min_eq_right (by omega)]
      generalize hi a n * 2 ^ (i - n) = z at key hq ⊢
      have e3 : ((z : Int) * 2) % 4294967296 = ((z * 2 : Nat) : Int) := by omega
      rw [e3]
      exact key
theorem rof_is (k a n : Nat) (ha : a < 4294967296) (hn : n < 256) (hk : 80 < k) : milestoneref01_Of.f k (a : Int) (n : Int) = some (((ofN a (min n 32) : Nat) : Int), ((min n 32 : Nat) : Int)) := by
  obtain ⟨k, rfl⟩ : ∃ m, k = m + 1 := ⟨k - 1, by omega⟩
  have key := rof_loop a (min n 32) ha (by omega) 32 k 0 (by omega) (by omega)
  rw [Nat.zero_min, hi_0 a ha, Nat.zero_mul] at key
  unfold milestoneref01_Of.f
  by_cases h : n > 32
  · rw [Nat.min_eq_right (by omega)] at key ⊢
    rw [if_pos (by omega), milestoneref01_Of.j0]
    exact key
  · rw [Nat.min_eq_left (by omega)] at key ⊢
    rw [if_neg (by omega), milestoneref01_Of.j0]
    exact key

theorem awake_6 : milestonelaw01_awake.f 6 = some true := by decide +kernel
theorem awake_is (k : Nat) (h : 6 ≤ k) : milestonelaw01_awake.f k = some true := by
  obtain ⟨d, rfl⟩ : ∃ d, k = 6 + d := ⟨k - 6, by omega⟩
  clear h
  induction d with
  | zero => exact awake_6
  | succ d ih => exact milestonelaw01_awake.mono (6 + d) _ ih

/-! ## which lie in one -/
theorem lo_mul (i n : Nat) (h : i ≤ n) (hn : n ≤ 32) : lo i = lo n * 2 ^ (n - i) := by
  unfold lo
  rw [← Nat.pow_add, show 32 - n + (n - i) = 32 - i by omega]
theorem hi_div (a i n : Nat) (h : i ≤ n) (hn : n ≤ 32) : hi a i = hi a n / 2 ^ (n - i) := by
  unfold hi
  rw [lo_mul i n h hn, Nat.div_div_eq_div_mul]
theorem hi_down {a b n : Nat} (i : Nat) (h : i ≤ n) (hn : n ≤ 32) (e : hi a n = hi b n) : hi a i = hi b i := by
  rw [hi_div a i n h hn, hi_div b i n h hn, e]
theorem ofN_ofN (a n m : Nat) (h : m ≤ n) (hn : n ≤ 32) : ofN (ofN a n) m = ofN a m := by
  unfold ofN
  rw [show hi (hi a n * lo n) m = hi (ofN a n) m from rfl, hi_div (ofN a n) m n h hn, hi_ofN, ← hi_div a m n h hn]
theorem hi_ofN_le (a n m : Nat) (h : m ≤ n) (hn : n ≤ 32) : hi (ofN a n) m = hi a m := by
  rw [hi_div (ofN a n) m n h hn, hi_ofN, ← hi_div a m n h hn]
theorem eq_hi (p a n : Nat) (hp : p % lo n = 0) : ofN a n = p ↔ hi p n = hi a n := by
  have hl := lo_pos n
  constructor
  · intro h
    rw [← h, hi_ofN]
  · intro h
    unfold ofN
    rw [← h]
    unfold hi
    exact Nat.div_mul_cancel (Nat.dvd_of_mod_eq_zero hp)
theorem has_is (p n a : Nat) (hn : n ≤ 32) (ha : a < 4294967296) : prefix_Has.f (p : Int) (n : Int) (a : Int) = some (decide (ofN a n = p)) := by
  unfold prefix_Has.f
  rw [mask_is n (by omega), Option.bind_some, bits_mask a n ha hn]
  refine congrArg some ?_
  by_cases h : ofN a n = p
  · rw [decide_eq_true h, h]
    exact beq_self_eq_true _
  · rw [decide_eq_false h]
    exact beq_eq_false_iff_ne.2 (fun q => h (Int.natCast_inj.1 q))
theorem within_is (q m p n : Nat) (hn : n ≤ 32) (hq : q < 4294967296) : prefix_Within.f (q : Int) (m : Int) (p : Int) (n : Int) = some (decide (n ≤ m ∧ ofN q n = p)) := by
  unfold prefix_Within.f
  by_cases h : n ≤ m
  · rw [if_pos (by omega), has_is p n q hn hq, Option.bind_some]
    refine congrArg some ?_
    rw [decide_eq_decide]
    exact ⟨fun z => ⟨h, z⟩, fun z => z.2⟩
  · rw [if_neg (by omega), decide_eq_false (fun z => h z.1)]

/-- below, at, above 0 -/
def cmpN (x y : Nat) : Int := if x < y then -1 else if y < x then 1 else 0
theorem cmp32 (x y : Nat) : cmp_Compare_uint32.f (x : Int) (y : Int) = some (cmpN x y) := by
  unfold cmp_Compare_uint32.f cmp_isNaN_uint32.f cmpN
  rw [Option.bind_some, Option.bind_some, if_neg (by simp), if_neg (by simp)]
  by_cases h : x < y
  · rw [if_pos (by omega), if_pos h]
  · rw [if_neg (by omega), if_neg h]
    by_cases h2 : y < x
    · rw [if_pos (by omega), if_pos h2]
    · rw [if_neg (by omega), if_neg h2]
theorem cmp8 (x y : Nat) : cmp_Compare_uint8.f (x : Int) (y : Int) = some (cmpN x y) := by
  unfold cmp_Compare_uint8.f cmp_isNaN_uint8.f cmpN
  rw [Option.bind_some, Option.bind_some, if_neg (by simp), if_neg (by simp)]
  by_cases h : x < y
  · rw [if_pos (by omega), if_pos h]
  · rw [if_neg (by omega), if_neg h]
    by_cases h2 : y < x
    · rw [if_pos (by omega), if_pos h2]
    · rw [if_neg (by omega), if_neg h2]
def orI (x y : Int) : Int := if x = 0 then y else x
theorem or_is (k : Nat) (x y : Int) : cmp_Or_int.f (k + 3) [x, y] = some (orI x y) := by
  have e1 : wrap64 (0 + 1) = 1 := by unfold wrap64; omega
  have e2 : wrap64 (1 + 1) = 2 := by unfold wrap64; omega
  have r0 : rd [x, y] 0 = x := rfl
  have r1 : rd [x, y] 1 = y := rfl
  have l : (([x, y] : List Int).length : Int) = 2 := rfl
  unfold cmp_Or_int.f orI
  rw [l, cmp_Or_int.l0, if_pos (by decide), if_pos (by decide), l, if_pos (by decide), r0]
  by_cases h : x = 0
  · rw [if_pos h, if_pos h, e1, cmp_Or_int.l0, if_pos (by decide), if_pos (by decide), l, if_pos (by decide), r1]
    by_cases h2 : y = 0
    · rw [if_pos h2, e2, cmp_Or_int.l0, if_neg (by decide), h2]
    · rw [if_neg h2]
  · rw [if_neg h, if_neg h]
theorem compare_is (k p n q m : Nat) (hk : 3 ≤ k) : prefix_Compare.f k (p : Int) (n : Int) (q : Int) (m : Int) = some (orI (cmpN p q) (cmpN n m)) := by
  obtain ⟨k, rfl⟩ : ∃ j, k = j + 3 := ⟨k - 3, by omega⟩
  unfold prefix_Compare.f
  rw [cmp32, Option.bind_some, cmp8, Option.bind_some, or_is, Option.bind_some]
theorem ahead_is (p n q m : Nat) : milestoneref01_Ahead.f (p : Int) (n : Int) (q : Int) (m : Int) = some (decide (p < q ∨ (p = q ∧ n < m))) := by
  unfold milestoneref01_Ahead.f
  by_cases h : p < q
  · rw [if_pos (by omega), decide_eq_true (.inl h)]
  · rw [if_neg (by omega)]
    by_cases h2 : p = q
    · rw [if_pos (by omega)]
      refine congrArg some ?_
      rw [decide_eq_decide]
      omega
    · rw [if_neg (by omega), decide_eq_false (by omega)]
theorem orders_j0 (k a b n m : Nat) (ha : a < 4294967296) (hb : b < 4294967296) (hn : n < 256) (hm : m < 256) (hk : 100 < k) : milestonelaw01_PrefixOrders.j0 k (a : Int) (b : Int) (n : Int) (m : Int) = some true := by
  obtain ⟨k, rfl⟩ : ∃ j, k = j + 1 := ⟨k - 1, by omega⟩
  rw [milestonelaw01_PrefixOrders.j0, rof_is k a n ha hn (by omega), Option.bind_some, rof_is k b m hb hm (by omega), Option.bind_some]
  dsimp only
  have hn : min n 32 ≤ 32 := by omega
  have hm : min m 32 ≤ 32 := by omega
  generalize min n 32 = n at hn ⊢
  generalize min m 32 = m at hm ⊢
  have hp : ofN a n < 4294967296 := Nat.lt_of_le_of_lt (ofN_le _ _) ha
  have hq : ofN b m < 4294967296 := Nat.lt_of_le_of_lt (ofN_le _ _) hb
  have w := within_is (ofN b m) m (ofN a n) n hn hq
  have hle := ofN_le (ofN b m) n
  generalize ofN (ofN b m) n = z at w hle
  generalize ofN a n = p at *
  generalize ofN b m = q at *
  have c1 := compare_is k p n q m (by omega)
  have c2 := compare_is k q m p n (by omega)
  have e1 : decide (orI (cmpN p q) (cmpN n m) < 0) = decide (p < q ∨ (p = q ∧ n < m)) := by
    rw [decide_eq_decide]
    unfold orI cmpN
    (repeat' split) <;> omega
  have e2 : (orI (cmpN p q) (cmpN n m) == 0) = (((p : Int) == (q : Int)) && ((n : Int) == (m : Int))) := by
    rw [Bool.eq_iff_iff, Bool.and_eq_true, beq_iff_eq, beq_iff_eq, beq_iff_eq]
    unfold orI cmpN
    (repeat' split) <;> omega
  have e3 : decide (orI (cmpN q p) (cmpN m n) > 0) = decide (orI (cmpN p q) (cmpN n m) < 0) := by
    rw [decide_eq_decide]
    unfold orI cmpN
    (repeat' split) <;> omega
  rw [c1, Option.bind_some, awake_is k (by omega), Option.bind_some, if_pos rfl, ahead_is, Option.bind_some, if_pos (by rw [e1]; simp), if_pos (by rw [e2]; simp), c2, Option.bind_some, if_pos (by rw [e3]; simp), w, Option.bind_some]
  by_cases hw : n ≤ m ∧ z = p
  · rw [decide_eq_true hw, if_pos rfl, Option.bind_some]
    refine congrArg some ?_
    rw [decide_eq_true_iff]
    unfold orI cmpN
    (repeat' split) <;> omega
  · rw [decide_eq_false hw, if_neg (by decide)]
theorem PrefixOrders : milestonelaw01_PrefixOrders.Pure := by
  intro a b n m same h0 h1 h2 h3
  have h0 := Go.bounds_u32 h0
  have h1 := Go.bounds_u32 h1
  have h2 := Go.bounds_u8 h2
  have h3 := Go.bounds_u8 h3
  obtain ⟨a, rfl⟩ := Int.eq_ofNat_of_zero_le h0.1
  obtain ⟨b, rfl⟩ := Int.eq_ofNat_of_zero_le h1.1
  obtain ⟨n, rfl⟩ := Int.eq_ofNat_of_zero_le h2.1
  obtain ⟨m, rfl⟩ := Int.eq_ofNat_of_zero_le h3.1
  refine ⟨200, ?_⟩
  unfold milestonelaw01_PrefixOrders.f
  by_cases hs : same = true
  · rw [if_pos hs]
    exact orders_j0 200 a a n m (by omega) (by omega) (by omega) (by omega) (by omega)
  · rw [if_neg hs]
    exact orders_j0 200 a b n m (by omega) (by omega) (by omega) (by omega) (by omega)

end Go.Proofs.YtfjdijphpcddnaaDoor.Pure
