/- A prefix as a text, and back: prefix.Text is the document's, and prefix.Parse reads it as the prefix.
For every input; no condition is added to the given statement. -/
import Derived.Test.YtfjdijphpcddnaaDoorQPrefixTextsx4
import Derived.Laws.BitsAllLaws
import Derived.OpenShut
import Derived.Lib.Bytes
namespace Go.Proofs.YtfjdijphpcddnaaDoor.Pure
open Go.RowKit Go.Proofs.YtfjdijphpcddnaaDoor.QPrefixTexts Go.Proofs.YtfjdijphpcddnaaDoorW.PrintWords Go.Proofs.YtfjdijphpcddnaaDoorW.PrintLast Go.Proofs.YtfjdijphpcddnaaDoorW.PrintMore
set_option linter.unusedSimpArgs false
set_option linter.unusedVariables false

/-! ## addresses as natural numbers -/
theorem u32w (n : Nat) (h : n < 4294967296) : (n : Int) % 4294967296 = (n : Int) := by omega
/-- how many bits are left behind the first n -/
def lo (n : Nat) : Nat := 2 ^ (32 - n)
theorem lo_pos (n : Nat) : 0 < lo n := Nat.two_pow_pos _
theorem lo_step (n : Nat) (h : n < 32) : lo n = lo (n + 1) * 2 := by
  unfold lo
  rw [show 32 - n = (32 - (n + 1)) + 1 by omega, Nat.pow_succ]
theorem lo_0 : lo 0 = 4294967296 := by decide
theorem lo_32 : lo 32 = 1 := by decide
theorem lo_le (n : Nat) : lo n ≤ 4294967296 := by
  have : lo n ≤ 2 ^ 32 := Nat.pow_le_pow_right (by omega) (by omega)
  omega
/-- the first n bits -/
def hi (a n : Nat) : Nat := a / lo n
def ofN (a n : Nat) : Nat := hi a n * lo n
def bitN (a i : Nat) : Bool := decide (a / 2 ^ (31 - i) % 2 = 1)
theorem hi_step (a n : Nat) (h : n < 32) : hi a (n + 1) = 2 * hi a n + (if bitN a n = true then 1 else 0) := by
  unfold hi bitN
  have e : lo (n + 1) = 2 ^ (31 - n) := by unfold lo; rw [show 32 - (n + 1) = 31 - n by omega]
  rw [lo_step n h, e, ← Nat.div_div_eq_div_mul]
  generalize a / 2 ^ (31 - n) = z
  by_cases hz : z % 2 = 1
  · rw [decide_eq_true hz, if_pos rfl]; omega
  · rw [decide_eq_false hz, if_neg (by decide)]; omega
theorem hi_0 (a : Nat) (h : a < 4294967296) : hi a 0 = 0 := by
  unfold hi
  rw [lo_0]
  omega
theorem hi_32 (a : Nat) : hi a 32 = a := by
  unfold hi
  rw [lo_32, Nat.div_one]
theorem hi_lt (a n : Nat) (h : a < 4294967296) (hn : n ≤ 32) : hi a n < 2 ^ n := by
  unfold hi lo
  rw [Nat.div_lt_iff_lt_mul (Nat.two_pow_pos _), ← Nat.pow_add, show n + (32 - n) = 32 by omega]
  omega
theorem ofN_eq (a n : Nat) : ofN a n = a - a % lo n := by
  unfold ofN hi
  have := Nat.div_add_mod a (lo n)
  rw [Nat.mul_comm] at this
  omega
theorem ofN_le (a n : Nat) : ofN a n ≤ a := by rw [ofN_eq]; omega
theorem hi_ofN (a n : Nat) : hi (ofN a n) n = hi a n := by
  unfold ofN
  rw [show hi (hi a n * lo n) n = hi a n * lo n / lo n from rfl, Nat.mul_div_cancel _ (lo_pos n)]
theorem ofN_mod (a n : Nat) : ofN a n % lo n = 0 := by
  unfold ofN
  exact Nat.mul_mod_left _ _
def maskN (n : Nat) : Nat := if n = 0 ∨ 32 < n then 0 else 4294967296 - lo n
theorem mask_is (n : Nat) (h : n < 256) : prefix_mask.f (n : Int) = some ((maskN n : Nat) : Int) := by
  have : ∀ n, n < 256 → prefix_mask.f ((n : Nat) : Int) = some ((maskN n : Nat) : Int) := by decide +kernel
  exact this n h
theorem maskN_lt (n : Nat) : maskN n < 4294967296 := by
  unfold maskN
  have := lo_pos n
  split <;> omega
theorem and_mask (a n : Nat) (ha : a < 4294967296) (hn : n ≤ 32) : a &&& maskN n = ofN a n := by
  by_cases h0 : n = 0
  · subst h0
    rw [show maskN 0 = 0 from rfl, Nat.and_zero]
    unfold ofN
    rw [hi_0 a ha, Nat.zero_mul]
  · have e : maskN n = 2 ^ (32 - n) * (2 ^ n - 1) := by
      unfold maskN lo
      rw [if_neg (by omega), Nat.mul_sub, ← Nat.pow_add, show 32 - n + n = 32 by omega, Nat.mul_one]
    have e2 : ofN a n = 2 ^ (32 - n) * (a / 2 ^ (32 - n)) := by
      unfold ofN hi lo
      rw [Nat.mul_comm]
    rw [e, e2]
    apply Nat.eq_of_testBit_eq
    intro i
    rw [Nat.testBit_and, Nat.testBit_two_pow_mul, Nat.testBit_two_pow_mul, Nat.testBit_two_pow_sub_one]
    by_cases hi' : 32 - n ≤ i
    · rw [Nat.testBit_div_two_pow, show i - (32 - n) + (32 - n) = i by omega]
      by_cases hlt : i - (32 - n) < n
      · simp [hi', hlt]
      · have : a.testBit i = false := Nat.testBit_lt_two_pow (Nat.lt_of_lt_of_le ha (by
          rw [show (4294967296 : Nat) = 2 ^ 32 from rfl]
          exact Nat.pow_le_pow_right (by omega) (by omega)))
        simp [this]
    · simp [hi']
theorem bits_mask (a n : Nat) (ha : a < 4294967296) (hn : n ≤ 32) : Go.bits .and .u32 (a : Int) ((maskN n : Nat) : Int) = ((ofN a n : Nat) : Int) := by
  rw [u32_and_nat a _ ha (maskN_lt n), and_mask a n ha hn]
theorem not_mask (n : Nat) (hn : n ≤ 32) : 4294967295 - maskN n = 2 ^ (32 - n) - 1 := by
  unfold maskN lo
  have hp : 0 < 2 ^ (32 - n) := Nat.two_pow_pos _
  have hle : 2 ^ (32 - n) ≤ 4294967296 := Nat.pow_le_pow_right (n := 2) (by omega) (show 32 - n ≤ 32 by omega)
  by_cases h0 : n = 0
  · subst h0; rfl
  · rw [if_neg (by omega)]
    omega
theorem bits_not (a n : Nat) (ha : a < 4294967296) (hn : n ≤ 32) : Go.bits .andNot .u32 (a : Int) ((maskN n : Nat) : Int) = ((a % lo n : Nat) : Int) := by
  rw [u32_andNot_nat a _ ha (maskN_lt n), not_mask n hn, Nat.and_two_pow_sub_one_eq_mod]
  rfl
theorem of_is (a n : Nat) (ha : a < 4294967296) (hn : n < 256) : prefix_Of.f (a : Int) (n : Int) = some (((ofN a (min n 32) : Nat) : Int), ((min n 32 : Nat) : Int)) := by
  unfold prefix_Of.f
  have e : mn (n : Int) 32 = ((min n 32 : Nat) : Int) := by unfold mn; split <;> omega
  rw [e, mask_is _ (by omega), Option.bind_some, bits_mask a _ ha (by omega)]
theorem rbit_loop (d : Nat) : ∀ (k x i : Nat), i + d = 31 → x < 4294967296 → d < k → milestoneref01_Bit.l0 k (x : Int) (i : Int) = some (decide (x / 2 ^ d % 2 = 1)) := by
  induction d with
  | zero =>
    intro k x i hi hx hk
    obtain ⟨k, rfl⟩ : ∃ m, k = m + 1 := ⟨k - 1, by omega⟩
    rw [milestoneref01_Bit.l0, if_neg (by omega), Int.tmod_eq_emod_of_nonneg (Int.natCast_nonneg _), Nat.pow_zero, Nat.div_one]
    refine congrArg some ?_
    by_cases h : x % 2 = 1
    · rw [decide_eq_true h]
      exact beq_iff_eq.2 (by omega)
    · rw [decide_eq_false h]
      exact beq_eq_false_iff_ne.2 (by omega)
  | succ d ih =>
    intro k x i hi hx hk
    obtain ⟨k, rfl⟩ : ∃ m, k = m + 1 := ⟨k - 1, by omega⟩
    have e1 : Aside0 (wrap64 ((i : Int) + 1) = ((i + 1 : Nat) : Int)) := ⟨by unfold wrap64; omega⟩
    have e2 : Aside0 ((Int.tdiv (x : Int) 2) % 4294967296 = ((x / 2 : Nat) : Int)) := ⟨by rw [Int.tdiv_eq_ediv_of_nonneg (Int.natCast_nonneg _)]; omega⟩
    have key := ih k (x / 2) (i + 1) (by omega) (by omega) (by omega)
    rw [milestoneref01_Bit.l0, if_pos (by omega), e1.out, e2.out, key, Nat.div_div_eq_div_mul, Nat.pow_succ, Nat.mul_comm 2]
theorem rbit_is (k a i : Nat) (ha : a < 4294967296) (hi : i < 32) (hk : 32 < k) : milestoneref01_Bit.f k (a : Int) (i : Int) = some (bitN a i) := by
  unfold milestoneref01_Bit.f
  exact rbit_loop (31 - i) k a i (by omega) ha (by omega)
theorem rof_loop (a n : Nat) (ha : a < 4294967296) (hn : n ≤ 32) (d : Nat) : ∀ (k i : Nat), i + d = 32 → 40 + d < k →
    milestoneref01_Of.l0 k (a : Int) (n : Int) ((hi a (min i n) * 2 ^ (i - n) : Nat) : Int) (i : Int) = some (((ofN a n : Nat) : Int), (n : Int)) := by
  induction d with
  | zero =>
    intro k i hi' hk
    obtain ⟨k, rfl⟩ : ∃ m, k = m + 1 := ⟨k - 1, by omega⟩
    have e : i = 32 := by omega
    subst e
    rw [milestoneref01_Of.l0, if_neg (by omega), Nat.min_eq_right hn]
    rfl
  | succ d ih =>
    intro k i hi' hk
    obtain ⟨k, rfl⟩ : ∃ m, k = m + 1 := ⟨k - 1, by omega⟩
    have e1 : Aside0 (wrap64 ((i : Int) + 1) = ((i + 1 : Nat) : Int)) := ⟨by unfold wrap64; omega⟩
    have e2 : Aside0 (wrap64 (n : Int) = (n : Int)) := ⟨by unfold wrap64; omega⟩
    have key := ih k (i + 1) (by omega) (by omega)
    have ht : (i : Int) < 32 := by omega
    rw [milestoneref01_Of.l0, if_pos ht, e1.out, e2.out]
    by_cases hlt : i < n
    · have hs := hi_step a i (by omega)
      have hl := hi_lt a (i + 1) ha (by omega)
      have hp : 2 ^ (i + 1) ≤ 4294967296 := Nat.pow_le_pow_right (n := 2) (by omega) (show i + 1 ≤ 32 by omega)
      rw [Nat.min_eq_left (by omega), show i + 1 - n = 0 by omega, Nat.pow_zero, Nat.mul_one] at key
      have ht2 : (i : Int) < (n : Int) := by omega
      rw [if_pos ht2, rbit_is k a i ha (by omega) (by omega), Option.bind_some, Nat.min_eq_left (by omega), show i - n = 0 by omega, Nat.pow_zero, Nat.mul_one]
      by_cases hb : bitN a i = true
      · rw [if_pos hb] at hs
        have e3 : (((hi a i : Nat) : Int) * 2 + 1) % 4294967296 = ((hi a (i + 1) : Nat) : Int) := by omega
        rw [if_pos hb, e3]
        exact key
      · rw [if_neg hb] at hs
        have e3 : (((hi a i : Nat) : Int) * 2) % 4294967296 = ((hi a (i + 1) : Nat) : Int) := by omega
        rw [if_neg hb, e3]
        exact key
    · have ht2 : ¬ (i : Int) < (n : Int) := by omega
      have hl := hi_lt a n ha hn
      have hq : hi a n * 2 ^ (i - n) * 2 < 4294967296 := by
        have h1 : hi a n * 2 ^ (i - n) * 2 = hi a n * 2 ^ (i + 1 - n) := by rw [show i + 1 - n = i - n + 1 by omega, Nat.pow_succ, Nat.mul_assoc]
        have h2 : hi a n * 2 ^ (i + 1 - n) < 2 ^ n * 2 ^ (i + 1 - n) := Nat.mul_lt_mul_of_pos_right hl (Nat.two_pow_pos _)
        have h3 : 2 ^ n * 2 ^ (i + 1 - n) ≤ 2 ^ 32 := by
          rw [← Nat.pow_add]
          exact Nat.pow_le_pow_right (by omega) (by omega)
        rw [h1]
        exact Nat.lt_of_lt_of_le h2 h3
      have h1 : hi a n * 2 ^ (i + 1 - n) = hi a n * 2 ^ (i - n) * 2 := by rw [show i + 1 - n = i - n + 1 by omega, Nat.pow_succ, Nat.mul_assoc]
      rw [Nat.min_eq_right (by omega), h1] at key
      rw [if_neg ht2, Nat.min_eq_right (by omega)]
      generalize hi a n * 2 ^ (i - n) = z at key hq ⊢
      have e3 : ((z : Int) * 2) % 4294967296 = ((z * 2 : Nat) : Int) := by omega
      rw [e3]
      exact key
theorem rof_is (k a n : Nat) (ha : a < 4294967296) (hn : n < 256) (hk : 80 < k) : milestoneref01_Of.f k (a : Int) (n : Int) = some (((ofN a (min n 32) : Nat) : Int), ((min n 32 : Nat) : Int)) := by
  obtain ⟨k, rfl⟩ : ∃ m, k = m + 1 := ⟨k - 1, by omega⟩
  have key := rof_loop a (min n 32) ha (by omega) 32 k 0 (by omega) (by omega)
  rw [Nat.zero_min, hi_0 a ha, Nat.zero_mul] at key
  unfold milestoneref01_Of.f
  by_cases h : n > 32
  · rw [Nat.min_eq_right (by omega)] at key ⊢
    rw [if_pos (by omega), milestoneref01_Of.j0]
    exact key
  · rw [Nat.min_eq_left (by omega)] at key ⊢
    rw [if_neg (by omega), milestoneref01_Of.j0]
    exact key

/-! ## which may be -/
theorem right_is (a n : Nat) (ha : a < 4294967296) (hn : n < 256) : prefix_Right.f (a : Int) (n : Int) = some (decide (n ≤ 32 ∧ a % lo n = 0)) := by
  unfold prefix_Right.f
  by_cases h : n ≤ 32
  · rw [if_pos (by omega), mask_is n hn, Option.bind_some, bits_not a n ha h]
    refine congrArg some ?_
    by_cases h2 : a % lo n = 0
    · rw [decide_eq_true ⟨h, h2⟩]
      exact beq_iff_eq.2 (by omega)
    · rw [decide_eq_false (fun q => h2 q.2)]
      exact beq_eq_false_iff_ne.2 (by omega)
  · rw [if_neg (by omega), decide_eq_false (fun q => h q.1)]

/-! ## a prefix as a text -/
def T (l : List UInt8) : ByteArray := ⟨l.toArray⟩
theorem T_app (l m : List UInt8) : T l ++ T m = T (l ++ m) := by
  unfold T
  apply ByteArray.ext
  simp
theorem T_size (l : List UInt8) : (T l).size = l.length := by
  show l.toArray.size = l.length
  simp
theorem T_ext (l : List UInt8) (n : Nat) : (T l).extract 0 n = T (l.take n) := by
  unfold T
  apply ByteArray.ext
  simp [List.extract_eq_take_drop]
theorem T_list (l : List UInt8) : (T l).data.toList = l := by
  unfold T
  simp
theorem T_dot : (⟨#[46]⟩ : ByteArray) = T [46] := rfl
theorem T_slash : (⟨#[47]⟩ : ByteArray) = T [47] := rfl
theorem T_nil : (⟨#[]⟩ : ByteArray) = T [] := rfl
/-- the digits of a number below 256 -/
def dd (x : Nat) : List UInt8 := if x < 10 then [UInt8.ofNat (48 + x)] else if x < 100 then [UInt8.ofNat (48 + x / 10), UInt8.ofNat (48 + x % 10)] else [UInt8.ofNat (48 + x / 100), UInt8.ofNat (48 + x / 10 % 10), UInt8.ofNat (48 + x % 10)]
theorem dd_len (x : Nat) : 1 ≤ (dd x).length ∧ (dd x).length ≤ 3 := by
  unfold dd
  repeat' split
  all_goals simp
theorem dec_dd (x : Nat) (h : x < 256) : Lib.decDigits x = dd x := by
  unfold dd
  by_cases h1 : x < 10
  · rw [if_pos h1, Lib.decDigits_one h1]
  · rw [if_neg h1]
    by_cases h2 : x < 100
    · rw [if_pos h2, Lib.decDigits_two h1 h2]
    · rw [if_neg h2, Lib.decDigits, dif_neg h1, Lib.decDigits_two (by omega) (by omega), Nat.div_div_eq_div_mul]
      rfl
theorem num_dd (x : Nat) (h : x < 256) : (milestoneref01_num.f 4 (x : Int)).map (fun b => b.data.toList) = some (dd x) := by
  have : ∀ x, x < 256 → (milestoneref01_num.f 4 ((x : Nat) : Int)).map (fun b => b.data.toList) = some (dd x) := by decide +kernel
  exact this x h
theorem num_is (k x : Nat) (h : x < 256) (hk : 4 ≤ k) : milestoneref01_num.f k (x : Int) = some (T (dd x)) := by
  have h4 := num_dd x h
  cases h5 : milestoneref01_num.f 4 (x : Int) with
  | none => rw [h5] at h4; cases h4
  | some b =>
    rw [h5] at h4
    have e : b.data.toList = dd x := Option.some.inj h4
    have eb : b = T (dd x) := by
      unfold T
      rw [← e]
    rw [← eb]
    exact at_rounds (fun k => milestoneref01_num.mono (x : Int) k) hk h5
/-- the text of four octets and a length -/
def txt (a b c d n : Nat) : List UInt8 := dd a ++ ([46] ++ (dd b ++ ([46] ++ (dd c ++ ([46] ++ (dd d ++ ([47] ++ dd n)))))))
theorem rtext_is (k a n : Nat) (ha : a < 4294967296) (hn : n < 256) (hk : 4 ≤ k) : milestoneref01_Text.f k (a : Int) (n : Int) = some (T (txt (a / 16777216) (a / 65536 % 256) (a / 256 % 256) (a % 256) n)) := by
  have e1 : Aside0 ((Int.tdiv (a : Int) 16777216) % 4294967296 = ((a / 16777216 : Nat) : Int)) := ⟨by rw [Int.tdiv_eq_ediv_of_nonneg (Int.natCast_nonneg _)]; omega⟩
  have e2 : Aside0 (Int.tmod (IntKind.u32.wrap (Int.tdiv (a : Int) 65536)) 256 = ((a / 65536 % 256 : Nat) : Int)) := ⟨by
    have : IntKind.u32.wrap (Int.tdiv (a : Int) 65536) = ((a / 65536 : Nat) : Int) := by
      rw [Int.tdiv_eq_ediv_of_nonneg (Int.natCast_nonneg _)]
      show (_ % 4294967296 : Int) = _
      omega
    rw [this, Int.tmod_eq_emod_of_nonneg (Int.natCast_nonneg _)]
    omega⟩
  have e3 : Aside0 (Int.tmod (IntKind.u32.wrap (Int.tdiv (a : Int) 256)) 256 = ((a / 256 % 256 : Nat) : Int)) := ⟨by
    have : IntKind.u32.wrap (Int.tdiv (a : Int) 256) = ((a / 256 : Nat) : Int) := by
      rw [Int.tdiv_eq_ediv_of_nonneg (Int.natCast_nonneg _)]
      show (_ % 4294967296 : Int) = _
      omega
    rw [this, Int.tmod_eq_emod_of_nonneg (Int.natCast_nonneg _)]
    omega⟩
  have e4 : Aside0 (Int.tmod (a : Int) 256 = ((a % 256 : Nat) : Int)) := ⟨by rw [Int.tmod_eq_emod_of_nonneg (Int.natCast_nonneg _)]; omega⟩
  have e5 : Aside0 (((n : Int)) % 4294967296 = (n : Int)) := ⟨by omega⟩
  have l1 := dd_len (a / 16777216)
  have l2 := dd_len (a / 65536 % 256)
  have l3 := dd_len (a / 256 % 256)
  have l4 := dd_len (a % 256)
  have l5 := dd_len n
  have h1 : a / 16777216 < 256 := by omega
  have h2 : a / 65536 % 256 < 256 := by omega
  have h3 : a / 256 % 256 < 256 := by omega
  have h4 : a % 256 < 256 := by omega
  unfold milestoneref01_Text.f
  rw [e1.out, e2.out, e3.out, e4.out, e5.out]
  generalize a / 16777216 = x1 at *
  generalize a / 65536 % 256 = x2 at *
  generalize a / 256 % 256 = x3 at *
  generalize a % 256 = x4 at *
  rw [num_is k x1 h1 hk, Option.bind_some, T_dot, T_slash, if_pos (by rw [T_size]; omega), num_is k x2 h2 hk, Option.bind_some, T_app,
    if_pos (by simp only [T_size, List.length_append, List.length_cons, List.length_nil]; omega), T_app,
    if_pos (by simp only [T_size, List.length_append, List.length_cons, List.length_nil]; omega), num_is k x3 h3 hk, Option.bind_some, T_app,
    if_pos (by simp only [T_size, List.length_append, List.length_cons, List.length_nil]; omega), T_app,
    if_pos (by simp only [T_size, List.length_append, List.length_cons, List.length_nil]; omega), num_is k x4 h4 hk, Option.bind_some, T_app,
    if_pos (by simp only [T_size, List.length_append, List.length_cons, List.length_nil]; omega), T_app,
    if_pos (by simp only [T_size, List.length_append, List.length_cons, List.length_nil]; omega), num_is k n hn hk, Option.bind_some, T_app,
    if_pos (by simp only [T_size, List.length_append, List.length_cons, List.length_nil]; omega), T_app]
  refine congrArg (fun l => some (T l)) ?_
  unfold txt
  simp only [List.append_assoc]
/-! ## a text read -/
theorem run_cons {c : UInt8} {l : List UInt8} {n : List Int} {a d : Nat} {x : List Int × Nat × Nat} (hc : c.toNat < 128) (hs : prefix_Parse.step n a d c.toNat = some x) : prefix_Parse.run (c :: l) n a d = prefix_Parse.run l x.1 x.2.1 x.2.2 := by
  rw [prefix_Parse.run, if_neg (by omega), hs]
  rfl
theorem dig_nat (x : Nat) (h : x < 10) : (UInt8.ofNat (48 + x)).toNat = 48 + x := by
  rw [UInt8.toNat_ofNat']
  omega
theorem getD_set (n : List Int) (a : Nat) (v : Int) (h : a < n.length) : (n.set a v).getD a 0 = v := by
  rw [List.getD_eq_getElem?_getD, List.getElem?_set_self h]
  rfl
/-- one digit more -/
theorem run_dig {l : List UInt8} {n : List Int} {a d x : Nat} {m : Nat} (hx : x < 10) (hd : d < 3) (hm : n.getD a 0 = (m : Int)) (h0 : ¬ (0 < d ∧ m = 0)) (h255 : 10 * m + x ≤ 255) : prefix_Parse.run (UInt8.ofNat (48 + x) :: l) n a d = prefix_Parse.run l (n.set a ((10 * m + x : Nat) : Int)) a (d + 1) := by
  have e := dig_nat x hx
  have hs := prefix_Parse.step_dig (n := n) (a := a) (d := d) (c := 48 + x) ⟨by omega, by omega, hd, by rw [hm]; omega⟩ (by rw [hm]; omega)
  rw [run_cons (by omega) (by rw [e]; exact hs), hm]
  have e2 : 10 * (m : Int) + (((48 + x : Nat) : Int) - 48) = ((10 * m + x : Nat) : Int) := by omega
  rw [e2]
theorem run_dd (x : Nat) (hx : x < 256) (l : List UInt8) (n : List Int) (a : Nat) (ha : a < n.length) (h0 : n.getD a 0 = 0) : prefix_Parse.run (dd x ++ l) n a 0 = prefix_Parse.run l (n.set a (x : Int)) a (dd x).length := by
  unfold dd
  by_cases h1 : x < 10
  · rw [if_pos h1]
    show prefix_Parse.run (UInt8.ofNat (48 + x) :: l) n a 0 = _
    rw [run_dig (m := 0) h1 (by omega) h0 (by omega) (by omega)]
    rw [show 10 * 0 + x = x by omega]
    rfl
  · rw [if_neg h1]
    by_cases h2 : x < 100
    · rw [if_pos h2]
      show prefix_Parse.run (UInt8.ofNat (48 + x / 10) :: UInt8.ofNat (48 + x % 10) :: l) n a 0 = _
      rw [run_dig (m := 0) (by omega) (by omega) h0 (by omega) (by omega), run_dig (m := x / 10) (by omega) (by omega) (by rw [getD_set _ _ _ ha]; omega) (by omega) (by omega), List.set_set]
      rw [show 10 * (x / 10) + x % 10 = x by omega]
      rfl
    · rw [if_neg h2]
      show prefix_Parse.run (UInt8.ofNat (48 + x / 100) :: UInt8.ofNat (48 + x / 10 % 10) :: UInt8.ofNat (48 + x % 10) :: l) n a 0 = _
      rw [run_dig (m := 0) (by omega) (by omega) h0 (by omega) (by omega), run_dig (m := x / 100) (by omega) (by omega) (by rw [getD_set _ _ _ ha]; omega) (by omega) (by omega), List.set_set,
        run_dig (m := x / 10) (by omega) (by omega) (by rw [getD_set _ _ _ ha]; omega) (by omega) (by omega), List.set_set]
      rw [show 10 * (x / 10) + x % 10 = x by omega]
      rfl
theorem run_dot (l : List UInt8) (n : List Int) (a d : Nat) (ha : a < 3) (hd : 0 < d) : prefix_Parse.run ([46] ++ l) n a d = prefix_Parse.run l n (a + 1) 0 := by
  have e : (46 : UInt8).toNat = 46 := rfl
  show prefix_Parse.run (46 :: l) n a d = _
  rw [run_cons (by omega) (by rw [e]; exact prefix_Parse.step_sep (by omega) hd (by omega))]
theorem run_slash (l : List UInt8) (n : List Int) (d : Nat) (hd : 0 < d) : prefix_Parse.run ([47] ++ l) n 3 d = prefix_Parse.run l n 4 0 := by
  have e : (47 : UInt8).toNat = 47 := rfl
  show prefix_Parse.run (47 :: l) n 3 d = _
  rw [run_cons (by omega) (by rw [e]; exact prefix_Parse.step_sep (by omega) hd (by omega))]
theorem run_txt (a b c d n : Nat) (ha : a < 256) (hb : b < 256) (hc : c < 256) (hd : d < 256) (hn : n < 256) : prefix_Parse.run (txt a b c d n) [0, 0, 0, 0, 0] 0 0 = some ([(a : Int), b, c, d, n], 4, (dd n).length) := by
  have l1 := dd_len a
  have l2 := dd_len b
  have l3 := dd_len c
  have l4 := dd_len d
  unfold txt
  rw [run_dd a ha _ _ 0 (by simp) rfl, run_dot _ _ _ _ (by omega) (by omega), run_dd b hb _ _ 1 (by simp) rfl, run_dot _ _ _ _ (by omega) (by omega), run_dd c hc _ _ 2 (by simp) rfl, run_dot _ _ _ _ (by omega) (by omega),
    run_dd d hd _ _ 3 (by simp) rfl, run_slash _ _ _ (by omega)]
  have := run_dd n hn [] ([(a : Int), b, c, d, 0]) 4 (by simp) rfl
  rw [List.append_nil] at this
  exact this
theorem or_add (a b p i : Nat) (hp : p = 2 ^ i) (h : b < p) : a * p ||| b = a * p + b := by
  subst hp
  rw [Nat.mul_comm, Nat.two_pow_add_eq_or_of_lt h]
theorem or3 (a b c d : Nat) (hb : b < 256) (hc : c < 256) (hd : d < 256) : ((a * 16777216 ||| b * 65536) ||| c * 256) ||| d = ((a * 256 + b) * 256 + c) * 256 + d := by
  have e1 : ∀ a b : Nat, a * 16777216 + b * 65536 = (a * 256 + b) * 65536 := fun a b => by omega
  have e2 : ∀ z c : Nat, z * 65536 + c * 256 = (z * 256 + c) * 256 := fun z c => by omega
  rw [or_add a (b * 65536) 16777216 24 rfl (by clear e1 e2; omega), e1, or_add (a * 256 + b) (c * 256) 65536 16 rfl (by clear e1 e2; omega), e2, or_add ((a * 256 + b) * 256 + c) d 256 8 rfl hd]
theorem addr_is (a b c d : Nat) (n : Int) (ha : a < 256) (hb : b < 256) (hc : c < 256) (hd : d < 256) : prefix_Parse.addr [(a : Int), b, c, d, n] = (((a * 256 + b) * 256 + c) * 256 + d : Nat) := by
  unfold prefix_Parse.addr
  show Go.bits .or .u32 (Go.bits .or .u32 (Go.bits .or .u32 ((a : Int) * 16777216) ((b : Int) * 65536)) ((c : Int) * 256)) (d : Int) = _
  have g1 : ∀ a : Nat, a < 256 → a * 16777216 < 2 ^ 32 := fun a h => by omega
  have g2 : ∀ a : Nat, a < 256 → a * 65536 < 2 ^ 32 := fun a h => by clear g1; omega
  have g3 : ∀ a : Nat, a < 256 → a * 256 < 2 ^ 32 := fun a h => by clear g1 g2; omega
  have g4 : ∀ a : Nat, a < 256 → a < 2 ^ 32 := fun a h => by clear g1 g2 g3; omega
  have e0 : ∀ x y : Nat, (x : Int) * (y : Int) = ((x * y : Nat) : Int) := fun x y => (Int.natCast_mul x y).symm
  have e1 : a * 16777216 ||| b * 65536 < 2 ^ 32 := Nat.or_lt_two_pow (g1 a ha) (g2 b hb)
  have e2 : (a * 16777216 ||| b * 65536) ||| c * 256 < 2 ^ 32 := Nat.or_lt_two_pow e1 (g3 c hc)
  have f1 : a * 16777216 < 2 ^ 32 := g1 a ha
  have f2 : b * 65536 < 2 ^ 32 := g2 b hb
  have f3 : c * 256 < 2 ^ 32 := g3 c hc
  have f4 : d < 2 ^ 32 := g4 d hd
  rw [show (16777216 : Int) = ((16777216 : Nat) : Int) from rfl, show (65536 : Int) = ((65536 : Nat) : Int) from rfl, show (256 : Int) = ((256 : Nat) : Int) from rfl, e0, e0, e0]
  rw [u32_or_nat _ _ f1 f2, u32_or_nat _ _ e1 f3, u32_or_nat _ _ e2 f4, or3 a b c d hb hc hd]

/-! ## Text -/
theorem oct_is (a s : Nat) (ha : a < 4294967296) (hs : s ≤ 24) : wrap64 (Go.bits .and .u32 (shr .u32 (a : Int) (s : Int)) 255) = ((a / 2 ^ s % 256 : Nat) : Int) := by
  have e : shr .u32 (a : Int) (s : Int) = ((a / 2 ^ s : Nat) : Int) := by
    show (a : Int) / 2 ^ min (s : Int).toNat 32 = _
    rw [Int.toNat_natCast, Nat.min_eq_left (by omega)]
    push_cast
    rfl
  have hl : a / 2 ^ s < 4294967296 := Nat.lt_of_le_of_lt (Nat.div_le_self _ _) ha
  rw [e, show (255 : Int) = ((255 : Nat) : Int) from rfl, u32_and_nat _ _ hl (by omega), show (255 : Nat) = 2 ^ 8 - 1 from rfl, Nat.and_two_pow_sub_one_eq_mod]
  unfold wrap64
  omega
theorem itoa_dd (x : Nat) (h : x < 256) : strconv_Itoa.f (x : Int) = some (T (dd x)) := by
  unfold strconv_Itoa.f
  rw [if_pos (by omega), if_pos (by omega), Lib.itoa_nonneg, dec_dd x h]
  rfl
theorem text_step (k a n : Nat) (s : Nat) (l : List UInt8) (o : Nat) (ha : a < 4294967296) (hs : s ≤ 24) (hl : l.length ≤ 100) (ho : a / 2 ^ s % 256 = o) :
    prefix_Text.l0 (k + 1) (T l) (s : Int) (a : Int) (n : Int) = prefix_Text.l0 k (T (l ++ (dd o ++ [46]))) (wrap64 ((s : Int) - 8)) (a : Int) (n : Int) := by
  have h2 := dd_len o
  have h1 : o < 256 := by omega
  rw [prefix_Text.l0, if_pos (by omega), if_pos (by omega), oct_is a s ha hs, ho, itoa_dd o h1, Option.bind_some, T_dot, T_app, if_pos (by rw [T_size]; omega),
    if_pos (by simp only [T_size, List.length_append, List.length_cons, List.length_nil]; omega), T_app]
theorem text_end (k a n : Nat) (l : List UInt8) (hl : l.length ≤ 100) (hn : n < 256) :
    prefix_Text.l0 (k + 1) (T (l ++ [46])) (-8) (a : Int) (n : Int) = some (T (l ++ ([47] ++ dd n))) := by
  have h2 := dd_len n
  have e0 : Aside0 (wrap64 (((T (l ++ [46])).size : Int) - 1) = ((l.length : Nat) : Int)) := ⟨by rw [T_size, List.length_append]; unfold wrap64; simp only [List.length_cons, List.length_nil]; omega⟩
  have e1 : Aside0 (wrap64 (n : Int) = (n : Int)) := ⟨by unfold wrap64; omega⟩
  rw [prefix_Text.l0, if_neg (by omega), e0.out, e1.out, if_pos (by omega), if_pos (by rw [T_size, List.length_append]; omega), Int.toNat_natCast, T_ext, List.take_left, T_slash, T_app, if_pos (by rw [T_size]; omega), itoa_dd n hn, Option.bind_some,
    if_pos (by simp only [T_size, List.length_append, List.length_cons, List.length_nil]; omega), T_app, List.append_assoc]
theorem text_is (k a n : Nat) (ha : a < 4294967296) (hn : n < 256) (hk : 5 ≤ k) : prefix_Text.f k (a : Int) (n : Int) = some (T (txt (a / 16777216) (a / 65536 % 256) (a / 256 % 256) (a % 256) n)) := by
  obtain ⟨k, rfl⟩ : ∃ m, k = m + 1 + 1 + 1 + 1 + 1 := ⟨k - 5, by omega⟩
  have l1 := dd_len (a / 16777216)
  have l2 := dd_len (a / 65536 % 256)
  have l3 := dd_len (a / 256 % 256)
  have l4 := dd_len (a % 256)
  have w1 : Aside0 (wrap64 (((24 : Nat) : Int) - 8) = ((16 : Nat) : Int)) := ⟨by unfold wrap64; omega⟩
  have w2 : Aside0 (wrap64 (((16 : Nat) : Int) - 8) = ((8 : Nat) : Int)) := ⟨by unfold wrap64; omega⟩
  have w3 : Aside0 (wrap64 (((8 : Nat) : Int) - 8) = ((0 : Nat) : Int)) := ⟨by unfold wrap64; omega⟩
  have w4 : Aside0 (wrap64 (((0 : Nat) : Int) - 8) = (-8 : Int)) := ⟨by unfold wrap64; omega⟩
  unfold prefix_Text.f
  rw [T_nil, show (24 : Int) = ((24 : Nat) : Int) from rfl, text_step _ a n 24 [] (a / 16777216) ha (by omega) (by simp) (by rw [show (2 : Nat) ^ 24 = 16777216 from rfl]; omega), w1.out,
    text_step _ a n 16 _ (a / 65536 % 256) ha (by omega) (by simp only [List.length_append, List.length_cons, List.length_nil]; omega) rfl, w2.out,
    text_step _ a n 8 _ (a / 256 % 256) ha (by omega) (by simp only [List.length_append, List.length_cons, List.length_nil]; omega) rfl, w3.out,
    text_step _ a n 0 _ (a % 256) ha (by omega) (by simp only [List.length_append, List.length_cons, List.length_nil]; omega) (by rw [Nat.pow_zero, Nat.div_one]), w4.out]
  have := text_end k a n (dd (a / 16777216) ++ ([46] ++ (dd (a / 65536 % 256) ++ ([46] ++ (dd (a / 256 % 256) ++ ([46] ++ dd (a % 256))))))) (by simp only [List.length_append, List.length_cons, List.length_nil]; omega) hn
  unfold txt
  simp only [List.append_assoc, List.nil_append] at this ⊢
  exact this
theorem parse_is (a n : Nat) (ha : a < 4294967296) (hn : n ≤ 32) (h0 : a % lo n = 0) : prefix_Parse.f (T (txt (a / 16777216) (a / 65536 % 256) (a / 256 % 256) (a % 256) n)) = some ((a : Int), (n : Int), 0) := by
  unfold prefix_Parse.f
  rw [T_list, run_txt _ _ _ _ _ (by omega) (by omega) (by omega) (by omega) (by omega)]
  show prefix_Parse.fin _ 4 (dd n).length = _
  unfold prefix_Parse.fin
  have l5 := dd_len n
  rw [if_pos ⟨rfl, by omega⟩, addr_is _ _ _ _ _ (by omega) (by omega) (by omega) (by omega)]
  have e : ((a / 16777216 * 256 + a / 65536 % 256) * 256 + a / 256 % 256) * 256 + a % 256 = a := by omega
  rw [e]
  show (prefix_Right.f (a : Int) (n : Int)).bind _ = _
  rw [right_is a n ha (by omega), Option.bind_some, if_pos (decide_eq_true ⟨hn, h0⟩)]
  rfl
theorem awake_is (k : Nat) (hk : 5 ≤ k) : milestonelaw01_awake.f k = some true := by
  have h := of_is 167838211 16 (by omega) (by omega)
  have e : ofN 167838211 (min 16 32) = 167837696 := by decide
  rw [e] at h
  unfold milestonelaw01_awake.f
  have h2 : prefix_Of.f 167838211 16 = some (((167837696 : Nat) : Int), ((16 : Nat) : Int)) := h
  rw [h2, Option.bind_some, text_is k 167837696 16 (by omega) (by omega) hk, Option.bind_some]
  refine congrArg some ?_
  decide +kernel
theorem PrefixTexts : milestonelaw01_PrefixTexts.Pure := by
  intro a n h0 h1
  have h0 := Go.bounds_u32 h0
  have h1 := Go.bounds_u8 h1
  obtain ⟨a, rfl⟩ := Int.eq_ofNat_of_zero_le h0.1
  obtain ⟨n, rfl⟩ := Int.eq_ofNat_of_zero_le h1.1
  have ha : a < 4294967296 := by omega
  have hq : ofN a (min n 32) < 4294967296 := Nat.lt_of_le_of_lt (ofN_le _ _) ha
  refine ⟨100, ?_⟩
  unfold milestonelaw01_PrefixTexts.f
  rw [rof_is 100 a n ha (by omega) (by omega), Option.bind_some, text_is 100 _ _ hq (by omega) (by omega), Option.bind_some, parse_is _ _ hq (by omega) (ofN_mod a (min n 32)), Option.bind_some, awake_is 100 (by omega), Option.bind_some, if_pos rfl,
    rtext_is 100 _ _ hq (by omega) (by omega), Option.bind_some, if_pos rfl, if_pos rfl, beq_self_eq_true, beq_self_eq_true]
  rfl

end Go.Proofs.YtfjdijphpcddnaaDoor.Pure
