/- Any text is read by prefix.Parse as a prefix of which it is the text, or refused with ErrForm.
For every input; no condition is added to the given statement. -/
import Derived.Test.YtfjdijphpcddnaaDoorQPrefixParsesx3
import Derived.Laws.BitsAllLaws
import Derived.OpenShut
import Derived.Lib.Bytes
namespace Go.Proofs.YtfjdijphpcddnaaDoor.Pure
open Go.RowKit Go.Proofs.YtfjdijphpcddnaaDoor.QPrefixParses Go.Proofs.YtfjdijphpcddnaaDoorW.PrintWords Go.Proofs.YtfjdijphpcddnaaDoorW.PrintLast Go.Proofs.YtfjdijphpcddnaaDoorW.PrintMore
set_option linter.unusedSimpArgs false
set_option linter.unusedVariables false

/-! ## addresses as natural numbers -/
theorem u32w (n : Nat) (h : n < 4294967296) : (n : Int) % 4294967296 = (n : Int) := by omega
/-- how many bits are left behind the first n -/
def lo (n : Nat) : Nat := 2 ^ (32 - n)
theorem lo_pos (n : Nat) : 0 < lo n := Nat.two_pow_pos _
theorem lo_step (n : Nat) (h : n < 32) : lo n = lo (n + 1) * 2 := by
  unfold lo
  rw [show 32 - n = (32 - (n + 1)) + 1 by omega, Nat.pow_succ]
theorem lo_0 : lo 0 = 4294967296 := by decide
theorem lo_32 : lo 32 = 1 := by decide
theorem lo_le (n : Nat) : lo n ≤ 4294967296 := by
  have : lo n ≤ 2 ^ 32 := Nat.pow_le_pow_right (by omega) (by omega)
  omega
/-- the first n bits -/
def hi (a n : Nat) : Nat := a / lo n
def ofN (a n : Nat) : Nat := hi a n * lo n
def bitN (a i : Nat) : Bool := decide (a / 2 ^ (31 - i) % 2 = 1)
theorem hi_step (a n : Nat) (h : n < 32) : hi a (n + 1) = 2 * hi a n + (if bitN a n = true then 1 else 0) := by
  unfold hi bitN
  have e : lo (n + 1) = 2 ^ (31 - n) := by unfold lo; rw [show 32 - (n + 1) = 31 - n by omega]
  rw [lo_step n h, e, ← Nat.div_div_eq_div_mul]
  generalize a / 2 ^ (31 - n) = z
  by_cases hz : z % 2 = 1
  · rw [decide_eq_true hz, if_pos rfl]; omega
  · rw [decide_eq_false hz, if_neg (by decide)]; omega
theorem hi_0 (a : Nat) (h : a < 4294967296) : hi a 0 = 0 := by
  unfold hi
  rw [lo_0]
  omega
theorem hi_32 (a : Nat) : hi a 32 = a := by
  unfold hi
  rw [lo_32, Nat.div_one]
theorem hi_lt (a n : Nat) (h : a < 4294967296) (hn : n ≤ 32) : hi a n < 2 ^ n := by
  unfold hi lo
  rw [Nat.div_lt_iff_lt_mul (Nat.two_pow_pos _), ← Nat.pow_add, show n + (32 - n) = 32 by omega]
  omega
theorem ofN_eq (a n : Nat) : ofN a n = a - a % lo n := by
  unfold ofN hi
  have := Nat.div_add_mod a (lo n)
  rw [Nat.mul_comm] at this
  omega
theorem ofN_le (a n : Nat) : ofN a n ≤ a := by rw [ofN_eq]; omega
theorem hi_ofN (a n : Nat) : hi (ofN a n) n = hi a n := by
  unfold ofN
  rw [show hi (hi a n * lo n) n = hi a n * lo n / lo n from rfl, Nat.mul_div_cancel _ (lo_pos n)]
theorem ofN_mod (a n : Nat) : ofN a n % lo n = 0 := by
  unfold ofN
  exact Nat.mul_mod_left _ _
def maskN (n : Nat) : Nat := if n = 0 ∨ 32 < n then 0 else 4294967296 - lo n
theorem mask_is (n : Nat) (h : n < 256) : prefix_mask.f (n : Int) = some ((maskN n : Nat) : Int) := by
  have : ∀ n, n < 256 → prefix_mask.f ((n : Nat) : Int) = some ((maskN n : Nat) : Int) := by decide +kernel
  exact this n h
theorem maskN_lt (n : Nat) : maskN n < 4294967296 := by
  unfold maskN
  have := lo_pos n
  split <;> omega
theorem and_mask (a n : Nat) (ha : a < 4294967296) (hn : n ≤ 32) : a &&& maskN n = ofN a n := by
  by_cases h0 : n = 0
  · subst h0
    rw [show maskN 0 = 0 from rfl, Nat.and_zero]
    unfold ofN
    rw [hi_0 a ha, Nat.zero_mul]
  · have e : maskN n = 2 ^ (32 - n) * (2 ^ n - 1) := by
      unfold maskN lo
      rw [if_neg (by omega), Nat.mul_sub, ← Nat.pow_add, show 32 - n + n = 32 by omega, Nat.mul_one]
    have e2 : ofN a n = 2 ^ (32 - n) * (a / 2 ^ (32 - n)) := by
      unfold ofN hi lo
      rw [Nat.mul_comm]
    rw [e, e2]
    apply Nat.eq_of_testBit_eq
    intro i
    rw [Nat.testBit_and, Nat.testBit_two_pow_mul, Nat.testBit_two_pow_mul, Nat.testBit_two_pow_sub_one]
    by_cases hi' : 32 - n ≤ i
    · rw [Nat.testBit_div_two_pow, show i - (32 - n) + (32 - n) = i by omega]
      by_cases hlt : i - (32 - n) < n
      · simp [hi', hlt]
      · have : a.testBit i = false := Nat.testBit_lt_two_pow (Nat.lt_of_lt_of_le ha (by
          rw [show (4294967296 : Nat) = 2 ^ 32 from rfl]
          exact Nat.pow_le_pow_right (by omega) (by omega)))
        simp [this]
    · simp [hi']
theorem bits_mask (a n : Nat) (ha : a < 4294967296) (hn : n ≤ 32) : Go.bits .and .u32 (a : Int) ((maskN n : Nat) : Int) = ((ofN a n : Nat) : Int) := by
  rw [u32_and_nat a _ ha (maskN_lt n), and_mask a n ha hn]
theorem not_mask (n : Nat) (hn : n ≤ 32) : 4294967295 - maskN n = 2 ^ (32 - n) - 1 := by
  unfold maskN lo
  have hp : 0 < 2 ^ (32 - n) := Nat.two_pow_pos _
  have hle : 2 ^ (32 - n) ≤ 4294967296 := Nat.pow_le_pow_right (n := 2) (by omega) (show 32 - n ≤ 32 by omega)
  by_cases h0 : n = 0
  · subst h0; rfl
  · rw [if_neg (by omega)]
    omega
theorem bits_not (a n : Nat) (ha : a < 4294967296) (hn : n ≤ 32) : Go.bits .andNot .u32 (a : Int) ((maskN n : Nat) : Int) = ((a % lo n : Nat) : Int) := by
  rw [u32_andNot_nat a _ ha (maskN_lt n), not_mask n hn, Nat.and_two_pow_sub_one_eq_mod]
  rfl
theorem of_is (a n : Nat) (ha : a < 4294967296) (hn : n < 256) : prefix_Of.f (a : Int) (n : Int) = some (((ofN a (min n 32) : Nat) : Int), ((min n 32 : Nat) : Int)) := by
  unfold prefix_Of.f
  have e : mn (n : Int) 32 = ((min n 32 : Nat) : Int) := by unfold mn; split <;> omega
  rw [e, mask_is _ (by omega), Option.bind_some, bits_mask a _ ha (by omega)]
theorem rbit_loop (d : Nat) : ∀ (k x i : Nat), i + d = 31 → x < 4294967296 → d < k → milestoneref01_Bit.l0 k (x : Int) (i : Int) = some (decide (x / 2 ^ d % 2 = 1)) := by
  induction d with
  | zero =>
    intro k x i hi hx hk
    obtain ⟨k, rfl⟩ : ∃ m, k = m + 1 := ⟨k - 1, by omega⟩
    rw [milestoneref01_Bit.l0, if_neg (by omega), Int.tmod_eq_emod_of_nonneg (Int.natCast_nonneg _), Nat.pow_zero, Nat.div_one]
    refine congrArg some ?_
    by_cases h : x % 2 = 1
    · rw [decide_eq_true h]
      exact beq_iff_eq.2 (by omega)
    · rw [decide_eq_false h]
      exact beq_eq_false_iff_ne.2 (by omega)
  | succ d ih =>
    intro k x i hi hx hk
    obtain ⟨k, rfl⟩ : ∃ m, k = m + 1 := ⟨k - 1, by omega⟩
    have e1 : Aside0 (wrap64 ((i : Int) + 1) = ((i + 1 : Nat) : Int)) := ⟨by unfold wrap64; omega⟩
    have e2 : Aside0 ((Int.tdiv (x : Int) 2) % 4294967296 = ((x / 2 : Nat) : Int)) := ⟨by rw [Int.tdiv_eq_ediv_of_nonneg (Int.natCast_nonneg _)]; omega⟩
    have key := ih k (x / 2) (i + 1) (by omega) (by omega) (by omega)
    rw [milestoneref01_Bit.l0, if_pos (by omega), e1.out, e2.out, key, Nat.div_div_eq_div_mul, Nat.pow_succ, Nat.mul_comm 2]
theorem rbit_is (k a i : Nat) (ha : a < 4294967296) (hi : i < 32) (hk : 32 < k) : milestoneref01_Bit.f k (a : Int) (i : Int) = some (bitN a i) := by
  unfold milestoneref01_Bit.f
  exact rbit_loop (31 - i) k a i (by omega) ha (by omega)
theorem rof_loop (a n : Nat) (ha : a < 4294967296) (hn : n ≤ 32) (d : Nat) : ∀ (k i : Nat), i + d = 32 → 40 + d < k →
    milestoneref01_Of.l0 k (a : Int) (n : Int) ((hi a (min i n) * 2 ^ (i - n) : Nat) : Int) (i : Int) = some (((ofN a n : Nat) : Int), (n : Int)) := by
  induction d with
  | zero =>
    intro k i hi' hk
    obtain ⟨k, rfl⟩ : ∃ m, k = m + 1 := ⟨k - 1, by omega⟩
    have e : i = 32 := by omega
    subst e
    rw [milestoneref01_Of.l0, if_neg (by omega), Nat.min_eq_right hn]
    rfl
  | succ d ih =>
    intro k i hi' hk
    obtain ⟨k, rfl⟩ : ∃ m, k = m + 1 := ⟨k - 1, by omega⟩
    have e1 : Aside0 (wrap64 ((i : Int) + 1) = ((i + 1 : Nat) : Int)) := ⟨by unfold wrap64; omega⟩
    have e2 : Aside0 (wrap64 (n : Int) = (n : Int)) := ⟨by unfold wrap64; omega⟩
    have key := ih k (i + 1) (by omega) (by omega)
    have ht : (i : Int) < 32 := by omega
    rw [milestoneref01_Of.l0, if_pos ht, e1.out, e2.out]
    by_cases hlt : i < n
    · have hs := hi_step a i (by omega)
      have hl := hi_lt a (i + 1) ha (by omega)
      have hp : 2 ^ (i + 1) ≤ 4294967296 := Nat.pow_le_pow_right (n := 2) (by omega) (show i + 1 ≤ 32 by omega)
      rw [Nat.min_eq_left (by omega), show i + 1 - n = 0 by omega, Nat.pow_zero, Nat.mul_one] at key
      have ht2 : (i : Int) < (n : Int) := by omega
      rw [if_pos ht2, rbit_is k a i ha (by omega) (by omega), Option.bind_some, Nat.min_eq_left (by omega), show i - n = 0 by omega, Nat.pow_zero, Nat.mul_one]
      by_cases hb : bitN a i = true
      · rw [if_pos hb] at hs
        have e3 : (((hi a i : Nat) : Int) * 2 + 1) % 4294967296 = ((hi a (i + 1) : Nat) : Int) := by omega
        rw [if_pos hb, e3]
        exact key
      · rw [if_neg hb] at hs
        have e3 : (((hi a i : Nat) : Int) * 2) % 4294967296 = ((hi a (i + 1) : Nat) : Int) := by omega
        rw [if_neg hb, e3]
        exact key
    · have ht2 : ¬ (i : Int) < (n : Int) := by omega
      have hl := hi_lt a n ha hn
      have hq : hi a n * 2 ^ (i - n) * 2 < 4294967296 := by
        have h1 : hi a n * 2 ^ (i - n) * 2 = hi a n * 2 ^ (i + 1 - n) := by rw [show i + 1 - n = i - n + 1 by omega, Nat.pow_succ, Nat.mul_assoc]
        have h2 : hi a n * 2 ^ (i + 1 - n) < 2 ^ n * 2 ^ (i + 1 - n) := Nat.mul_lt_mul_of_pos_right hl (Nat.two_pow_pos _)
        have h3 : 2 ^ n * 2 ^ (i + 1 - n) ≤ 2 ^ 32 := by
          rw [← Nat.pow_add]
          exact Nat.pow_le_pow_right (by omega) (by omega)
        rw [h1]
        exact Nat.lt_of_lt_of_le h2 h3
      have h1 : hi a n * 2 ^ (i + 1 - n) = hi a n * 2 ^ (i - n) * 2 := by rw [show i + 1 - n = i - n + 1 by omega, Nat.pow_succ, Nat.mul_assoc]
      rw [Nat.min_eq_right (by omega), h1] at key
      rw [if_neg ht2, Nat.min_eq_right (by omega)]
      generalize hi a n * 2 ^ (i - n) = z at key hq ⊢
      have e3 : ((z : Int) * 2) % 4294967296 = ((z * 2 : Nat) : Int) := by omega
      rw [e3]
      exact key
theorem rof_is (k a n : Nat) (ha : a < 4294967296) (hn : n < 256) (hk : 80 < k) : milestoneref01_Of.f k (a : Int) (n : Int) = some (((ofN a (min n 32) : Nat) : Int), ((min n 32 : Nat) : Int)) := by
  obtain ⟨k, rfl⟩ : ∃ m, k = m + 1 := ⟨k - 1, by omega⟩
  have key := rof_loop a (min n 32) ha (by omega) 32 k 0 (by omega) (by omega)
  rw [Nat.zero_min, hi_0 a ha, Nat.zero_mul] at key
  unfold milestoneref01_Of.f
  by_cases h : n > 32
  · rw [Nat.min_eq_right (by omega)] at key ⊢
    rw [if_pos (by omega), milestoneref01_Of.j0]
    exact key
  · rw [Nat.min_eq_left (by omega)] at key ⊢
    rw [if_neg (by omega), milestoneref01_Of.j0]
    exact key

/-! ## which may be -/
theorem right_is (a n : Nat) (ha : a < 4294967296) (hn : n < 256) : prefix_Right.f (a : Int) (n : Int) = some (decide (n ≤ 32 ∧ a % lo n = 0)) := by
  unfold prefix_Right.f
  by_cases h : n ≤ 32
  · rw [if_pos (by omega), mask_is n hn, Option.bind_some, bits_not a n ha h]
    refine congrArg some ?_
    by_cases h2 : a % lo n = 0
    · rw [decide_eq_true ⟨h, h2⟩]
      exact beq_iff_eq.2 (by omega)
    · rw [decide_eq_false (fun q => h2 q.2)]
      exact beq_eq_false_iff_ne.2 (by omega)
  · rw [if_neg (by omega), decide_eq_false (fun q => h q.1)]
theorem mod_step (a n : Nat) (h : n < 32) : a % lo n = 0 ↔ (bitN a n = false ∧ a % lo (n + 1) = 0) := by
  have e : lo (n + 1) = 2 ^ (31 - n) := by unfold lo; rw [show 32 - (n + 1) = 31 - n by omega]
  unfold bitN
  rw [decide_eq_false_iff_not, lo_step n h, e, Nat.mod_mul]
  have hp : 0 < 2 ^ (31 - n) := Nat.two_pow_pos _
  have hz : a / 2 ^ (31 - n) % 2 < 2 := Nat.mod_lt _ (by omega)
  generalize a / 2 ^ (31 - n) % 2 = z at hz ⊢
  generalize a % 2 ^ (31 - n) = y
  constructor
  · intro hh
    have h1 : y = 0 := by omega
    have h2 : 2 ^ (31 - n) * z = 0 := by omega
    rcases Nat.mul_eq_zero.1 h2 with h3 | h3
    · omega
    · exact ⟨by omega, h1⟩
  · intro ⟨h1, h2⟩
    have h3 : z = 0 := by omega
    rw [h2, h3, Nat.mul_zero]
theorem rright_loop (a n : Nat) (ha : a < 4294967296) (d : Nat) : ∀ (k i : Nat), i + d = 32 → 40 + d < k →
    milestoneref01_Right.l0 k (i : Int) (a : Int) (n : Int) = some (decide (a % lo i = 0)) := by
  induction d with
  | zero =>
    intro k i hi' hk
    obtain ⟨k, rfl⟩ : ∃ m, k = m + 1 := ⟨k - 1, by omega⟩
    have e : i = 32 := by omega
    subst e
    rw [milestoneref01_Right.l0, if_neg (by omega), lo_32, Nat.mod_one, decide_eq_true rfl]
  | succ d ih =>
    intro k i hi' hk
    obtain ⟨k, rfl⟩ : ∃ m, k = m + 1 := ⟨k - 1, by omega⟩
    have e1 : Aside0 (wrap64 ((i : Int) + 1) = ((i + 1 : Nat) : Int)) := ⟨by unfold wrap64; omega⟩
    have key := ih k (i + 1) (by omega) (by omega)
    have ht : (i : Int) < 32 := by omega
    have hm := mod_step a i (by omega)
    rw [milestoneref01_Right.l0, if_pos ht, rbit_is k a i ha (by omega) (by omega), Option.bind_some, e1.out, key]
    by_cases hb : bitN a i = true
    · rw [if_pos hb, decide_eq_false (fun q => by rw [hb] at hm; exact absurd (hm.1 q).1 (by decide))]
    · rw [if_neg hb]
      refine congrArg some ?_
      rw [decide_eq_decide]
      exact ⟨fun q => hm.2 ⟨eq_false_of_ne_true hb, q⟩, fun q => (hm.1 q).2⟩
theorem rright_is (k a n : Nat) (ha : a < 4294967296) (hn : n < 256) (hk : 80 < k) : milestoneref01_Right.f k (a : Int) (n : Int) = some (decide (n ≤ 32 ∧ a % lo n = 0)) := by
  have e1 : Aside0 (wrap64 (n : Int) = (n : Int)) := ⟨by unfold wrap64; omega⟩
  unfold milestoneref01_Right.f
  rw [e1.out]
  by_cases h : n ≤ 32
  · rw [if_neg (by omega), rright_loop a n ha (32 - n) k n (by omega) (by omega)]
    refine congrArg some ?_
    rw [decide_eq_decide]
    exact ⟨fun q => ⟨h, q⟩, fun q => q.2⟩
  · rw [if_pos (by omega), decide_eq_false (fun q => h q.1)]

/-! ## a prefix as a text -/
def T (l : List UInt8) : ByteArray := ⟨l.toArray⟩
theorem T_app (l m : List UInt8) : T l ++ T m = T (l ++ m) := by
  unfold T
  apply ByteArray.ext
  simp
theorem T_size (l : List UInt8) : (T l).size = l.length := by
  show l.toArray.size = l.length
  simp
theorem T_ext (l : List UInt8) (n : Nat) : (T l).extract 0 n = T (l.take n) := by
  unfold T
  apply ByteArray.ext
  simp [List.extract_eq_take_drop]
theorem T_list (l : List UInt8) : (T l).data.toList = l := by
  unfold T
  simp
theorem T_dot : (⟨#[46]⟩ : ByteArray) = T [46] := rfl
theorem T_slash : (⟨#[47]⟩ : ByteArray) = T [47] := rfl
theorem T_nil : (⟨#[]⟩ : ByteArray) = T [] := rfl
/-- the digits of a number below 256 -/
def dd (x : Nat) : List UInt8 := if x < 10 then [UInt8.ofNat (48 + x)] else if x < 100 then [UInt8.ofNat (48 + x / 10), UInt8.ofNat (48 + x % 10)] else [UInt8.ofNat (48 + x / 100), UInt8.ofNat (48 + x / 10 % 10), UInt8.ofNat (48 + x % 10)]
theorem dd_len (x : Nat) : 1 ≤ (dd x).length ∧ (dd x).length ≤ 3 := by
  unfold dd
  repeat' split
  all_goals simp
theorem dec_dd (x : Nat) (h : x < 256) : Lib.decDigits x = dd x := by
  unfold dd
  by_cases h1 : x < 10
  · rw [if_pos h1, Lib.decDigits_one h1]
  · rw [if_neg h1]
    by_cases h2 : x < 100
    · rw [if_pos h2, Lib.decDigits_two h1 h2]
    · rw [if_neg h2, Lib.decDigits, dif_neg h1, Lib.decDigits_two (by omega) (by omega), Nat.div_div_eq_div_mul]
      rfl
theorem num_dd (x : Nat) (h : x < 256) : (milestoneref01_num.f 4 (x : Int)).map (fun b => b.data.toList) = some (dd x) := by
  have : ∀ x, x < 256 → (milestoneref01_num.f 4 ((x : Nat) : Int)).map (fun b => b.data.toList) = some (dd x) := by decide +kernel
  exact this x h
theorem num_is (k x : Nat) (h : x < 256) (hk : 4 ≤ k) : milestoneref01_num.f k (x : Int) = some (T (dd x)) := by
  have h4 := num_dd x h
  cases h5 : milestoneref01_num.f 4 (x : Int) with
  | none => rw [h5] at h4; cases h4
  | some b =>
    rw [h5] at h4
    have e : b.data.toList = dd x := Option.some.inj h4
    have eb : b = T (dd x) := by
      unfold T
      rw [← e]
    rw [← eb]
    exact at_rounds (fun k => milestoneref01_num.mono (x : Int) k) hk h5
/-- the text of four octets and a length -/
def txt (a b c d n : Nat) : List UInt8 := dd a ++ ([46] ++ (dd b ++ ([46] ++ (dd c ++ ([46] ++ (dd d ++ ([47] ++ dd n)))))))
theorem rtext_is (k a n : Nat) (ha : a < 4294967296) (hn : n < 256) (hk : 4 ≤ k) : milestoneref01_Text.f k (a : Int) (n : Int) = some (T (txt (a / 16777216) (a / 65536 % 256) (a / 256 % 256) (a % 256) n)) := by
  have e1 : Aside0 ((Int.tdiv (a : Int) 16777216) % 4294967296 = ((a / 16777216 : Nat) : Int)) := ⟨by rw [Int.tdiv_eq_ediv_of_nonneg (Int.natCast_nonneg _)]; omega⟩
  have e2 : Aside0 (Int.tmod (IntKind.u32.wrap (Int.tdiv (a : Int) 65536)) 256 = ((a / 65536 % 256 : Nat) : Int)) := ⟨by
    have : IntKind.u32.wrap (Int.tdiv (a : Int) 65536) = ((a / 65536 : Nat) : Int) := by
      rw [Int.tdiv_eq_ediv_of_nonneg (Int.natCast_nonneg _)]
      show (_ % 4294967296 : Int) = _
      omega
    rw [this, Int.tmod_eq_emod_of_nonneg (Int.natCast_nonneg _)]
    omega⟩
  have e3 : Aside0 (Int.tmod (IntKind.u32.wrap (Int.tdiv (a : Int) 256)) 256 = ((a / 256 % 256 : Nat) : Int)) := ⟨by
    have : IntKind.u32.wrap (Int.tdiv (a : Int) 256) = ((a / 256 : Nat) : Int) := by
      rw [Int.tdiv_eq_ediv_of_nonneg (Int.natCast_nonneg _)]
      show (_ % 4294967296 : Int) = _
      omega
    rw [this, Int.tmod_eq_emod_of_nonneg (Int.natCast_nonneg _)]
    omega⟩
  have e4 : Aside0 (Int.tmod (a : Int) 256 = ((a % 256 : Nat) : Int)) := ⟨by rw [Int.tmod_eq_emod_of_nonneg (Int.natCast_nonneg _)]; omega⟩
  have e5 : Aside0 (((n : Int)) % 4294967296 = (n : Int)) := ⟨by omega⟩
  have l1 := dd_len (a / 16777216)
  have l2 := dd_len (a / 65536 % 256)
  have l3 := dd_len (a / 256 % 256)
  have l4 := dd_len (a % 256)
  have l5 := dd_len n
  have h1 : a / 16777216 < 256 := by omega
  have h2 : a / 65536 % 256 < 256 := by omega
  have h3 : a / 256 % 256 < 256 := by omega
  have h4 : a % 256 < 256 := by omega
  unfold milestoneref01_Text.f
  rw [e1.out, e2.out, e3.out, e4.out, e5.out]
  generalize a / 16777216 = x1 at *
  generalize a / 65536 % 256 = x2 at *
  generalize a / 256 % 256 = x3 at *
  generalize a % 256 = x4 at *
  rw [num_is k x1 h1 hk, Option.bind_some, T_dot, T_slash, if_pos (by rw [T_size]; omega), num_is k x2 h2 hk, Option.bind_some, T_app,
    if_pos (by simp only [T_size, List.length_append, List.length_cons, List.length_nil]; omega), T_app,
    if_pos (by simp only [T_size, List.length_append, List.length_cons, List.length_nil]; omega), num_is k x3 h3 hk, Option.bind_some, T_app,
    if_pos (by simp only [T_size, List.length_append, List.length_cons, List.length_nil]; omega), T_app,
    if_pos (by simp only [T_size, List.length_append, List.length_cons, List.length_nil]; omega), num_is k x4 h4 hk, Option.bind_some, T_app,
    if_pos (by simp only [T_size, List.length_append, List.length_cons, List.length_nil]; omega), T_app,
    if_pos (by simp only [T_size, List.length_append, List.length_cons, List.length_nil]; omega), num_is k n hn hk, Option.bind_some, T_app,
    if_pos (by simp only [T_size, List.length_append, List.length_cons, List.length_nil]; omega), T_app]
  refine congrArg (fun l => some (T l)) ?_
  unfold txt
  simp only [List.append_assoc]
/-! ## a text read -/
theorem run_cons {c : UInt8} {l : List UInt8} {n : List Int} {a d : Nat} {x : List Int × Nat × Nat} (hc : c.toNat < 128) (hs : prefix_Parse.step n a d c.toNat = some x) : prefix_Parse.run (c :: l) n a d = prefix_Parse.run l x.1 x.2.1 x.2.2 := by
  rw [prefix_Parse.run, if_neg (by omega), hs]
  rfl
theorem dig_nat (x : Nat) (h : x < 10) : (UInt8.ofNat (48 + x)).toNat = 48 + x := by
  rw [UInt8.toNat_ofNat']
  omega
theorem getD_set (n : List Int) (a : Nat) (v : Int) (h : a < n.length) : (n.set a v).getD a 0 = v := by
  rw [List.getD_eq_getElem?_getD, List.getElem?_set_self h]
  rfl
/-- one digit more -/
theorem run_dig {l : List UInt8} {n : List Int} {a d x : Nat} {m : Nat} (hx : x < 10) (hd : d < 3) (hm : n.getD a 0 = (m : Int)) (h0 : ¬ (0 < d ∧ m = 0)) (h255 : 10 * m + x ≤ 255) : prefix_Parse.run (UInt8.ofNat (48 + x) :: l) n a d = prefix_Parse.run l (n.set a ((10 * m + x : Nat) : Int)) a (d + 1) := by
  have e := dig_nat x hx
  have hs := prefix_Parse.step_dig (n := n) (a := a) (d := d) (c := 48 + x) ⟨by omega, by omega, hd, by rw [hm]; omega⟩ (by rw [hm]; omega)
  rw [run_cons (by omega) (by rw [e]; exact hs), hm]
  have e2 : 10 * (m : Int) + (((48 + x : Nat) : Int) - 48) = ((10 * m + x : Nat) : Int) := by omega
  rw [e2]
theorem run_dd (x : Nat) (hx : x < 256) (l : List UInt8) (n : List Int) (a : Nat) (ha : a < n.length) (h0 : n.getD a 0 = 0) : prefix_Parse.run (dd x ++ l) n a 0 = prefix_Parse.run l (n.set a (x : Int)) a (dd x).length := by
  unfold dd
  by_cases h1 : x < 10
  · rw [if_pos h1]
    show prefix_Parse.run (UInt8.ofNat (48 + x) :: l) n a 0 = _
    rw [run_dig (m := 0) h1 (by omega) h0 (by omega) (by omega)]
    rw [show 10 * 0 + x = x by omega]
    rfl
  · rw [if_neg h1]
    by_cases h2 : x < 100
    · rw [if_pos h2]
      show prefix_Parse.run (UInt8.ofNat (48 + x / 10) :: UInt8.ofNat (48 + x % 10) :: l) n a 0 = _
      rw [run_dig (m := 0) (by omega) (by omega) h0 (by omega) (by omega), run_dig (m := x / 10) (by omega) (by omega) (by rw [getD_set _ _ _ ha]; omega) (by omega) (by omega), List.set_set]
      rw [show 10 * (x / 10) + x % 10 = x by omega]
      rfl
    · rw [if_neg h2]
      show prefix_Parse.run (UInt8.ofNat (48 + x / 100) :: UInt8.ofNat (48 + x / 10 % 10) :: UInt8.ofNat (48 + x % 10) :: l) n a 0 = _
      rw [run_dig (m := 0) (by omega) (by omega) h0 (by omega) (by omega), run_dig (m := x / 100) (by omega) (by omega) (by rw [getD_set _ _ _ ha]; omega) (by omega) (by omega), List.set_set,
        run_dig (m := x / 10) (by omega) (by omega) (by rw [getD_set _ _ _ ha]; omega) (by omega) (by omega), List.set_set]
      rw [show 10 * (x / 10) + x % 10 = x by omega]
      rfl
theorem run_dot (l : List UInt8) (n : List Int) (a d : Nat) (ha : a < 3) (hd : 0 < d) : prefix_Parse.run ([46] ++ l) n a d = prefix_Parse.run l n (a + 1) 0 := by
  have e : (46 : UInt8).toNat = 46 := rfl
  show prefix_Parse.run (46 :: l) n a d = _
  rw [run_cons (by omega) (by rw [e]; exact prefix_Parse.step_sep (by omega) hd (by omega))]
theorem run_slash (l : List UInt8) (n : List Int) (d : Nat) (hd : 0 < d) : prefix_Parse.run ([47] ++ l) n 3 d = prefix_Parse.run l n 4 0 := by
  have e : (47 : UInt8).toNat = 47 := rfl
  show prefix_Parse.run (47 :: l) n 3 d = _
  rw [run_cons (by omega) (by rw [e]; exact prefix_Parse.step_sep (by omega) hd (by omega))]
theorem run_txt (a b c d n : Nat) (ha : a < 256) (hb : b < 256) (hc : c < 256) (hd : d < 256) (hn : n < 256) : prefix_Parse.run (txt a b c d n) [0, 0, 0, 0, 0] 0 0 = some ([(a : Int), b, c, d, n], 4, (dd n).length) := by
  have l1 := dd_len a
  have l2 := dd_len b
  have l3 := dd_len c
  have l4 := dd_len d
  unfold txt
  rw [run_dd a ha _ _ 0 (by simp) rfl, run_dot _ _ _ _ (by omega) (by omega), run_dd b hb _ _ 1 (by simp) rfl, run_dot _ _ _ _ (by omega) (by omega), run_dd c hc _ _ 2 (by simp) rfl, run_dot _ _ _ _ (by omega) (by omega),
    run_dd d hd _ _ 3 (by simp) rfl, run_slash _ _ _ (by omega)]
  have := run_dd n hn [] ([(a : Int), b, c, d, 0]) 4 (by simp) rfl
  rw [List.append_nil] at this
  exact this
theorem or_add (a b p i : Nat) (hp : p = 2 ^ i) (h : b < p) : a * p ||| b = a * p + b := by
  subst hp
  rw [Nat.mul_comm, Nat.two_pow_add_eq_or_of_lt h]
theorem or3 (a b c d : Nat) (hb : b < 256) (hc : c < 256) (hd : d < 256) : ((a * 16777216 ||| b * 65536) ||| c * 256) ||| d = ((a * 256 + b) * 256 + c) * 256 + d := by
  have e1 : ∀ a b : Nat, a * 16777216 + b * 65536 = (a * 256 + b) * 65536 := fun a b => by omega
  have e2 : ∀ z c : Nat, z * 65536 + c * 256 = (z * 256 + c) * 256 := fun z c => by omega
  rw [or_add a (b * 65536) 16777216 24 rfl (by clear e1 e2; omega), e1, or_add (a * 256 + b) (c * 256) 65536 16 rfl (by clear e1 e2; omega), e2, or_add ((a * 256 + b) * 256 + c) d 256 8 rfl hd]
theorem addr_is (a b c d : Nat) (n : Int) (ha : a < 256) (hb : b < 256) (hc : c < 256) (hd : d < 256) : prefix_Parse.addr [(a : Int), b, c, d, n] = (((a * 256 + b) * 256 + c) * 256 + d : Nat) := by
  unfold prefix_Parse.addr
  show Go.bits .or .u32 (Go.bits .or .u32 (Go.bits .or .u32 ((a : Int) * 16777216) ((b : Int) * 65536)) ((c : Int) * 256)) (d : Int) = _
  have g1 : ∀ a : Nat, a < 256 → a * 16777216 < 2 ^ 32 := fun a h => by omega
  have g2 : ∀ a : Nat, a < 256 → a * 65536 < 2 ^ 32 := fun a h => by clear g1; omega
  have g3 : ∀ a : Nat, a < 256 → a * 256 < 2 ^ 32 := fun a h => by clear g1 g2; omega
  have g4 : ∀ a : Nat, a < 256 → a < 2 ^ 32 := fun a h => by clear g1 g2 g3; omega
  have e0 : ∀ x y : Nat, (x : Int) * (y : Int) = ((x * y : Nat) : Int) := fun x y => (Int.natCast_mul x y).symm
  have e1 : a * 16777216 ||| b * 65536 < 2 ^ 32 := Nat.or_lt_two_pow (g1 a ha) (g2 b hb)
  have e2 : (a * 16777216 ||| b * 65536) ||| c * 256 < 2 ^ 32 := Nat.or_lt_two_pow e1 (g3 c hc)
  have f1 : a * 16777216 < 2 ^ 32 := g1 a ha
  have f2 : b * 65536 < 2 ^ 32 := g2 b hb
  have f3 : c * 256 < 2 ^ 32 := g3 c hc
  have f4 : d < 2 ^ 32 := g4 d hd
  rw [show (16777216 : Int) = ((16777216 : Nat) : Int) from rfl, show (65536 : Int) = ((65536 : Nat) : Int) from rfl, show (256 : Int) = ((256 : Nat) : Int) from rfl, e0, e0, e0]
  rw [u32_or_nat _ _ f1 f2, u32_or_nat _ _ e1 f3, u32_or_nat _ _ e2 f4, or3 a b c d hb hc hd]

/-! ## what a text is read as has just that text -/
def vN (n : List Int) (i : Nat) : Nat := (n.getD i 0).toNat
def sepN (a : Nat) : UInt8 := if a < 3 then 46 else 47
def headN (n : List Int) : Nat → List UInt8
  | 0 => []
  | a + 1 => headN n a ++ (dd (vN n a) ++ [sepN a])
theorem headN_congr (n m : List Int) : ∀ a, (∀ i, i < a → n.getD i 0 = m.getD i 0) → headN n a = headN m a
  | 0, _ => rfl
  | a + 1, h => by
    unfold headN
    rw [headN_congr n m a (fun i hi => h i (by omega))]
    unfold vN
    rw [h a (by omega)]
def InvP (l : List UInt8) (n : List Int) (a d : Nat) : Prop :=
  prefix_Parse.ok n a d ∧ (∀ i, a < i → n.getD i 0 = 0) ∧ ∃ g : List UInt8, l = headN n a ++ g ∧ g.length = d ∧ (d = 0 → n.getD a 0 = 0) ∧ (0 < d → g = dd (vN n a))
theorem dd_snoc (m x : Nat) (hm : 1 ≤ m) (hx : x < 10) (h : 10 * m + x ≤ 255) : dd (10 * m + x) = dd m ++ [UInt8.ofNat (48 + x)] := by
  unfold dd
  rw [if_neg (by omega)]
  by_cases h1 : m < 10
  · rw [if_pos (by omega), if_pos h1, show (10 * m + x) / 10 = m by omega, show (10 * m + x) % 10 = x by omega]
    rfl
  · rw [if_neg (by omega), if_neg h1, if_pos (by omega), show (10 * m + x) / 100 = m / 10 by omega, show (10 * m + x) / 10 % 10 = m % 10 by omega, show (10 * m + x) % 10 = x by omega]
    rfl
theorem u8_dig (c : UInt8) (h1 : 48 ≤ c.toNat) : c = UInt8.ofNat (48 + (c.toNat - 48)) := by
  rw [show 48 + (c.toNat - 48) = c.toNat by omega]
  exact (UInt8.ofNat_toNat).symm
theorem getD_set_ne (n : List Int) (a i : Nat) (v : Int) (h : a ≠ i) : (n.set a v).getD i 0 = n.getD i 0 := by
  rw [List.getD_eq_getElem?_getD, List.getElem?_set_ne h, ← List.getD_eq_getElem?_getD]
theorem inv_step {l : List UInt8} {n : List Int} {a d : Nat} {c : UInt8} {x : List Int × Nat × Nat} (h : InvP l n a d) (hc : c.toNat < 128) (hs : prefix_Parse.step n a d c.toNat = some x) : InvP (l ++ [c]) x.1 x.2.1 x.2.2 := by
  obtain ⟨hok, hz, g, hl, hg, hd0, hd1⟩ := h
  have hok2 := prefix_Parse.ok_step hok hs
  obtain ⟨h1, h2, h3, h4⟩ := hok
  unfold prefix_Parse.step at hs
  by_cases t : 48 ≤ c.toNat ∧ c.toNat ≤ 57 ∧ d < 3 ∧ ¬ (0 < d ∧ n.getD a 0 = 0)
  · rw [if_pos t] at hs
    by_cases t2 : 255 < 10 * n.getD a 0 + ((c.toNat : Int) - 48)
    · rw [if_pos t2] at hs; cases hs
    · rw [if_neg t2] at hs
      have e := Option.some.inj hs
      subst e
      have h4a := h4 a
      have hav : (n.set a (10 * n.getD a 0 + ((c.toNat : Int) - 48))).getD a 0 = 10 * n.getD a 0 + ((c.toNat : Int) - 48) := getD_set _ _ _ (by omega)
      refine ⟨hok2, fun i hi => ?_, g ++ [c], ?_, by rw [List.length_append, hg]; rfl, fun hh => absurd hh (Nat.succ_ne_zero d), fun _ => ?_⟩
      · show (n.set a _).getD i 0 = 0
        rw [getD_set_ne _ _ _ _ (by have : a < i := hi; omega)]
        exact hz i hi
      · show l ++ [c] = headN (n.set a _) a ++ (g ++ [c])
        rw [headN_congr (n.set a _) n a (fun i hi => getD_set_ne _ _ _ _ (by omega)), hl, List.append_assoc]
      · show g ++ [c] = dd (vN (n.set a _) a)
        unfold vN
        rw [hav]
        by_cases hd : d = 0
        · have h0 := hd0 hd
          have hgn : g = [] := List.length_eq_zero_iff.1 (by omega)
          rw [hgn, h0, show (10 * (0 : Int) + ((c.toNat : Int) - 48)).toNat = c.toNat - 48 by omega]
          show [c] = _
          rw [dd, if_pos (by omega), ← u8_dig c t.1]
        · have hg1 := hd1 (by omega)
          have hm1 : 1 ≤ vN n a := by
            unfold vN
            have : ¬ n.getD a 0 = 0 := fun q => t.2.2.2 ⟨by omega, q⟩
            omega
          have hm2 : n.getD a 0 = (vN n a : Int) := by unfold vN; omega
          rw [hm2] at t2 ⊢
          rw [show (10 * (vN n a : Int) + ((c.toNat : Int) - 48)).toNat = 10 * vN n a + (c.toNat - 48) by omega, dd_snoc _ _ hm1 (by omega) (by omega), ← hg1, ← u8_dig c t.1]
  · rw [if_neg t] at hs
    by_cases t2 : 0 < d ∧ ((a < 3 ∧ c.toNat = 46) ∨ (a = 3 ∧ c.toNat = 47))
    · rw [if_pos t2] at hs
      have e := Option.some.inj hs
      subst e
      have hsep : c = sepN a := by
        apply UInt8.toNat_inj.1
        unfold sepN
        rcases t2.2 with ⟨q1, q2⟩ | ⟨q1, q2⟩
        · rw [if_pos q1]; exact q2
        · rw [if_neg (by omega)]; exact q2
      refine ⟨hok2, fun i hi => hz i (by have : a + 1 < i := hi; omega), [], ?_, rfl, fun _ => hz (a + 1) (by omega), fun hh => absurd hh (Nat.lt_irrefl 0)⟩
      show l ++ [c] = headN n (a + 1) ++ []
      rw [List.append_nil, headN, hl, hd1 t2.1, hsep, List.append_assoc]
    · rw [if_neg t2] at hs
      cases hs
theorem inv_run : ∀ (l l1 : List UInt8) (n : List Int) (a d : Nat) (x : List Int × Nat × Nat), InvP l1 n a d → prefix_Parse.run l n a d = some x → InvP (l1 ++ l) x.1 x.2.1 x.2.2
  | [], l1, n, a, d, x, h, hr => by
    have e : x = (n, a, d) := (Option.some.inj hr).symm
    subst e
    rw [List.append_nil]
    exact h
  | c :: l, l1, n, a, d, x, h, hr => by
    rw [prefix_Parse.run] at hr
    by_cases hc : 128 ≤ c.toNat
    · rw [if_pos hc] at hr; cases hr
    · rw [if_neg hc] at hr
      obtain ⟨y, hy, hr2⟩ := Option.bind_eq_some_iff.mp hr
      have := inv_run l (l1 ++ [c]) y.1 y.2.1 y.2.2 x (inv_step h (by omega) hy) hr2
      rw [List.append_assoc] at this
      exact this
theorem inv_0 : InvP [] [0, 0, 0, 0, 0] 0 0 :=
  ⟨⟨rfl, by omega, by omega, fun i => by rcases i with _ | _ | _ | _ | _ | i <;> simp⟩, fun i hi => by rcases i with _ | _ | _ | _ | _ | i <;> simp, [], rfl, rfl, fun _ => rfl, fun h => absurd h (Nat.lt_irrefl 0)⟩
theorem list5 (n : List Int) (h : n.length = 5) : n = [n.getD 0 0, n.getD 1 0, n.getD 2 0, n.getD 3 0, n.getD 4 0] := by
  match n, h with
  | [a, b, c, d, e], _ => rfl
theorem tells_is (x : ByteArray) : milestonelaw01_PrefixParses.Tells x := by
  have hx : x = T x.data.toList := by unfold T; simp
  cases hrun : prefix_Parse.run x.data.toList [0, 0, 0, 0, 0] 0 0 with
  | none =>
    refine ⟨0, 0, 0, 4, ?_, fun h => absurd h (by decide), fun _ => ⟨rfl, rfl, rfl⟩⟩
    unfold prefix_Parse.f
    rw [hrun]
  | some y =>
    obtain ⟨n, a, d⟩ := y
    obtain ⟨⟨h1, h2, h3, h4⟩, hz, g, hl, hg, hd0, hd1⟩ := inv_run _ _ _ _ _ _ inv_0 hrun
    replace h4 : ∀ i, 0 ≤ n.getD i 0 ∧ n.getD i 0 ≤ 255 := h4
    replace h1 : n.length = 5 := h1
    rw [List.nil_append] at hl
    have hf : prefix_Parse.f x = prefix_Parse.fin n a d := by
      unfold prefix_Parse.f
      rw [hrun]
    rw [milestonelaw01_PrefixParses.Tells, hf]
    unfold prefix_Parse.fin
    by_cases c : a = 4 ∧ 0 < d
    · rw [if_pos c]
      obtain ⟨ca, cd⟩ := c
      have ca : a = 4 := ca
      subst ca
      have v0 : n.getD 0 0 = (vN n 0 : Int) := by have := h4 0; unfold vN; omega
      have v1 : n.getD 1 0 = (vN n 1 : Int) := by have := h4 1; unfold vN; omega
      have v2 : n.getD 2 0 = (vN n 2 : Int) := by have := h4 2; unfold vN; omega
      have v3 : n.getD 3 0 = (vN n 3 : Int) := by have := h4 3; unfold vN; omega
      have v4 : n.getD 4 0 = (vN n 4 : Int) := by have := h4 4; unfold vN; omega
      have b0 : vN n 0 < 256 := by have := h4 0; unfold vN; omega
      have b1 : vN n 1 < 256 := by have := h4 1; unfold vN; omega
      have b2 : vN n 2 < 256 := by have := h4 2; unfold vN; omega
      have b3 : vN n 3 < 256 := by have := h4 3; unfold vN; omega
      have b4 : vN n 4 < 256 := by have := h4 4; unfold vN; omega
      have e5 := list5 n h1
      rw [v0, v1, v2, v3, v4] at e5
      have eA : prefix_Parse.addr n = (((vN n 0 * 256 + vN n 1) * 256 + vN n 2) * 256 + vN n 3 : Nat) := by
        have := addr_is (vN n 0) (vN n 1) (vN n 2) (vN n 3) (vN n 4 : Int) b0 b1 b2 b3
        rw [← e5] at this
        exact this
      have etx : x.data.toList = txt (vN n 0) (vN n 1) (vN n 2) (vN n 3) (vN n 4) := by
        rw [hl, hd1 cd]
        show headN n 4 ++ dd (vN n 4) = _
        unfold txt
        simp only [headN, sepN, List.nil_append, List.append_assoc]
        rfl
      rw [eA, v4]
      have hA : ((vN n 0 * 256 + vN n 1) * 256 + vN n 2) * 256 + vN n 3 < 4294967296 := by clear e5 eA etx v0 v1 v2 v3 v4; omega
      have o0 : (((vN n 0 * 256 + vN n 1) * 256 + vN n 2) * 256 + vN n 3) / 16777216 = vN n 0 := by clear e5 eA etx v0 v1 v2 v3 v4 hA; omega
      have o1 : (((vN n 0 * 256 + vN n 1) * 256 + vN n 2) * 256 + vN n 3) / 65536 % 256 = vN n 1 := by clear e5 eA etx v0 v1 v2 v3 v4 hA o0; omega
      have o2 : (((vN n 0 * 256 + vN n 1) * 256 + vN n 2) * 256 + vN n 3) / 256 % 256 = vN n 2 := by clear e5 eA etx v0 v1 v2 v3 v4 hA o0 o1; omega
      have o3 : (((vN n 0 * 256 + vN n 1) * 256 + vN n 2) * 256 + vN n 3) % 256 = vN n 3 := by clear e5 eA etx v0 v1 v2 v3 v4 hA o0 o1 o2; omega
      generalize ((vN n 0 * 256 + vN n 1) * 256 + vN n 2) * 256 + vN n 3 = A at hA o0 o1 o2 o3 ⊢
      rw [right_is A (vN n 4) hA b4, Option.bind_some]
      by_cases hR : vN n 4 ≤ 32 ∧ A % lo (vN n 4) = 0
      · rw [if_pos (decide_eq_true hR)]
        refine ⟨100, _, _, _, rfl, fun _ => ⟨?_, ?_⟩, fun h => absurd rfl h⟩
        · rw [rtext_is 100 A (vN n 4) hA b4 (by omega), o0, o1, o2, o3, ← etx, ← hx]
        · rw [rright_is 100 A (vN n 4) hA b4 (by omega), decide_eq_true hR]
      · rw [if_neg (by rw [decide_eq_false hR]; decide)]
        exact ⟨0, 0, 0, 4, rfl, fun h => absurd h (by decide), fun _ => ⟨rfl, rfl, rfl⟩⟩
    · rw [if_neg c]
      exact ⟨0, 0, 0, 4, rfl, fun h => absurd h (by decide), fun _ => ⟨rfl, rfl, rfl⟩⟩
theorem txt_len (a b c d n : Nat) : 0 < (txt a b c d n).length ∧ (txt a b c d n).length ≤ 100 := by
  have l1 := dd_len a
  have l2 := dd_len b
  have l3 := dd_len c
  have l4 := dd_len d
  have l5 := dd_len n
  unfold txt
  simp only [List.length_append, List.length_cons, List.length_nil]
  omega
theorem awake_6 : milestonelaw01_awake.f 6 = some true := by decide +kernel
theorem PrefixParses : milestonelaw01_PrefixParses.Pure := by
  refine ⟨⟨6, awake_6⟩, fun a n h0 h1 => ?_, tells_is⟩
  have h0 := Go.bounds_u32 h0
  have h1 := Go.bounds_u8 h1
  obtain ⟨a, rfl⟩ := Int.eq_ofNat_of_zero_le h0.1
  obtain ⟨n, rfl⟩ := Int.eq_ofNat_of_zero_le h1.1
  have ha : a < 4294967296 := by omega
  have hq : ofN a (min n 32) < 4294967296 := Nat.lt_of_le_of_lt (ofN_le _ _) ha
  refine ⟨100, _, _, _, rof_is 100 a n ha (by omega) (by omega), rtext_is 100 _ _ hq (by omega) (by omega), ?_, ?_⟩
  · rw [T_size]
    exact (txt_len _ _ _ _ _).1
  · rw [T_size]
    exact (txt_len _ _ _ _ _).2

end Go.Proofs.YtfjdijphpcddnaaDoor.Pure
