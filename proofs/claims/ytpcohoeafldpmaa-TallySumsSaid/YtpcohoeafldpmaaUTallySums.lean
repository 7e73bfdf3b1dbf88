/- The sum of any bytes is the document's, whole and in parts.
For every input; no condition is added to the given statement. -/
import Derived.Test.YtpcohoeafldpmaaQTallySumsx1
import Derived.Laws.BitsAllLaws
import Derived.OpenShut
import Derived.Lib.Bytes
namespace Go.Proofs.Ytpcohoeafldpmaa.Pure
open Go.RowKit Go.Proofs.Ytpcohoeafldpmaa.QTallySums Go.Proofs.YtpcohoeafldpmaaW.PrintWords Go.Proofs.YtpcohoeafldpmaaW.PrintLast Go.Proofs.YtpcohoeafldpmaaW.PrintMore
set_option linter.unusedSimpArgs false
set_option linter.unusedVariables false

/-! ## the sum's own arithmetic, over natural numbers -/
def crcP : Nat := 2197175160
def crcS (x : Nat) : Nat := if x % 2 = 1 then x / 2 ^^^ crcP else x / 2
def crcI : Nat → Nat → Nat
  | 0, x => x
  | n + 1, x => crcI n (crcS x)
theorem crcS_xor (x y : Nat) : crcS (x ^^^ y) = crcS x ^^^ crcS y := by
  have hm : (x ^^^ y) % 2 = (x + y) % 2 := by
    have h : (x ^^^ y) % 2 ^ 1 = (x % 2 ^ 1) ^^^ (y % 2 ^ 1) := Nat.xor_mod_two_pow
    rw [Nat.pow_one] at h
    rw [h, Nat.add_mod]
    rcases Nat.mod_two_eq_zero_or_one x with a | a <;> rcases Nat.mod_two_eq_zero_or_one y with b | b <;> rw [a, b] <;> rfl
  have hd : (x ^^^ y) / 2 = x / 2 ^^^ y / 2 := Nat.xor_div_two
  unfold crcS
  rw [hm, hd]
  by_cases a : x % 2 = 1
  · by_cases b : y % 2 = 1
    · rw [if_neg (by omega), if_pos a, if_pos b]
      have e : x / 2 ^^^ crcP ^^^ (y / 2 ^^^ crcP) = x / 2 ^^^ y / 2 ^^^ (crcP ^^^ crcP) := by ac_rfl
      rw [e, Nat.xor_self, Nat.xor_zero]
    · rw [if_pos (by omega), if_pos a, if_neg b]
      ac_rfl
  · by_cases b : y % 2 = 1
    · rw [if_pos (by omega), if_neg a, if_pos b]
      ac_rfl
    · rw [if_neg (by omega), if_neg a, if_neg b]
theorem crcS_two (z : Nat) : crcS (2 * z) = z := by
  unfold crcS
  rw [if_neg (by omega)]
  omega
theorem crcS_lt (x : Nat) (h : x < 4294967296) : crcS x < 4294967296 := by
  unfold crcS
  split
  · exact Nat.xor_lt_two_pow (n := 32) (by omega) (by unfold crcP; omega)
  · omega
theorem crcI_xor : ∀ (n x y : Nat), crcI n (x ^^^ y) = crcI n x ^^^ crcI n y
  | 0, _, _ => rfl
  | n + 1, x, y => by rw [crcI, crcS_xor, crcI_xor n]; rfl
theorem crcI_lt : ∀ (n x : Nat), x < 4294967296 → crcI n x < 4294967296
  | 0, _, h => h
  | n + 1, x, h => crcI_lt n _ (crcS_lt x h)
theorem crcI_shift : ∀ (n z : Nat), crcI n (2 ^ n * z) = z
  | 0, z => by simp [crcI]
  | n + 1, z => by
    rw [crcI, Nat.pow_succ, Nat.mul_comm (2 ^ n) 2, Nat.mul_assoc, crcS_two, crcI_shift n z]
theorem xor_split (x : Nat) : x = 256 * (x / 256) ^^^ x % 256 := by
  apply Nat.eq_of_testBit_eq
  intro i
  have h := Nat.testBit_two_pow_mul_add (x / 256) (show x % 2 ^ 8 < 2 ^ 8 from Nat.mod_lt _ (by omega)) i
  have e : 2 ^ 8 * (x / 256) + x % 2 ^ 8 = x := by omega
  rw [e] at h
  rw [h, Nat.testBit_xor, show (256 : Nat) = 2 ^ 8 from rfl, Nat.testBit_two_pow_mul, Nat.testBit_mod_two_pow]
  by_cases hi : i < 8
  · simp [hi, Nat.not_le.2 hi]
  · simp [hi, Nat.not_lt.1 hi]
theorem crc_byte (x : Nat) : crcI 8 x = x / 256 ^^^ crcI 8 (x % 256) := by
  have h := congrArg (crcI 8) (xor_split x)
  rw [crcI_xor, show (256 : Nat) * (x / 256) = 2 ^ 8 * (x / 256) from rfl, crcI_shift] at h
  exact h

theorem crc_step (r b : Nat) (hb : b < 256) : crcI 8 (r ^^^ b) = r / 256 ^^^ crcI 8 (r % 256 ^^^ b) := by
  have h1 : (r ^^^ b) / 2 ^ 8 = r / 2 ^ 8 ^^^ b / 2 ^ 8 := Nat.xor_div_two_pow
  have h2 : (r ^^^ b) % 2 ^ 8 = r % 2 ^ 8 ^^^ b % 2 ^ 8 := Nat.xor_mod_two_pow
  have e : (2 : Nat) ^ 8 = 256 := rfl
  rw [e] at h1 h2
  rw [crc_byte, h1, h2, Nat.div_eq_of_lt hb, Nat.mod_eq_of_lt hb, Nat.xor_zero]
theorem line_loop (n : Nat) : ∀ (i x k : Nat), i + n = 8 → n < k → x < 4294967296 → tally_line.l0 k (x : Int) (i : Int) = some ((crcI n x : Nat) : Int) := by
  induction n with
  | zero =>
    intro i x k hi hk _
    obtain ⟨k, rfl⟩ : ∃ m, k = m + 1 := ⟨k - 1, by omega⟩
    rw [tally_line.l0, if_neg (by omega)]
    rfl
  | succ n ih =>
    intro i x k hi hk hx
    obtain ⟨k, rfl⟩ : ∃ m, k = m + 1 := ⟨k - 1, by omega⟩
    have e1 : wrap64 ((i : Int) + 1) = ((i + 1 : Nat) : Int) := by unfold wrap64; omega
    have e2 : Go.bits .and .u32 (x : Int) 1 = ((x % 2 : Nat) : Int) := by
      have := u32_and_nat x 1 hx (by omega)
      rw [Nat.and_one_is_mod] at this
      exact this
    have e3 : (x : Int) / 2 = ((x / 2 : Nat) : Int) := by omega
    have e4 : Go.bits .xor .u32 ((x / 2 : Nat) : Int) 2197175160 = ((x / 2 ^^^ crcP : Nat) : Int) := u32_xor_nat (x / 2) 2197175160 (by omega) (by omega)
    have hs := crcS_lt x hx
    rw [tally_line.l0, if_pos (by omega), e1, e2, e3, e4]
    by_cases h : x % 2 = 1
    · have e5 : crcS x = x / 2 ^^^ crcP := by unfold crcS; rw [if_pos h]
      rw [if_pos (by omega), crcI, e5]
      rw [e5] at hs
      exact ih (i + 1) _ k (by omega) (by omega) hs
    · have e5 : crcS x = x / 2 := by unfold crcS; rw [if_neg h]
      rw [if_neg (by omega), crcI, e5]
      rw [e5] at hs
      exact ih (i + 1) _ k (by omega) (by omega) hs
theorem line_is (k b : Nat) (hb : b < 256) : tally_line.f (k + 9) (b : Int) = some ((crcI 8 b : Nat) : Int) := by
  unfold tally_line.f
  have e : (b : Int) % 4294967296 = (b : Int) := by omega
  rw [e]
  exact line_loop 8 0 b (k + 9) (by omega) (by omega) (by omega)
/-- bytes fed to a register -/
def crcB (x : Nat) : Nat := crcI 8 x
def crcF (r : Nat) (q : List Int) : Nat := q.foldl (fun r b => crcB (r ^^^ b.toNat)) r
theorem crcF_nil (r : Nat) : crcF r [] = r := List.foldl_nil
theorem crcF_cons (r : Nat) (b : Int) (q : List Int) : crcF r (b :: q) = crcF (crcB (r ^^^ b.toNat)) q := List.foldl_cons ..
def crcM : Nat := 4294967295
theorem crcM_lt : crcM < 4294967296 := by unfold crcM; omega
def crcV (x : Nat) : Nat := crcM ^^^ x
theorem crcV_lt (x : Nat) (h : x < 4294967296) : crcV x < 4294967296 := by
  unfold crcV
  exact Nat.xor_lt_two_pow (n := 32) crcM_lt h
theorem crcV_bits (x : Nat) (h : x < 4294967296) : Go.bits .xor .u32 IntKind.u32.max (x : Int) = ((crcV x : Nat) : Int) := u32_xor_nat crcM x crcM_lt h
theorem xor_twice (m x : Nat) : m ^^^ (m ^^^ x) = x := by rw [← Nat.xor_assoc, Nat.xor_self, Nat.zero_xor]
theorem crcV_is (x : Nat) : crcV x = crcM ^^^ x := by rw [crcV]
theorem crcV_twice (x : Nat) : crcV (crcV x) = x := by rw [crcV_is, crcV_is, xor_twice]
def isBytes (l : List Int) : Prop := ∀ x ∈ l, 0 ≤ x ∧ x < 256
theorem crcF_lt : ∀ (q : List Int) (r : Nat), isBytes q → r < 4294967296 → crcF r q < 4294967296
  | [], r, _, h => by rw [crcF_nil]; exact h
  | b :: q, r, hq, h => by
    have hb := hq b List.mem_cons_self
    rw [crcF_cons]
    exact crcF_lt q _ (fun z hz => hq z (List.mem_cons_of_mem _ hz)) (crcI_lt 8 _ (Nat.xor_lt_two_pow (n := 32) h (by omega)))
theorem crcF_append : ∀ (p q : List Int) (r : Nat), crcF r (p ++ q) = crcF (crcF r p) q
  | [], q, r => by rw [List.nil_append, crcF_nil]
  | b :: p, q, r => by rw [List.cons_append, crcF_cons, crcF_cons, crcF_append p q]
theorem rd_drop (q : List Int) (i : Nat) (hi : i < q.length) : q.drop i = rd q i :: q.drop (i + 1) := by
  rw [List.drop_eq_getElem_cons hi]
  congr 1
  unfold rd
  simp [List.getD_eq_getElem?_getD, List.getElem?_eq_getElem hi]
theorem rd_byte (q : List Int) (hq : isBytes q) (i : Nat) (hi : i < q.length) : 0 ≤ rd q i ∧ rd q i < 256 := by
  have := rd_drop q i hi
  have h : rd q i ∈ q.drop i := by rw [this]; exact List.mem_cons_self
  exact hq _ (List.mem_of_mem_drop h)
theorem more_loop (q : List Int) (hq : isBytes q) (hl : q.length < 1000000) (d : Nat) : ∀ (i r k : Nat), i + d = q.length → d + 10 < k → r < 4294967296 →
    tally_More.l0 k (r : Int) q (q.length : Int) (i : Int) = some ((crcV (crcF r (q.drop i)) : Nat) : Int) := by
  induction d with
  | zero =>
    intro i r k hi hk hr
    obtain ⟨k, rfl⟩ : ∃ m, k = m + 1 := ⟨k - 1, by omega⟩
    rw [tally_More.l0, if_neg (by omega), crcV_bits r hr, List.drop_eq_nil_of_le (by omega), crcF_nil]
  | succ d ih =>
    intro i r k hi hk hr
    obtain ⟨k, rfl⟩ : ∃ m, k = m + 9 + 1 := ⟨k - 10, by omega⟩
    have hb := rd_byte q hq i (by omega)
    obtain ⟨b, hbe⟩ := Int.eq_ofNat_of_zero_le hb.1
    have hbn : b < 256 := by omega
    have e1 : wrap64 ((i : Int) + 1) = ((i + 1 : Nat) : Int) := by unfold wrap64; omega
    have e2 : (r : Int) % 256 = ((r % 256 : Nat) : Int) := by omega
    have e3 : (r : Int) / 256 = ((r / 256 : Nat) : Int) := by omega
    have hx : r % 256 ^^^ b < 256 := Nat.xor_lt_two_pow (n := 8) (by omega) (by omega)
    have hc : crcI 8 (r % 256 ^^^ b) < 4294967296 := crcI_lt 8 _ (by omega)
    have hd : r / 256 < 4294967296 := by omega
    have hn : r / 256 ^^^ crcI 8 (r % 256 ^^^ b) < 4294967296 := Nat.xor_lt_two_pow (n := 32) hd hc
    have key := ih (i + 1) (r / 256 ^^^ crcI 8 (r % 256 ^^^ b)) (k + 9) (by omega) (by omega) hn
    have t1 : (i : Int) < (q.length : Int) := by omega
    have t2 : (0 : Int) ≤ (i : Int) := by omega
    have t3 : Go.bits .xor .u8 ((r : Int) % 256) (rd q i) = ((r % 256 ^^^ b : Nat) : Int) := by
      rw [e2, hbe]
      exact u8_xor_nat (r % 256) b (by omega) hbn
    have t4 : q.drop i = (b : Int) :: q.drop (i + 1) := by rw [rd_drop q i (by omega), hbe]
    have t5 := line_is k _ hx
    have t6 : Go.bits .xor .u32 ((r : Int) / 256) ((crcI 8 (r % 256 ^^^ b) : Nat) : Int) = ((r / 256 ^^^ crcI 8 (r % 256 ^^^ b) : Nat) : Int) := by
      rw [e3]
      exact u32_xor_nat _ _ hd hc
    clear ih e2 e3 hx hc hd
    rw [tally_More.l0, if_pos t1, if_pos t2, if_pos t1, t3, t5, Option.bind_some, t6, e1, key, t4, crcF_cons, Int.toNat_natCast, crcB, crc_step r b hbn]
theorem more_is (k s : Nat) (q : List Int) (hq : isBytes q) (hl : q.length < 1000000) (hk : q.length + 10 < k) (hs : s < 4294967296) : tally_More.f k (s : Int) q = some ((crcV (crcF (crcV s) q) : Nat) : Int) := by
  unfold tally_More.f
  rw [crcV_bits s hs]
  exact more_loop q hq hl q.length 0 _ k (by omega) hk (crcV_lt s hs)
theorem sum_is (k : Nat) (q : List Int) (hq : isBytes q) (hl : q.length < 1000000) (hk : q.length + 10 < k) : tally_Sum.f k q = some ((crcV (crcF crcM q) : Nat) : Int) := by
  unfold tally_Sum.f
  have h := more_is k 0 q hq hl hk (by omega)
  have e : crcV 0 = crcM := by unfold crcV; rw [Nat.xor_zero]
  rw [e] at h
  rw [show (0 : Int) = ((0 : Nat) : Int) from rfl, h, Option.bind_some]

theorem wr32 (n : Int) : IntKind.u32.wrap n = n % 4294967296 := by
  simp [IntKind.wrap, IntKind.signed, IntKind.bits]
theorem crcV_sub (x : Nat) (h : x < 4294967296) : ((crcV x : Nat) : Int) = 4294967295 - (x : Int) := by
  rw [← crcV_bits x h]
  show IntKind.u32.wrap ((BitVec.ofInt 32 4294967295 ^^^ BitVec.ofInt 32 (x : Int)).toNat : Int) = _
  have e : BitVec.ofInt 32 4294967295 = BitVec.allOnes 32 := by decide
  have e2 : (BitVec.ofInt 32 (x : Int)).toNat = x := by
    rw [BitVec.toNat_ofInt]
    omega
  rw [e, BitVec.xor_comm, BitVec.xor_allOnes, BitVec.toNat_not, e2, wr32]
  omega
theorem bit_split (c : Nat) : c = c % 2 ^^^ 2 * (c / 2) := by
  apply Nat.eq_of_testBit_eq
  intro i
  rw [Nat.testBit_xor]
  cases i with
  | zero => simp [Nat.testBit_zero]
  | succ i =>
    have h1 : (c % 2).testBit (i + 1) = false := by
      rw [Nat.testBit_succ, show c % 2 / 2 = 0 by omega, Nat.zero_testBit]
    rw [h1, Nat.testBit_succ, Nat.testBit_succ, show 2 * (c / 2) / 2 = c / 2 by omega]
    simp
theorem crcS_feed (r c : Nat) : crcS (r ^^^ c) = crcS (r ^^^ c % 2) ^^^ c / 2 := by
  have h : r ^^^ c = r ^^^ c % 2 ^^^ 2 * (c / 2) := by
    rw [Nat.xor_assoc, ← bit_split]
  rw [h, crcS_xor, crcS_two]
theorem crcS_bit (r o : Nat) (ho : o < 2) : crcS (r ^^^ o) = if r % 2 = o then r / 2 else r / 2 ^^^ crcP := by
  have hm : (r ^^^ o) % 2 = (r + o) % 2 := by
    have h : (r ^^^ o) % 2 ^ 1 = (r % 2 ^ 1) ^^^ (o % 2 ^ 1) := Nat.xor_mod_two_pow
    rw [Nat.pow_one] at h
    rw [h, Nat.add_mod]
    rcases Nat.mod_two_eq_zero_or_one r with a | a <;> rcases Nat.mod_two_eq_zero_or_one o with b | b <;> rw [a, b] <;> rfl
  have hd : (r ^^^ o) / 2 = r / 2 := by
    have : (r ^^^ o) / 2 = r / 2 ^^^ o / 2 := Nat.xor_div_two
    rw [this, show o / 2 = 0 by omega, Nat.xor_zero]
  unfold crcS
  rw [hm, hd]
  by_cases h : r % 2 = o
  · rw [if_neg (by omega), if_pos h]
  · rw [if_pos (by omega), if_neg h]
theorem shr8 (b j : Nat) (hj : j ≤ 8) : (shr .u8 (b : Int) (j : Int)) % 2 = ((b / 2 ^ j % 2 : Nat) : Int) := by
  unfold shr
  have e : min ((j : Nat) : Int).toNat IntKind.u8.bits = j := by
    have : IntKind.u8.bits = 8 := rfl
    omega
  rw [e, show ((2 : Int) ^ j) = ((2 ^ j : Nat) : Int) by simp]
  omega
theorem ref_bits (q : List Int) (hl : q.length < 1000000) (i b : Nat) (hi : i < q.length) (hb : rd q i = (b : Int)) (hbn : b < 256) (n : Nat) : ∀ (j r k : Nat), j + n = 8 → r < 4294967296 →
    milestoneref01_Sum.l0 (k + n) q (r : Int) ((8 * i + j : Nat) : Int) = milestoneref01_Sum.l0 k q ((crcI n (r ^^^ b / 2 ^ j) : Nat) : Int) ((8 * (i + 1) : Nat) : Int) := by
  induction n with
  | zero =>
    intro j r k hj hr
    have e : j = 8 := by omega
    subst e
    rw [show b / 2 ^ 8 = 0 from Nat.div_eq_of_lt hbn, Nat.xor_zero]
    rfl
  | succ n ih =>
    intro j r k hj hr
    have t1 : ((8 * i + j : Nat) : Int) < ((8 * q.length : Nat) : Int) := by omega
    have t2 : (i : Int) < (q.length : Int) := by omega
    have t3 : (0 : Int) ≤ (i : Int) := by omega
    have t4 : (0 : Int) ≤ (j : Int) := by omega
    have t5 : j + 1 + n = 8 := by omega
    have t6 : r / 2 < 4294967296 := by omega
    have t9 : j ≤ 8 := by omega
    have w1 : wrap64 (8 * (q.length : Int)) = ((8 * q.length : Nat) : Int) := by unfold wrap64; omega
    have w2 : wrap64 (Int.tdiv ((8 * i + j : Nat) : Int) 8) = (i : Int) := by
      rw [Int.tdiv_eq_ediv_of_nonneg (by omega)]
      unfold wrap64
      omega
    have w3 : Int.tmod ((8 * i + j : Nat) : Int) 8 = (j : Int) := by
      rw [Int.tmod_eq_emod_of_nonneg (by omega)]
      omega
    have w4 : wrap64 (((8 * i + j : Nat) : Int) + 1) = ((8 * i + (j + 1) : Nat) : Int) := by unfold wrap64; omega
    have w5 : Int.tmod (r : Int) 2 = ((r % 2 : Nat) : Int) := by
      rw [Int.tmod_eq_emod_of_nonneg (by omega)]
      omega
    have w6 : (Int.tdiv (r : Int) 2) % 4294967296 = ((r / 2 : Nat) : Int) := by
      rw [Int.tdiv_eq_ediv_of_nonneg (by omega)]
      omega
    have w7 := shr8 b j t9
    have t7 : b / 2 ^ j % 2 < 2 := Nat.mod_lt _ Nat.two_pos
    have t8 : b / 2 ^ j % 2 < 2 ^ 32 := Nat.lt_trans t7 (by decide)
    have w8 : Go.bits .xor .u32 ((r / 2 : Nat) : Int) 2197175160 = ((r / 2 ^^^ crcP : Nat) : Int) := u32_xor_nat (r / 2) 2197175160 t6 (by decide)
    have hs := crcS_lt (r ^^^ b / 2 ^ j % 2) (Nat.xor_lt_two_pow (n := 32) hr t8)
    have hf := crcS_feed r (b / 2 ^ j)
    have hd : b / 2 ^ j / 2 = b / 2 ^ (j + 1) := by rw [Nat.div_div_eq_div_mul, Nat.pow_succ]
    have hc := crcS_bit r (b / 2 ^ j % 2) t7
    have key := ih (j + 1) (crcS (r ^^^ b / 2 ^ j % 2)) k t5 hs
    rw [crcI, hf, hd, ← key, ← Nat.add_assoc, milestoneref01_Sum.l0, w1, if_pos t1, w2, if_pos t3, if_pos t2, w3, if_pos t4, hb, w7, w5, w6, w8, w4]
    by_cases h : r % 2 = b / 2 ^ j % 2
    · rw [if_pos (by rw [h]), hc, if_pos h]
    · have h2 : ¬ ((r % 2 : Nat) : Int) = ((b / 2 ^ j % 2 : Nat) : Int) := fun e => h (Int.natCast_inj.1 e)
      rw [if_neg h2, hc, if_neg h]
theorem ref_loop (q : List Int) (hq : isBytes q) (hl : q.length < 1000000) (d : Nat) : ∀ (i r k : Nat), i + d = q.length → r < 4294967296 →
    milestoneref01_Sum.l0 (k + 1 + 8 * d) q (r : Int) ((8 * i : Nat) : Int) = some ((crcV (crcF r (q.drop i)) : Nat) : Int) := by
  induction d with
  | zero =>
    intro i r k hi hr
    have w1 : wrap64 (8 * (q.length : Int)) = ((8 * q.length : Nat) : Int) := by unfold wrap64; omega
    have hv := crcV_sub r hr
    rw [milestoneref01_Sum.l0, w1, if_neg (by omega), List.drop_eq_nil_of_le (by omega), crcF_nil, hv]
    refine congrArg some ?_
    omega
  | succ d ih =>
    intro i r k hi hr
    have hb := rd_byte q hq i (by omega)
    obtain ⟨b, hbe⟩ := Int.eq_ofNat_of_zero_le hb.1
    have hbn : b < 256 := by omega
    have h1 := ref_bits q hl i b (by omega) hbe hbn 8 0 r (k + 1 + 8 * d) rfl hr
    have hn : crcI 8 (r ^^^ b) < 4294967296 := crcI_lt 8 _ (Nat.xor_lt_two_pow (n := 32) hr (by omega))
    have key := ih (i + 1) (crcI 8 (r ^^^ b)) k (by omega) hn
    rw [Nat.pow_zero, Nat.div_one, show 8 * i + 0 = 8 * i from rfl] at h1
    rw [show k + 1 + 8 * (d + 1) = k + 1 + 8 * d + 8 by omega, h1, key, rd_drop q i (by omega), hbe, crcF_cons, Int.toNat_natCast, crcB]
theorem refsum_is (k : Nat) (q : List Int) (hq : isBytes q) (hl : q.length < 1000000) : milestoneref01_Sum.f (k + 1 + 8 * q.length) q = some ((crcV (crcF crcM q) : Nat) : Int) := by
  unfold milestoneref01_Sum.f
  exact ref_loop q hq hl q.length 0 crcM k (by omega) crcM_lt

theorem nine : isBytes [49, 50, 51, 52, 53, 54, 55, 56, 57] := by
  intro x hx
  simp only [List.mem_cons, List.not_mem_nil, or_false] at hx
  omega
theorem nine_sum : crcV (crcF crcM [49, 50, 51, 52, 53, 54, 55, 56, 57]) = 3808858755 := by decide +kernel
theorem awake_is (k : Nat) (hk : 19 < k) : milestonelaw04_awake.f k = some true := by
  unfold milestonelaw04_awake.f
  rw [sum_is k _ nine (by decide) hk, Option.bind_some, nine_sum]
  rfl
theorem TallySums : milestonelaw04_TallySums.Pure := by
  intro p q _ _ hp _ _ hq
  have hp : isBytes p := fun x hx => by have := Go.bounds_u8 (hp x hx); omega
  have hq : isBytes q := fun x hx => by have := Go.bounds_u8 (hq x hx); omega
  refine ⟨4001, ?_⟩
  unfold milestonelaw04_TallySums.f
  rw [awake_is 4001 (by omega), Option.bind_some, if_pos rfl]
  have big : milestonelaw04_TallySums.j0 4001 p q true = some true := by
    rw [milestonelaw04_TallySums.j0, if_pos rfl, awake_is 4000 (by omega), Option.bind_some]
  by_cases h1 : (p.length : Int) > 200
  · rw [if_pos h1, big]
  · rw [if_neg h1]
    by_cases h2 : (q.length : Int) > 200
    · rw [decide_eq_true h2, big]
    · rw [decide_eq_false h2]
      have hpq : isBytes (p ++ q) := fun x hx => (List.mem_append.1 hx).elim (hp x) (hq x)
      have l1 : p.length ≤ 200 := by omega
      have l2 : q.length ≤ 200 := by omega
      have l3 : (p ++ q).length ≤ 400 := by rw [List.length_append]; omega
      have hr := refsum_is (3999 - 8 * (p ++ q).length) (p ++ q) hpq (by omega)
      rw [show 3999 - 8 * (p ++ q).length + 1 + 8 * (p ++ q).length = 4000 by omega] at hr
      have hs := sum_is 4000 p hp (by omega) (by omega)
      have hsp := sum_is 4000 (p ++ q) hpq (by omega) (by omega)
      have lt := crcF_lt p crcM hp crcM_lt
      have hm := more_is 4000 (crcV (crcF crcM p)) q hq (by omega) (by omega) (crcV_lt _ lt)
      have hz := more_is 4000 0 p hp (by omega) (by omega) (by omega)
      have e0 : crcV 0 = crcM := by unfold crcV; rw [Nat.xor_zero]
      rw [crcV_twice, ← crcF_append] at hm
      rw [e0] at hz
      have hz' : tally_More.f 4000 0 p = some ((crcV (crcF crcM p) : Nat) : Int) := hz
      rw [milestonelaw04_TallySums.j0, if_neg (by decide), if_pos (by simp; omega), List.nil_append, Option.bind_some, if_pos (by omega), Option.bind_some, hsp, Option.bind_some, hr, Option.bind_some, if_pos rfl, hs, Option.bind_some, hm, Option.bind_some, if_pos rfl, hz', Option.bind_some]
      exact congrArg some (beq_self_eq_true _)

end Go.Proofs.Ytpcohoeafldpmaa.Pure
