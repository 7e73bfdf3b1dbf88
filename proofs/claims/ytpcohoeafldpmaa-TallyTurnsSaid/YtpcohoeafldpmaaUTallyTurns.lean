/- Bytes of which up to 32 bits one behind the other are turned, and at least one, have another sum.
For every input; no condition is added to the given statement. -/
import Derived.Test.YtpcohoeafldpmaaQTallyTurnsx1
import Derived.Laws.BitsAllLaws
import Derived.OpenShut
import Derived.Lib.Bytes
namespace Go.Proofs.Ytpcohoeafldpmaa.Pure
open Go.RowKit Go.Proofs.Ytpcohoeafldpmaa.QTallyTurns Go.Proofs.YtpcohoeafldpmaaW.PrintWords Go.Proofs.YtpcohoeafldpmaaW.PrintLast Go.Proofs.YtpcohoeafldpmaaW.PrintMore
set_option linter.unusedSimpArgs false
set_option linter.unusedVariables false

/-! ## the sum's own arithmetic, over natural numbers -/
def crcP : Nat := 2197175160
def crcS (x : Nat) : Nat := if x % 2 = 1 then x / 2 ^^^ crcP else x / 2
def crcI : Nat → Nat → Nat
  | 0, x => x
  | n + 1, x => crcI n (crcS x)
theorem crcS_xor (x y : Nat) : crcS (x ^^^ y) = crcS x ^^^ crcS y := by
  have hm : (x ^^^ y) % 2 = (x + y) % 2 := by
    have h : (x ^^^ y) % 2 ^ 1 = (x % 2 ^ 1) ^^^ (y % 2 ^ 1) := Nat.xor_mod_two_pow
    rw [Nat.pow_one] at h
    rw [h, Nat.add_mod]
    rcases Nat.mod_two_eq_zero_or_one x with a | a <;> rcases Nat.mod_two_eq_zero_or_one y with b | b <;> rw [a, b] <;> rfl
  have hd : (x ^^^ y) / 2 = x / 2 ^^^ y / 2 := Nat.xor_div_two
  unfold crcS
  rw [hm, hd]
  by_cases a : x % 2 = 1
  · by_cases b : y % 2 = 1
    · rw [if_neg (by omega), if_pos a, if_pos b]
      have e : x / 2 ^^^ crcP ^^^ (y / 2 ^^^ crcP) = x / 2 ^^^ y / 2 ^^^ (crcP ^^^ crcP) := by ac_rfl
      rw [e, Nat.xor_self, Nat.xor_zero]
    · rw [if_pos (by omega), if_pos a, if_neg b]
      ac_rfl
  · by_cases b : y % 2 = 1
    · rw [if_pos (by omega), if_neg a, if_pos b]
      ac_rfl
    · rw [if_neg (by omega), if_neg a, if_neg b]
theorem crcS_two (z : Nat) : crcS (2 * z) = z := by
  unfold crcS
  rw [if_neg (by omega)]
  omega
theorem crcS_lt (x : Nat) (h : x < 4294967296) : crcS x < 4294967296 := by
  unfold crcS
  split
  · exact Nat.xor_lt_two_pow (n := 32) (by omega) (by unfold crcP; omega)
  · omega
theorem crcI_xor : ∀ (n x y : Nat), crcI n (x ^^^ y) = crcI n x ^^^ crcI n y
  | 0, _, _ => rfl
  | n + 1, x, y => by rw [crcI, crcS_xor, crcI_xor n]; rfl
theorem crcI_lt : ∀ (n x : Nat), x < 4294967296 → crcI n x < 4294967296
  | 0, _, h => h
  | n + 1, x, h => crcI_lt n _ (crcS_lt x h)
theorem crcI_shift : ∀ (n z : Nat), crcI n (2 ^ n * z) = z
  | 0, z => by simp [crcI]
  | n + 1, z => by
    rw [crcI, Nat.pow_succ, Nat.mul_comm (2 ^ n) 2, Nat.mul_assoc, crcS_two, crcI_shift n z]
theorem xor_split (x : Nat) : x = 256 * (x / 256) ^^^ x % 256 := by
  apply Nat.eq_of_testBit_eq
  intro i
  have h := Nat.testBit_two_pow_mul_add (x / 256) (show x % 2 ^ 8 < 2 ^ 8 from Nat.mod_lt _ (by omega)) i
  have e : 2 ^ 8 * (x / 256) + x % 2 ^ 8 = x := by omega
  rw [e] at h
  rw [h, Nat.testBit_xor, show (256 : Nat) = 2 ^ 8 from rfl, Nat.testBit_two_pow_mul, Nat.testBit_mod_two_pow]
  by_cases hi : i < 8
  · simp [hi, Nat.not_le.2 hi]
  · simp [hi, Nat.not_lt.1 hi]
theorem crc_byte (x : Nat) : crcI 8 x = x / 256 ^^^ crcI 8 (x % 256) := by
  have h := congrArg (crcI 8) (xor_split x)
  rw [crcI_xor, show (256 : Nat) * (x / 256) = 2 ^ 8 * (x / 256) from rfl, crcI_shift] at h
  exact h

theorem crc_step (r b : Nat) (hb : b < 256) : crcI 8 (r ^^^ b) = r / 256 ^^^ crcI 8 (r % 256 ^^^ b) := by
  have h1 : (r ^^^ b) / 2 ^ 8 = r / 2 ^ 8 ^^^ b / 2 ^ 8 := Nat.xor_div_two_pow
  have h2 : (r ^^^ b) % 2 ^ 8 = r % 2 ^ 8 ^^^ b % 2 ^ 8 := Nat.xor_mod_two_pow
  have e : (2 : Nat) ^ 8 = 256 := rfl
  rw [e] at h1 h2
  rw [crc_byte, h1, h2, Nat.div_eq_of_lt hb, Nat.mod_eq_of_lt hb, Nat.xor_zero]
theorem line_loop (n : Nat) : ∀ (i x k : Nat), i + n = 8 → n < k → x < 4294967296 → tally_line.l0 k (x : Int) (i : Int) = some ((crcI n x : Nat) : Int) := by
  induction n with
  | zero =>
    intro i x k hi hk _
    obtain ⟨k, rfl⟩ : ∃ m, k = m + 1 := ⟨k - 1, by omega⟩
    rw [tally_line.l0, if_neg (by omega)]
    rfl
  | succ n ih =>
    intro i x k hi hk hx
    obtain ⟨k, rfl⟩ : ∃ m, k = m + 1 := ⟨k - 1, by omega⟩
    have e1 : wrap64 ((i : Int) + 1) = ((i + 1 : Nat) : Int) := by unfold wrap64; omega
    have e2 : Go.bits .and .u32 (x : Int) 1 = ((x % 2 : Nat) : Int) := by
      have := u32_and_nat x 1 hx (by omega)
      rw [Nat.and_one_is_mod] at this
      exact this
    have e3 : (x : Int) / 2 = ((x / 2 : Nat) : Int) := by omega
    have e4 : Go.bits .xor .u32 ((x / 2 : Nat) : Int) 2197175160 = ((x / 2 ^^^ crcP : Nat) : Int) := u32_xor_nat (x / 2) 2197175160 (by omega) (by omega)
    have hs := crcS_lt x hx
    rw [tally_line.l0, if_pos (by omega), e1, e2, e3, e4]
    by_cases h : x % 2 = 1
    · have e5 : crcS x = x / 2 ^^^ crcP := by unfold crcS; rw [if_pos h]
      rw [if_pos (by omega), crcI, e5]
      rw [e5] at hs
      exact ih (i + 1) _ k (by omega) (by omega) hs
    · have e5 : crcS x = x / 2 := by unfold crcS; rw [if_neg h]
      rw [if_neg (by omega), crcI, e5]
      rw [e5] at hs
      exact ih (i + 1) _ k (by omega) (by omega) hs
theorem line_is (k b : Nat) (hb : b < 256) : tally_line.f (k + 9) (b : Int) = some ((crcI 8 b : Nat) : Int) := by
  unfold tally_line.f
  have e : (b : Int) % 4294967296 = (b : Int) := by omega
  rw [e]
  exact line_loop 8 0 b (k + 9) (by omega) (by omega) (by omega)
/-- bytes fed to a register -/
def crcB (x : Nat) : Nat := crcI 8 x
def crcF (r : Nat) (q : List Int) : Nat := q.foldl (fun r b => crcB (r ^^^ b.toNat)) r
theorem crcF_nil (r : Nat) : crcF r [] = r := List.foldl_nil
theorem crcF_cons (r : Nat) (b : Int) (q : List Int) : crcF r (b :: q) = crcF (crcB (r ^^^ b.toNat)) q := List.foldl_cons ..
def crcM : Nat := 4294967295
theorem crcM_lt : crcM < 4294967296 := by unfold crcM; omega
def crcV (x : Nat) : Nat := crcM ^^^ x
theorem crcV_lt (x : Nat) (h : x < 4294967296) : crcV x < 4294967296 := by
  unfold crcV
  exact Nat.xor_lt_two_pow (n := 32) crcM_lt h
theorem crcV_bits (x : Nat) (h : x < 4294967296) : Go.bits .xor .u32 4294967295 (x : Int) = ((crcV x : Nat) : Int) := u32_xor_nat crcM x crcM_lt h
theorem xor_twice (m x : Nat) : m ^^^ (m ^^^ x) = x := by rw [← Nat.xor_assoc, Nat.xor_self, Nat.zero_xor]
theorem crcV_is (x : Nat) : crcV x = crcM ^^^ x := by rw [crcV]
theorem crcV_twice (x : Nat) : crcV (crcV x) = x := by rw [crcV_is, crcV_is, xor_twice]
def isBytes (l : List Int) : Prop := ∀ x ∈ l, 0 ≤ x ∧ x < 256
theorem crcF_lt : ∀ (q : List Int) (r : Nat), isBytes q → r < 4294967296 → crcF r q < 4294967296
  | [], r, _, h => by rw [crcF_nil]; exact h
  | b :: q, r, hq, h => by
    have hb := hq b List.mem_cons_self
    rw [crcF_cons]
    exact crcF_lt q _ (fun z hz => hq z (List.mem_cons_of_mem _ hz)) (crcI_lt 8 _ (Nat.xor_lt_two_pow (n := 32) h (by omega)))
theorem crcF_append : ∀ (p q : List Int) (r : Nat), crcF r (p ++ q) = crcF (crcF r p) q
  | [], q, r => by rw [List.nil_append, crcF_nil]
  | b :: p, q, r => by rw [List.cons_append, crcF_cons, crcF_cons, crcF_append p q]
theorem rd_drop (q : List Int) (i : Nat) (hi : i < q.length) : q.drop i = rd q i :: q.drop (i + 1) := by
  rw [List.drop_eq_getElem_cons hi]
  congr 1
  unfold rd
  simp [List.getD_eq_getElem?_getD, List.getElem?_eq_getElem hi]
theorem rd_byte (q : List Int) (hq : isBytes q) (i : Nat) (hi : i < q.length) : 0 ≤ rd q i ∧ rd q i < 256 := by
  have := rd_drop q i hi
  have h : rd q i ∈ q.drop i := by rw [this]; exact List.mem_cons_self
  exact hq _ (List.mem_of_mem_drop h)
theorem more_loop (q : List Int) (hq : isBytes q) (hl : q.length < 1000000) (d : Nat) : ∀ (i r k : Nat), i + d = q.length → d + 10 < k → r < 4294967296 →
    tally_More.l0 k (r : Int) q (q.length : Int) (i : Int) = some ((crcV (crcF r (q.drop i)) : Nat) : Int) := by
  induction d with
  | zero =>
    intro i r k hi hk hr
    obtain ⟨k, rfl⟩ : ∃ m, k = m + 1 := ⟨k - 1, by omega⟩
    rw [tally_More.l0, if_neg (by omega), crcV_bits r hr, List.drop_eq_nil_of_le (by omega), crcF_nil]
  | succ d ih =>
    intro i r k hi hk hr
    obtain ⟨k, rfl⟩ : ∃ m, k = m + 9 + 1 := ⟨k - 10, by omega⟩
    have hb := rd_byte q hq i (by omega)
    obtain ⟨b, hbe⟩ := Int.eq_ofNat_of_zero_le hb.1
    have hbn : b < 256 := by omega
    have e1 : wrap64 ((i : Int) + 1) = ((i + 1 : Nat) : Int) := by unfold wrap64; omega
    have e2 : (r : Int) % 256 = ((r % 256 : Nat) : Int) := by omega
    have e3 : (r : Int) / 256 = ((r / 256 : Nat) : Int) := by omega
    have hx : r % 256 ^^^ b < 256 := Nat.xor_lt_two_pow (n := 8) (by omega) (by omega)
    have hc : crcI 8 (r % 256 ^^^ b) < 4294967296 := crcI_lt 8 _ (by omega)
    have hd : r / 256 < 4294967296 := by omega
    have hn : r / 256 ^^^ crcI 8 (r % 256 ^^^ b) < 4294967296 := Nat.xor_lt_two_pow (n := 32) hd hc
    have key := ih (i + 1) (r / 256 ^^^ crcI 8 (r % 256 ^^^ b)) (k + 9) (by omega) (by omega) hn
    have t1 : (i : Int) < (q.length : Int) := by omega
    have t2 : (0 : Int) ≤ (i : Int) := by omega
    have t3 : Go.bits .xor .u8 ((r : Int) % 256) (rd q i) = ((r % 256 ^^^ b : Nat) : Int) := by
      rw [e2, hbe]
      exact u8_xor_nat (r % 256) b (by omega) hbn
    have t4 : q.drop i = (b : Int) :: q.drop (i + 1) := by rw [rd_drop q i (by omega), hbe]
    have t5 := line_is k _ hx
    have t6 : Go.bits .xor .u32 ((r : Int) / 256) ((crcI 8 (r % 256 ^^^ b) : Nat) : Int) = ((r / 256 ^^^ crcI 8 (r % 256 ^^^ b) : Nat) : Int) := by
      rw [e3]
      exact u32_xor_nat _ _ hd hc
    clear ih e2 e3 hx hc hd
    rw [tally_More.l0, if_pos t1, if_pos t2, if_pos t1, t3, t5, Option.bind_some, t6, e1, key, t4, crcF_cons, Int.toNat_natCast, crcB, crc_step r b hbn]
theorem more_is (k s : Nat) (q : List Int) (hq : isBytes q) (hl : q.length < 1000000) (hk : q.length + 10 < k) (hs : s < 4294967296) : tally_More.f k (s : Int) q = some ((crcV (crcF (crcV s) q) : Nat) : Int) := by
  unfold tally_More.f
  rw [crcV_bits s hs]
  exact more_loop q hq hl q.length 0 _ k (by omega) hk (crcV_lt s hs)
theorem sum_is (k : Nat) (q : List Int) (hq : isBytes q) (hl : q.length < 1000000) (hk : q.length + 10 < k) : tally_Sum.f k q = some ((crcV (crcF crcM q) : Nat) : Int) := by
  unfold tally_Sum.f
  have h := more_is k 0 q hq hl hk (by omega)
  have e : crcV 0 = crcM := by unfold crcV; rw [Nat.xor_zero]
  rw [e] at h
  rw [show (0 : Int) = ((0 : Nat) : Int) from rfl, h, Option.bind_some]

/-! ## bursts -/
def crcN : List Int → Nat
  | [] => 0
  | b :: q => b.toNat ^^^ 256 * crcN q
theorem crcI_add : ∀ (m n x : Nat), crcI (m + n) x = crcI n (crcI m x)
  | 0, n, x => by rw [Nat.zero_add]; rfl
  | m + 1, n, x => by rw [show m + 1 + n = (m + n) + 1 by omega, crcI, crcI_add m n, crcI]
theorem mul_xor (n a b : Nat) : 2 ^ n * (a ^^^ b) = 2 ^ n * a ^^^ 2 ^ n * b := by
  apply Nat.eq_of_testBit_eq
  intro i
  rw [Nat.testBit_xor, Nat.testBit_two_pow_mul, Nat.testBit_two_pow_mul, Nat.testBit_two_pow_mul, Nat.testBit_xor]
  by_cases h : n ≤ i <;> simp [h]
theorem crcF_num : ∀ (q : List Int) (r : Nat), crcF r q = crcI (8 * q.length) (r ^^^ crcN q)
  | [], r => by
    rw [crcF_nil, crcN, Nat.xor_zero]
    rfl
  | b :: q, r => by
    have h : r ^^^ (b.toNat ^^^ 256 * crcN q) = (r ^^^ b.toNat) ^^^ 2 ^ 8 * crcN q := by rw [Nat.xor_assoc]
    rw [crcF_cons, crcF_num q, crcN, List.length_cons, show 8 * (q.length + 1) = 8 + 8 * q.length by omega, crcI_add, h, crcI_xor 8, crcI_shift, crcB]
theorem crcN_set : ∀ (q : List Int) (j : Nat) (v : Int) (e : Nat), j < q.length → v.toNat = (rd q (j : Nat)).toNat ^^^ e → crcN (q.set j v) = crcN q ^^^ 2 ^ (8 * j) * e
  | [], j, v, e, h, _ => by simp at h
  | b :: q, 0, v, e, _, hv => by
    have hb : rd (b :: q) ((0 : Nat) : Int) = b := rfl
    rw [hb] at hv
    rw [List.set_cons_zero, crcN, crcN, hv, Nat.mul_zero, Nat.pow_zero, Nat.one_mul]
    ac_rfl
  | b :: q, j + 1, v, e, h, hv => by
    have hb : rd (b :: q) ((j + 1 : Nat) : Int) = rd q (j : Nat) := rfl
    rw [hb] at hv
    have ih := crcN_set q j v e (by simpa using h) hv
    rw [List.set_cons_succ, crcN, crcN, ih, show (256 : Nat) = 2 ^ 8 from rfl, mul_xor, ← Nat.mul_assoc, ← Nat.pow_add, show 8 + 8 * j = 8 * (j + 1) by omega]
    ac_rfl
theorem xor_zero_eq {a b : Nat} (h : a ^^^ b = 0) : a = b := by
  have e : a ^^^ b ^^^ b = 0 ^^^ b := by rw [h]
  rw [Nat.xor_assoc, Nat.xor_self, Nat.xor_zero, Nat.zero_xor] at e
  exact e
theorem crcS_ne (x : Nat) (h : x < 4294967296) (hx : x ≠ 0) : crcS x ≠ 0 := by
  unfold crcS
  split
  · intro e
    have := xor_zero_eq e
    unfold crcP at this
    omega
  · omega
theorem crcI_ne : ∀ (n x : Nat), x < 4294967296 → x ≠ 0 → crcI n x ≠ 0
  | 0, _, _, h => h
  | n + 1, x, h, hx => crcI_ne n _ (crcS_lt x h) (crcS_ne x h hx)
/-- sums of two that differ by a burst -/
theorem burst (p q : List Int) (k t : Nat) (hl : q.length = p.length) (hk : k ≤ 8 * p.length) (ht : t < 4294967296) (hN : crcN q = crcN p ^^^ 2 ^ k * t) : (crcV (crcF crcM q) = crcV (crcF crcM p)) ↔ t = 0 := by
  have e : crcF crcM q = crcF crcM p ^^^ crcI (8 * p.length - k) t := by
    rw [crcF_num, crcF_num, hl, hN, ← Nat.xor_assoc, crcI_xor _ (crcM ^^^ crcN p)]
    have h : crcI (8 * p.length) (2 ^ k * t) = crcI (8 * p.length - k) t := by
      have : 8 * p.length = k + (8 * p.length - k) := by omega
      rw [this, crcI_add, crcI_shift, ← this]
    rw [h]
  constructor
  · intro h
    have h2 := congrArg crcV h
    rw [crcV_twice, crcV_twice, e] at h2
    apply Classical.byContradiction
    intro hx
    apply crcI_ne (8 * p.length - k) t ht hx
    have h3 := congrArg (fun z => crcF crcM p ^^^ z) h2
    simp only [xor_twice, Nat.xor_self] at h3
    exact h3
  · intro h
    rw [e, h]
    have z : ∀ n, crcI n 0 = 0 := fun n => by
      have := crcI_shift n 0
      rwa [Nat.mul_zero] at this
    rw [z, Nat.xor_zero]

theorem shr_bit (t i : Nat) (_ht : t < 4294967296) (hi : i < 32) : Int.tmod (shr .u32 (t : Int) (i : Int)) 2 = ((t / 2 ^ i % 2 : Nat) : Int) := by
  unfold shr
  have e : min ((i : Nat) : Int).toNat IntKind.u32.bits = i := by
    have : IntKind.u32.bits = 32 := rfl
    omega
  have e2 : ((t : Nat) : Int) / ((2 : Int) ^ i) = ((t / 2 ^ i : Nat) : Int) := by
    rw [show ((2 : Int) ^ i) = ((2 ^ i : Nat) : Int) by simp]
    omega
  rw [e, e2, Int.tmod_eq_emod_of_nonneg (Int.natCast_nonneg _)]
  omega
theorem shl_one (s : Nat) (hs : s < 8) : shl .u8 1 (s : Int) = ((2 ^ s : Nat) : Int) := by
  match s, hs with
  | 0, _ => rfl
  | 1, _ => rfl
  | 2, _ => rfl
  | 3, _ => rfl
  | 4, _ => rfl
  | 5, _ => rfl
  | 6, _ => rfl
  | 7, _ => rfl
theorem pow8_lt (s : Nat) (hs : s < 8) : 2 ^ s < 256 := by
  have : 2 ^ s < 2 ^ 8 := Nat.pow_lt_pow_right (by omega) hs
  omega
theorem flip_ne (t i : Nat) (ht : t < 2 ^ i) : t ^^^ 2 ^ i < 2 ^ (i + 1) ∧ t ^^^ 2 ^ i ≠ 0 := by
  have h2 : 2 ^ (i + 1) = 2 ^ i * 2 := Nat.pow_succ ..
  have hp : 0 < 2 ^ i := Nat.two_pow_pos i
  refine ⟨Nat.xor_lt_two_pow (by omega) (by omega), fun h => ?_⟩
  have := xor_zero_eq h
  omega
theorem isBytes_set (q : List Int) (hq : isBytes q) (j : Nat) (v : Int) (hv : 0 ≤ v ∧ v < 256) : isBytes (q.set j v) := by
  intro x hx
  rcases List.mem_or_eq_of_mem_set hx with h | h
  · exact hq x h
  · rw [h]; exact hv
theorem turns_end (p q : List Int) (hp : isBytes p) (hq : isBytes q) (hl : q.length = p.length) (hn : p.length ≤ 200) (kk t : Nat) (hkk : kk ≤ 8 * p.length) (ht : t < 4294967296)
    (hN : crcN q = crcN p ^^^ 2 ^ kk * t) (some_ : Bool) (hs : some_ = true ↔ t ≠ 0) (k : Nat) (hk : 300 < k) :
    ((tally_Sum.f k q).bind fun t111 => ((tally_Sum.f k p).bind fun t112 => (some ((t111 == t112) == (!some_))))) = some true := by
  rw [sum_is k q hq (by omega) (by omega), Option.bind_some, sum_is k p hp (by omega) (by omega), Option.bind_some]
  have hb := burst p q kk t hl hkk ht hN
  refine congrArg some ?_
  by_cases h : t = 0
  · have e : some_ = false := by
      cases some_ with
      | false => rfl
      | true => exact absurd h (hs.1 rfl)
    rw [hb.2 h, e]
    simp
  · have e : some_ = true := hs.2 h
    have ne : ¬ ((crcV (crcF crcM q) : Nat) : Int) = ((crcV (crcF crcM p) : Nat) : Int) := fun h2 => h (hb.1 (Int.natCast_inj.1 h2))
    rw [e, beq_eq_false_iff_ne.2 ne]
    rfl
theorem tdiv8 (n : Nat) (h : n < 1000000) : wrap64 (Int.tdiv (n : Int) 8) = ((n / 8 : Nat) : Int) := by
  rw [Int.tdiv_eq_ediv_of_nonneg (Int.natCast_nonneg _)]
  unfold wrap64
  omega
theorem tmod8 (n : Nat) : Int.tmod (n : Int) 8 = ((n % 8 : Nat) : Int) := by
  rw [Int.tmod_eq_emod_of_nonneg (Int.natCast_nonneg _)]
  omega
theorem turns_loop (p : List Int) (hp : isBytes p) (hn : p.length ≤ 200) (turn kk : Nat) (hturn : turn < 4294967296) (hkk : kk < 8 * p.length) (d : Nat) : ∀ (i t : Nat) (q : List Int) (b : Bool) (k : Nat), i + d = 32 → isBytes q → q.length = p.length → t < 2 ^ i →
    crcN q = crcN p ^^^ 2 ^ kk * t → (b = true ↔ t ≠ 0) → 400 + 2 * d < k → milestonelaw04_TallyTurns.l0 k p (turn : Int) q (kk : Int) b (i : Int) = some true := by
  induction d with
  | zero =>
    intro i t q b k hi hq hl ht hN hb hk
    obtain ⟨k, rfl⟩ : ∃ m, k = m + 1 + 1 := ⟨k - 2, by omega⟩
    have e : i = 32 := by omega
    subst e
    rw [milestonelaw04_TallyTurns.l0, if_neg (by omega), milestonelaw04_TallyTurns.j2, if_neg (by decide)]
    exact turns_end p q hp hq hl hn kk t (by omega) ht hN b hb k (by omega)
  | succ d ih =>
    intro i t q b k hi hq hl ht hN hb hk
    obtain ⟨k, rfl⟩ : ∃ m, k = m + 1 + 1 := ⟨k - 2, by omega⟩
    have ht32 : t < 4294967296 := Nat.lt_of_lt_of_le ht (Nat.pow_le_pow_right (by omega) (by omega : i ≤ 32))
    have hi1 : i + 1 + d = 32 := by clear hN ht ih hb; omega
    have hk1 : 400 + 2 * d < k := by clear hN ht ih hb; omega
    have hi32 : i < 32 := by clear hN ht ih hb; omega
    have i32 : (i : Int) < 32 := by clear hN ht ih hb; omega
    have hk3 : 300 < k := by clear hN ht ih hb; omega
    have hsm : kk + i < 1000000 := by clear hN ht ih hb; omega
    have h2 : 2 ^ (i + 1) = 2 ^ i * 2 := Nat.pow_succ ..
    have ht1 : t < 2 ^ (i + 1) := by clear hN ih hb; omega
    clear h2
    have w1 : wrap64 ((kk : Int) + (i : Int)) = ((kk + i : Nat) : Int) := by clear hN ht ih hb; unfold wrap64; omega
    have w2 : wrap64 (8 * (p.length : Int)) = ((8 * p.length : Nat) : Int) := by clear hN ht ih hb w1; unfold wrap64; omega
    have w5 : wrap64 ((i : Int) + 1) = ((i + 1 : Nat) : Int) := by clear hN ht ih hb w1 w2; unfold wrap64; omega
    rw [milestonelaw04_TallyTurns.l0, if_pos i32, milestonelaw04_TallyTurns.j2, w1, w2, w5]
    clear w1 w2 w5
    by_cases hlt : kk + i < 8 * p.length
    · have dt0 : ((kk + i : Nat) : Int) < ((8 * p.length : Nat) : Int) := Int.ofNat_lt.2 hlt
      have hj : (kk + i) / 8 < q.length := by clear hN ht ih hb; omega
      have j0 : (0 : Int) ≤ (i : Int) := Int.natCast_nonneg _
      have j1 : (0 : Int) ≤ (((kk + i) / 8 : Nat) : Int) := Int.natCast_nonneg _
      have j2 : (0 : Int) ≤ (((kk + i) % 8 : Nat) : Int) := Int.natCast_nonneg _
      have j3 : (((kk + i) / 8 : Nat) : Int) < (q.length : Int) := Int.ofNat_lt.2 hj
      have hm : (kk + i) % 8 < 8 := Nat.mod_lt _ (by decide)
      have hs := shr_bit turn i hturn hi32
      have dt : (decide (((kk + i : Nat) : Int) < ((8 * p.length : Nat) : Int))) = true := decide_eq_true dt0
      rw [dt, if_pos rfl, if_pos j0, hs, tdiv8 (kk + i) hsm, tmod8 (kk + i)]
      clear hs dt
      by_cases hbit : turn / 2 ^ i % 2 = 1
      · have hby := rd_byte q hq ((kk + i) / 8) hj
        obtain ⟨c, hc⟩ := Int.eq_ofNat_of_zero_le hby.1
        have hcn : c < 256 := by clear hN ht ih hb ht1; omega
        have hp8 := pow8_lt _ hm
        have hv : Go.bits .xor .u8 (rd q (((kk + i) / 8 : Nat) : Int)) (shl .u8 1 (((kk + i) % 8 : Nat) : Int)) = ((c ^^^ 2 ^ ((kk + i) % 8) : Nat) : Int) := by
          rw [hc, shl_one _ hm]
          exact u8_xor_nat c _ hcn hp8
        have hvb : c ^^^ 2 ^ ((kk + i) % 8) < 256 := Nat.xor_lt_two_pow (n := 8) hcn hp8
        rw [if_pos (by rw [hbit]; rfl), if_pos j1, if_pos j3, if_pos j2, hv, Int.toNat_natCast]
        have hset := crcN_set q ((kk + i) / 8) ((c ^^^ 2 ^ ((kk + i) % 8) : Nat) : Int) (2 ^ ((kk + i) % 8)) hj (by rw [hc, Int.toNat_natCast, Int.toNat_natCast])
        have hf := flip_ne t i ht
        refine ih (i + 1) (t ^^^ 2 ^ i) (q.set ((kk + i) / 8) ((c ^^^ 2 ^ ((kk + i) % 8) : Nat) : Int)) true k hi1 (isBytes_set q hq _ _ ⟨Int.natCast_nonneg _, Int.ofNat_lt.2 hvb⟩) (by rw [List.length_set]; exact hl) hf.1 ?_ ⟨fun _ => hf.2, fun _ => rfl⟩ hk1
        rw [hset, hN, mul_xor, ← Nat.pow_add, ← Nat.pow_add, Nat.div_add_mod (kk + i) 8, Nat.xor_assoc]
      · have hbn : ¬ ((turn / 2 ^ i % 2 : Nat) : Int) = 1 := fun e => hbit (Int.natCast_inj.1 e)
        rw [if_neg hbn]
        exact ih (i + 1) t q b k hi1 hq hl ht1 hN hb hk1
    · have df : (decide (((kk + i : Nat) : Int) < ((8 * p.length : Nat) : Int))) = false := decide_eq_false (fun e => hlt (Int.ofNat_lt.1 e))
      rw [df, if_neg (by decide)]
      exact turns_end p q hp hq hl hn kk t (Nat.le_of_lt hkk) ht32 hN b hb k hk3
theorem nine : isBytes [49, 50, 51, 52, 53, 54, 55, 56, 57] := by
  intro x hx
  simp only [List.mem_cons, List.not_mem_nil, or_false] at hx
  omega
theorem nine_sum : crcV (crcF crcM [49, 50, 51, 52, 53, 54, 55, 56, 57]) = 3808858755 := by decide +kernel
theorem awake_is (k : Nat) (hk : 19 < k) : milestonelaw04_awake.f k = some true := by
  unfold milestonelaw04_awake.f
  rw [sum_is k _ nine (by decide) hk, Option.bind_some, nine_sum]
  rfl
theorem TallyTurns : milestonelaw04_TallyTurns.Pure := by
  intro p at_ turn _ _ hp hat hturn
  have hp : isBytes p := fun x hx => by have := Go.bounds_u8 (hp x hx); omega
  have hat := Go.bounds_u16 hat
  have hturn := Go.bounds_u32 hturn
  refine ⟨4001, ?_⟩
  unfold milestonelaw04_TallyTurns.f
  rw [awake_is 4001 (by omega), Option.bind_some, if_pos rfl]
  have big : milestonelaw04_TallyTurns.j0 4001 p at_ turn true = some true := by
    rw [milestonelaw04_TallyTurns.j0, if_pos rfl, awake_is 4000 (by omega), Option.bind_some]
  by_cases h1 : (p.length : Int) = 0
  · rw [if_pos h1, big]
  · rw [if_neg h1]
    by_cases h2 : (p.length : Int) > 200
    · rw [if_pos h2, big]
    · rw [if_neg h2]
      by_cases h3 : turn = 0
      · rw [h3] at big ⊢
        exact big
      · obtain ⟨a, ha⟩ := Int.eq_ofNat_of_zero_le (show 0 ≤ at_ by omega)
        obtain ⟨t, ht⟩ := Int.eq_ofNat_of_zero_le (show 0 ≤ turn by omega)
        subst ha ht
        have w1 : wrap64 (a : Int) = (a : Int) := by unfold wrap64; omega
        have w2 : wrap64 (8 * (p.length : Int)) = ((8 * p.length : Nat) : Int) := by unfold wrap64; omega
        have w3 : Int.tmod (a : Int) ((8 * p.length : Nat) : Int) = ((a % (8 * p.length) : Nat) : Int) := by
          rw [Int.tmod_eq_emod_of_nonneg (by omega)]
          omega
        have hm : a % (8 * p.length) < 8 * p.length := Nat.mod_lt _ (by omega)
        rw [beq_eq_false_iff_ne.2 h3, milestonelaw04_TallyTurns.j0, if_neg (by decide), w1, w2, w3, if_pos (by simp; omega), if_neg (by omega), List.nil_append]
        refine turns_loop p hp (by omega) t (a % (8 * p.length)) (by omega) hm 32 0 0 p false 4000 rfl hp rfl (by omega) ?_ (by simp) (by omega)
        rw [Nat.mul_zero, Nat.xor_zero]

end Go.Proofs.Ytpcohoeafldpmaa.Pure
