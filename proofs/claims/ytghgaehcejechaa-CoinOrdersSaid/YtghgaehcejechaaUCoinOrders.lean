/- The bytes of two numbers stand in the order of the numbers, and are the same just where the numbers are.
For every input; no condition is added to the given statement. -/
import Derived.Test.YtghgaehcejechaaQCoinOrdersx1
import Derived.Laws.BitsAllLaws
import Derived.OpenShut
import Derived.Lib.Bytes
namespace Go.Proofs.Ytghgaehcejechaa.Pure
open Go.RowKit Go.Proofs.Ytghgaehcejechaa.QCoinOrders Go.Proofs.YtghgaehcejechaaW.PrintWords Go.Proofs.YtghgaehcejechaaW.PrintLast Go.Proofs.YtghgaehcejechaaW.PrintMore
set_option linter.unusedSimpArgs false
set_option linter.unusedVariables false

/-! ## how many bits a number has -/
abbrev T8 : ByteArray := (⟨#[0, 1, 2, 2, 3, 3, 3, 3, 4, 4, 4, 4, 4, 4, 4, 4, 5, 5, 5, 5, 5, 5, 5, 5, 5, 5, 5, 5, 5, 5, 5, 5, 6, 6, 6, 6, 6, 6, 6, 6, 6, 6, 6, 6, 6, 6, 6, 6, 6, 6, 6, 6, 6, 6, 6, 6, 6, 6, 6, 6, 6, 6, 6, 6, 7, 7, 7, 7, 7, 7, 7, 7, 7, 7, 7, 7, 7, 7, 7, 7, 7, 7, 7, 7, 7, 7, 7, 7, 7, 7, 7, 7, 7, 7, 7, 7, 7, 7, 7, 7, 7, 7, 7, 7, 7, 7, 7, 7, 7, 7, 7, 7, 7, 7, 7, 7, 7, 7, 7, 7, 7, 7, 7, 7, 7, 7, 7, 7, 8, 8, 8, 8, 8, 8, 8, 8, 8, 8, 8, 8, 8, 8, 8, 8, 8, 8, 8, 8, 8, 8, 8, 8, 8, 8, 8, 8, 8, 8, 8, 8, 8, 8, 8, 8, 8, 8, 8, 8, 8, 8, 8, 8, 8, 8, 8, 8, 8, 8, 8, 8, 8, 8, 8, 8, 8, 8, 8, 8, 8, 8, 8, 8, 8, 8, 8, 8, 8, 8, 8, 8, 8, 8, 8, 8, 8, 8, 8, 8, 8, 8, 8, 8, 8, 8, 8, 8, 8, 8, 8, 8, 8, 8, 8, 8, 8, 8, 8, 8, 8, 8, 8, 8, 8, 8, 8, 8, 8, 8, 8, 8, 8, 8, 8, 8, 8, 8, 8, 8, 8, 8, 8, 8, 8, 8, 8, 8]⟩ : ByteArray)
theorem t8_all : ((List.range 256).all fun i => (List.range 9).all fun j => (decide (i < 2 ^ j)) == decide (bt T8 (i : Int) ≤ (j : Int))) = true := by decide +kernel
theorem t8_bd : ((List.range 256).all fun i => decide (0 ≤ bt T8 (i : Int) ∧ bt T8 (i : Int) ≤ 8)) = true := by decide +kernel
theorem t8 (i : Nat) (h : i < 256) : ∃ L : Nat, bt T8 (i : Int) = (L : Int) ∧ L ≤ 8 ∧ ∀ j, j ≤ 8 → (i < 2 ^ j ↔ L ≤ j) := by
  have h1 : ((List.range 9).all fun j => (decide (i < 2 ^ j)) == decide (bt T8 (i : Int) ≤ (j : Int))) = true := List.all_eq_true.1 t8_all i (List.mem_range.2 h)
  have h2 : 0 ≤ bt T8 (i : Int) ∧ bt T8 (i : Int) ≤ 8 := of_decide_eq_true (List.all_eq_true.1 t8_bd i (List.mem_range.2 h))
  refine ⟨(bt T8 (i : Int)).toNat, by omega, by omega, fun j hj => ?_⟩
  have h3 : ((decide (i < 2 ^ j)) == decide (bt T8 (i : Int) ≤ (j : Int))) = true := List.all_eq_true.1 h1 j (List.mem_range.2 (by omega))
  rw [beq_iff_eq, decide_eq_decide] at h3
  omega
theorem up (c B w n L : Nat) (hB : 2 ^ c = B) (hc : B ≤ n) (h : ∀ j, j ≤ w → (n / B < 2 ^ j ↔ L ≤ j)) : ∀ j, j ≤ w + c → (n < 2 ^ j ↔ L + c ≤ j) := by
  intro j hj
  subst hB
  by_cases hcj : c ≤ j
  · obtain ⟨d, rfl⟩ : ∃ d, j = d + c := ⟨j - c, by omega⟩
    have := h d (by omega)
    rw [Nat.div_lt_iff_lt_mul (Nat.two_pow_pos c), ← Nat.pow_add] at this
    omega
  · have : 2 ^ j ≤ 2 ^ c := Nat.pow_le_pow_right (by omega) (by omega)
    omega
theorem wide (w n L : Nat) (hn : n < 2 ^ w) (hL : L ≤ w) (h : ∀ j, j ≤ w → (n < 2 ^ j ↔ L ≤ j)) : ∀ j, (n < 2 ^ j ↔ L ≤ j) := by
  intro j
  by_cases hj : j ≤ w
  · exact h j hj
  · have : 2 ^ w ≤ 2 ^ j := Nat.pow_le_pow_right (by omega) (by omega)
    omega
theorem len_low (k n : Nat) (c : Int) (hc : 0 ≤ c ∧ c ≤ 32) (hn : n < 4294967296) : ∃ L : Nat, bits_Len64.j0 (k + 1) (n : Int) c = some (c + L) ∧ L ≤ 32 ∧ ∀ j, (n < 2 ^ j ↔ L ≤ j) := by
  rw [bits_Len64.j0]
  by_cases a : n ≥ 65536
  · rw [if_pos (by omega)]
    by_cases b : n / 65536 ≥ 256
    · obtain ⟨L, hL, h8, hj⟩ := t8 (n / 65536 / 256) (by omega)
      have e : ((n : Int) / 65536 / 256) % 256 = ((n / 65536 / 256 : Nat) : Int) := by omega
      rw [if_pos (by omega), if_pos (by omega), if_pos (by omega), e, hL]
      refine ⟨L + 8 + 16, ?_, by omega, wide 32 n _ (by omega) (by omega) (up 16 65536 16 n (L + 8) rfl (by omega) (up 8 256 8 (n / 65536) L rfl (by omega) hj))⟩
      refine congrArg some ?_
      unfold wrap64
      omega
    · obtain ⟨L, hL, h8, hj⟩ := t8 (n / 65536) (by omega)
      have e : ((n : Int) / 65536) % 256 = ((n / 65536 : Nat) : Int) := by omega
      rw [if_neg (by omega), if_pos (by omega), if_pos (by omega), e, hL]
      refine ⟨L + 16, ?_, by omega, wide 24 n _ (by omega) (by omega) (up 16 65536 8 n L rfl (by omega) hj)⟩
      refine congrArg some ?_
      unfold wrap64
      omega
  · rw [if_neg (by omega)]
    by_cases b : n ≥ 256
    · obtain ⟨L, hL, h8, hj⟩ := t8 (n / 256) (by omega)
      have e : ((n : Int) / 256) % 256 = ((n / 256 : Nat) : Int) := by omega
      rw [if_pos (by omega), if_pos (by omega), if_pos (by omega), e, hL]
      refine ⟨L + 8, ?_, by omega, wide 16 n _ (by omega) (by omega) (up 8 256 8 n L rfl (by omega) hj)⟩
      refine congrArg some ?_
      unfold wrap64
      omega
    · obtain ⟨L, hL, h8, hj⟩ := t8 n (by omega)
      have e : (n : Int) % 256 = (n : Int) := by omega
      rw [if_neg (by omega), if_pos (by omega), if_pos (by omega), e, hL]
      refine ⟨L, ?_, by omega, wide 8 n _ (by omega) (by omega) hj⟩
      refine congrArg some ?_
      unfold wrap64
      omega
theorem len_is (k n : Nat) (hn : n < 18446744073709551616) : ∃ L : Nat, bits_Len64.f (k + 1) (n : Int) = some (L : Int) ∧ L ≤ 64 ∧ ∀ j, (n < 2 ^ j ↔ L ≤ j) := by
  unfold bits_Len64.f
  by_cases a : n ≥ 4294967296
  · obtain ⟨L, hL, h32, hj⟩ := len_low k (n / 4294967296) 32 (by omega) (by omega)
    have e : (n : Int) / 4294967296 = ((n / 4294967296 : Nat) : Int) := by omega
    rw [if_pos (by omega), e, hL]
    refine ⟨L + 32, ?_, by omega, wide 64 n _ (by omega) (by omega) (up 32 4294967296 32 n L rfl (by omega) (fun j _ => hj j))⟩
    refine congrArg some ?_
    omega
  · obtain ⟨L, hL, h32, hj⟩ := len_low k n 0 (by omega) (by omega)
    rw [if_neg (by omega), hL]
    exact ⟨L, congrArg some (by omega), by omega, hj⟩

/-! ## how many bytes it takes -/
theorem size_is (k n : Nat) (hn : n < 18446744073709551616) : ∃ s : Nat, coin_Size.f (k + 1) (n : Int) = some (s : Int) ∧ 1 ≤ s ∧ s ≤ 9 ∧ ∀ i, 1 ≤ i → i ≤ 8 → (s ≤ i ↔ n < 2 ^ (7 * i)) := by
  obtain ⟨L, hL, h64, hj⟩ := len_is k n hn
  refine ⟨max 1 (min 9 ((L + 6) / 7)), ?_, by omega, by omega, fun i h1 h8 => ?_⟩
  · unfold coin_Size.f
    rw [hL, Option.bind_some]
    refine congrArg some ?_
    have e : wrap64 (Int.tdiv (wrap64 ((L : Int) + 6)) 7) = (((L + 6) / 7 : Nat) : Int) := by
      have : wrap64 ((L : Int) + 6) = ((L + 6 : Nat) : Int) := by unfold wrap64; omega
      rw [this, Int.tdiv_eq_ediv_of_nonneg (by omega)]
      unfold wrap64
      omega
    rw [e]
    unfold mx mn
    (repeat' split) <;> omega
  · rw [hj]
    omega

/-! ## a number as bytes -/
def tl (n : Nat) : Nat → List Int
  | 0 => []
  | i + 1 => ((n / 256 ^ i % 256 : Nat) : Int) :: tl n i
def hd1 (s n : Nat) : Int := if s = 9 then 255 else ((256 - 2 ^ (9 - s) + n / 256 ^ (s - 1) : Nat) : Int)
def cb (s n : Nat) : List Int := hd1 s n :: tl n (s - 1)
/-- how many bytes n takes -/
def Takes (s n : Nat) : Prop := 1 ≤ s ∧ s ≤ 9 ∧ ∀ i, 1 ≤ i → i ≤ 8 → (s ≤ i ↔ n < 2 ^ (7 * i))
theorem tl_length (n : Nat) : ∀ i, (tl n i).length = i
  | 0 => rfl
  | i + 1 => by simp [tl, tl_length n i]
theorem shr_is (n i : Nat) (hi : i ≤ 8) : (shr .u64 (n : Int) ((8 * i : Nat) : Int)) % 256 = ((n / 256 ^ i % 256 : Nat) : Int) := by
  unfold shr
  have e : min ((8 * i : Nat) : Int).toNat IntKind.u64.bits = 8 * i := by
    have : IntKind.u64.bits = 64 := rfl
    omega
  have e2 : (2 : Int) ^ (8 * i) = ((256 ^ i : Nat) : Int) := by
    rw [show (256 : Nat) = 2 ^ 8 from rfl, ← Nat.pow_mul]
    simp
  rw [e, e2]
  omega
theorem put_loop (n : Nat) : ∀ i : Nat, i ≤ 8 → ∀ (k : Nat) (acc : List Int), i < k → acc.length + i < 140737488355328 → coin_Put.l0 k acc (n : Int) ((i : Int) - 1) = some (acc ++ tl n i) := by
  intro i
  induction i with
  | zero =>
    intro _ k acc hk _
    obtain ⟨k, rfl⟩ : ∃ m, k = m + 1 := ⟨k - 1, by omega⟩
    rw [coin_Put.l0, if_neg (by omega), tl, List.append_nil]
  | succ i ih =>
    intro hi k acc hk hl
    obtain ⟨k, rfl⟩ : ∃ m, k = m + 1 := ⟨k - 1, by omega⟩
    have e1 : wrap64 (8 * (((i + 1 : Nat) : Int) - 1)) = ((8 * i : Nat) : Int) := by unfold wrap64; omega
    have e2 : wrap64 (((i + 1 : Nat) : Int) - 1 - 1) = (i : Int) - 1 := by unfold wrap64; omega
    rw [coin_Put.l0, if_pos (by omega), e1, e2, if_pos (by omega), if_pos (by omega), shr_is n i (by omega)]
    rw [ih (by omega) k (acc ++ [((n / 256 ^ i % 256 : Nat) : Int)]) (by omega) (by simp; omega), tl, List.append_assoc]
    rfl
theorem lead_all : ((List.range 8).all fun q => (List.range 128).all fun h => (!decide (h < 2 ^ (7 - q))) || decide (bits .or .u8 (shl .u8 255 ((8 - q : Nat) : Int)) (h : Int) = ((256 - 2 ^ (8 - q) + h : Nat) : Int))) = true := by decide +kernel
theorem lead_is (q h : Nat) (hq : q < 8) (hh : h < 2 ^ (7 - q)) : bits .or .u8 (shl .u8 255 ((8 - q : Nat) : Int)) (h : Int) = ((256 - 2 ^ (8 - q) + h : Nat) : Int) := by
  have h7 : 2 ^ (7 - q) ≤ 2 ^ 7 := Nat.pow_le_pow_right (by omega) (by omega)
  have h1 : ((List.range 128).all fun h => (!decide (h < 2 ^ (7 - q))) || decide (bits .or .u8 (shl .u8 255 ((8 - q : Nat) : Int)) (h : Int) = ((256 - 2 ^ (8 - q) + h : Nat) : Int))) = true := List.all_eq_true.1 lead_all q (List.mem_range.2 hq)
  have h2 : ((!decide (h < 2 ^ (7 - q))) || decide (bits .or .u8 (shl .u8 255 ((8 - q : Nat) : Int)) (h : Int) = ((256 - 2 ^ (8 - q) + h : Nat) : Int))) = true := List.all_eq_true.1 h1 h (List.mem_range.2 (by omega))
  rw [decide_eq_true hh, Bool.not_true, Bool.false_or] at h2
  exact of_decide_eq_true h2
theorem high_small (s n : Nat) (h1 : 1 ≤ s) (h8 : s ≤ 8) (hn : n < 2 ^ (7 * s)) : n / 256 ^ (s - 1) < 2 ^ (8 - s) := by
  apply Nat.div_lt_of_lt_mul
  rw [show (256 : Nat) = 2 ^ 8 from rfl, ← Nat.pow_mul, ← Nat.pow_add]
  rwa [show 8 * (s - 1) + (8 - s) = 7 * s by omega]
theorem put_of (k s n : Nat) (p : List Int) (hs : Takes s n) (hz : coin_Size.f (k + 11) (n : Int) = some (s : Int)) (hp : p.length + 9 < 140737488355328) : coin_Put.f (k + 11) p (n : Int) = some (p ++ cb s n) := by
  obtain ⟨h1, h9, hs⟩ := hs
  have e3 : wrap64 ((s : Int) - 2) = ((s - 1 : Nat) : Int) - 1 := by unfold wrap64; omega
  unfold coin_Put.f
  rw [hz, Option.bind_some]
  by_cases h : s = 9
  · rw [if_pos (by omega), if_pos (by omega), coin_Put.j0, e3, put_loop n (s - 1) (by omega) _ _ (by omega) (by simp; omega), List.append_assoc]
    unfold cb hd1
    rw [if_pos h]
    rfl
  · have hn := (hs s h1 (by omega)).1 (Nat.le_refl _)
    have e1 : wrap64 (9 - (s : Int)) = ((8 - (s - 1) : Nat) : Int) := by unfold wrap64; omega
    have e2 : wrap64 (8 * (wrap64 ((s : Int) - 1))) = ((8 * (s - 1) : Nat) : Int) := by unfold wrap64; omega
    have hh := high_small s n h1 (by omega) hn
    have hb : n / 256 ^ (s - 1) < 2 ^ (7 - (s - 1)) := by rwa [show 7 - (s - 1) = 8 - s by omega]
    have h7 : 2 ^ (7 - (s - 1)) ≤ 2 ^ 7 := Nat.pow_le_pow_right (by omega) (by omega)
    rw [if_neg (by omega), e1, e2, if_pos (by omega), if_pos (by omega), if_pos (by omega), shr_is n (s - 1) (by omega), Nat.mod_eq_of_lt (by omega), lead_is (s - 1) _ (by omega) hb, coin_Put.j0, e3, put_loop n (s - 1) (by omega) _ _ (by omega) (by simp; omega), List.append_assoc]
    unfold cb hd1
    rw [if_neg h, show 8 - (s - 1) = 9 - s by omega]
    rfl
theorem put_is (k n : Nat) (hn : n < 18446744073709551616) : ∃ s, Takes s n ∧ coin_Size.f (k + 11) (n : Int) = some (s : Int) ∧ ∀ p : List Int, p.length + 9 < 140737488355328 → coin_Put.f (k + 11) p (n : Int) = some (p ++ cb s n) := by
  obtain ⟨s, hz, h1, h9, hs⟩ := size_is (k + 10) n hn
  exact ⟨s, ⟨h1, h9, hs⟩, hz, fun p hp => put_of k s n p ⟨h1, h9, hs⟩ hz hp⟩

/-! ## the order of bytes -/
def ltL : List Int → List Int → Bool
  | _, [] => false
  | [], _ :: _ => true
  | a :: x, b :: y => decide (a < b) || (decide (a = b) && ltL x y)
def isBytes (l : List Int) : Prop := ∀ x ∈ l, 0 ≤ x ∧ x < 256
theorem byte_lt (a b : Int) (ha : 0 ≤ a ∧ a < 256) (hb : 0 ≤ b ∧ b < 256) : (UInt8.ofNat a.toNat < UInt8.ofNat b.toNat) ↔ a < b := by
  rw [UInt8.lt_iff_toNat_lt, UInt8.toNat_ofNat', UInt8.toNat_ofNat', Nat.mod_eq_of_lt (by omega), Nat.mod_eq_of_lt (by omega)]
  omega
theorem byte_eq (a b : Int) (ha : 0 ≤ a ∧ a < 256) (hb : 0 ≤ b ∧ b < 256) : (UInt8.ofNat a.toNat = UInt8.ofNat b.toNat) ↔ a = b := by
  rw [← UInt8.toNat_inj, UInt8.toNat_ofNat', UInt8.toNat_ofNat', Nat.mod_eq_of_lt (by omega), Nat.mod_eq_of_lt (by omega)]
  omega
theorem less_is : ∀ (x y : List Int), isBytes x → isBytes y → Op.bytesLess (x.map fun n => UInt8.ofNat n.toNat) (y.map fun n => UInt8.ofNat n.toNat) = ltL x y
  | x, [], _, _ => by cases x <;> rfl
  | [], _ :: _, _, _ => rfl
  | a :: x, b :: y, hx, hy => by
    have ih := less_is x y (fun z hz => hx z (List.mem_cons_of_mem _ hz)) (fun z hz => hy z (List.mem_cons_of_mem _ hz))
    have ha := hx a List.mem_cons_self
    have hb := hy b List.mem_cons_self
    simp only [List.map_cons, Op.bytesLess, ltL]
    rw [ih]
    congr 1
    · rw [decide_eq_decide]; exact byte_lt a b ha hb
    · congr 1
      rw [Bool.eq_iff_iff, beq_iff_eq, decide_eq_true_iff]; exact byte_eq a b ha hb
theorem same_is : ∀ (x y : List Int), isBytes x → isBytes y → ((x.map fun n => UInt8.ofNat n.toNat) = (y.map fun n => UInt8.ofNat n.toNat) ↔ x = y)
  | [], [], _, _ => by simp
  | [], _ :: _, _, _ => by simp
  | _ :: _, [], _, _ => by simp
  | a :: x, b :: y, hx, hy => by
    have ih := same_is x y (fun z hz => hx z (List.mem_cons_of_mem _ hz)) (fun z hz => hy z (List.mem_cons_of_mem _ hz))
    rw [List.map_cons, List.map_cons, List.cons.injEq, List.cons.injEq, ih, byte_eq a b (hx a List.mem_cons_self) (hy b List.mem_cons_self)]
theorem tl_bytes (n : Nat) : ∀ i, isBytes (tl n i)
  | 0 => by intro x hx; simp [tl] at hx
  | i + 1 => by
    intro x hx
    rw [tl, List.mem_cons] at hx
    rcases hx with rfl | hx
    · omega
    · exact tl_bytes n i x hx
theorem hd1_bytes (s n : Nat) (h : Takes s n) : 0 ≤ hd1 s n ∧ hd1 s n < 256 := by
  obtain ⟨h1, h9, hs⟩ := h
  unfold hd1
  by_cases h : s = 9
  · rw [if_pos h]; omega
  · rw [if_neg h]
    have hh := high_small s n h1 (by omega) ((hs s h1 (by omega)).1 (Nat.le_refl _))
    have e : 2 ^ (9 - s) = 2 * 2 ^ (8 - s) := by rw [show 9 - s = (8 - s) + 1 by omega, Nat.pow_succ]; omega
    have h8 : 2 ^ (8 - s) ≤ 2 ^ 7 := Nat.pow_le_pow_right (by omega) (by omega)
    generalize n / 256 ^ (s - 1) = q at hh ⊢
    omega
theorem cb_bytes (s n : Nat) (h : Takes s n) : isBytes (cb s n) := by
  intro x hx
  rw [cb, List.mem_cons] at hx
  rcases hx with rfl | hx
  · exact hd1_bytes s n h
  · exact tl_bytes n _ x hx
theorem lex_nat (X a b : Nat) (hX : 0 < X) : (a < b) ↔ (a / X < b / X ∨ a / X = b / X ∧ a % X < b % X) := by
  have ha := Nat.div_add_mod a X
  have hb := Nat.div_add_mod b X
  have ra := Nat.mod_lt a hX
  have rb := Nat.mod_lt b hX
  constructor
  · intro h
    by_cases e : a / X < b / X
    · exact .inl e
    · have e1 : b / X ≤ a / X := by omega
      have e2 : a / X ≤ b / X := Nat.div_le_div_right (by omega)
      have e3 : a / X = b / X := by omega
      refine .inr ⟨e3, ?_⟩
      rw [e3] at ha
      omega
  · rintro (h | ⟨h, h2⟩)
    · have : X * (a / X) + X ≤ X * (b / X) := by
        have := Nat.mul_le_mul_left X h
        rw [Nat.mul_succ] at this
        exact this
      omega
    · rw [h] at ha
      omega
theorem tl_lt (a b : Nat) : ∀ i, ltL (tl a i) (tl b i) = decide (a % 256 ^ i < b % 256 ^ i)
  | 0 => by simp [tl, ltL, Nat.mod_one]
  | i + 1 => by
    rw [tl, tl, ltL, tl_lt a b i]
    have hX : 0 < 256 ^ i := Nat.pow_pos (by omega)
    have h := lex_nat (256 ^ i) (a % 256 ^ (i + 1)) (b % 256 ^ (i + 1)) hX
    have d : ∀ n : Nat, n % 256 ^ (i + 1) / 256 ^ i = n / 256 ^ i % 256 := by
      intro n
      rw [Nat.pow_succ, Nat.mod_mul_right_div_self]
    have m : ∀ n : Nat, n % 256 ^ (i + 1) % 256 ^ i = n % 256 ^ i := by
      intro n
      rw [Nat.pow_succ, Nat.mod_mul_right_mod]
    rw [d, d, m, m] at h
    rw [← Bool.decide_and, ← Bool.decide_or, decide_eq_decide, h]
    omega
theorem cb_lt (s t a b : Nat) (hs : Takes s a) (ht : Takes t b) (ha : a < 18446744073709551616) (hb : b < 18446744073709551616) : ltL (cb s a) (cb t b) = decide (a < b) := by
  have far : ∀ (s t a b : Nat), Takes s a → Takes t b → s < t → a < b ∧ hd1 s a < hd1 t b := by
    intro s t a b hs ht hst
    obtain ⟨h1, h9, hs⟩ := hs
    obtain ⟨g1, g9, ht⟩ := ht
    have l1 := (hs s h1 (by omega)).1 (Nat.le_refl _)
    have l2 : ¬ b < 2 ^ (7 * s) := fun h => by have := (ht s h1 (by omega)).2 h; omega
    refine ⟨by omega, ?_⟩
    have hh := high_small s a h1 (by omega) l1
    have e : 2 ^ (9 - s) = 2 * 2 ^ (8 - s) := by rw [show 9 - s = (8 - s) + 1 by omega, Nat.pow_succ]; omega
    have p : 0 < 2 ^ (8 - s) := Nat.two_pow_pos _
    have h8 : 2 ^ (8 - s) ≤ 2 ^ 7 := Nat.pow_le_pow_right (by omega) (by omega)
    unfold hd1
    rw [if_neg (by omega)]
    by_cases h : t = 9
    · rw [if_pos h]; omega
    · rw [if_neg h]
      have : 2 ^ (9 - t) ≤ 2 ^ (8 - s) := Nat.pow_le_pow_right (by omega) (by omega)
      generalize a / 256 ^ (s - 1) = q at hh ⊢
      generalize b / 256 ^ (t - 1) = q2
      omega
  rcases Nat.lt_trichotomy s t with h | h | h
  · obtain ⟨h1, h2⟩ := far s t a b hs ht h
    rw [decide_eq_true h1]
    simp [cb, ltL, h2]
  · subst h
    rw [cb, cb, ltL, tl_lt]
    have hX : 0 < 256 ^ (s - 1) := Nat.pow_pos (by omega)
    have h := lex_nat (256 ^ (s - 1)) a b hX
    rw [← Bool.decide_and, ← Bool.decide_or, decide_eq_decide, h]
    unfold hd1
    by_cases h9 : s = 9
    · subst h9
      rw [if_pos rfl, if_pos rfl]
      have e : 256 ^ (9 - 1) = 18446744073709551616 := rfl
      rw [e, Nat.div_eq_of_lt ha, Nat.div_eq_of_lt hb]
      omega
    · rw [if_neg h9, if_neg h9]
      omega
  · obtain ⟨h1, h2⟩ := far t s b a ht hs h
    rw [decide_eq_false (by omega)]
    have : ¬ hd1 s a < hd1 t b := by omega
    have h3 : ¬ hd1 s a = hd1 t b := by omega
    simp [cb, ltL, this, h3]
theorem ltL_irrefl : ∀ x : List Int, ltL x x = false
  | [] => rfl
  | a :: x => by simp [ltL, ltL_irrefl x]
theorem cb_inj (s t a b : Nat) (hs : Takes s a) (ht : Takes t b) (ha : a < 18446744073709551616) (hb : b < 18446744073709551616) (h : cb s a = cb t b) : a = b := by
  have h1 := cb_lt s t a b hs ht ha hb
  have h2 := cb_lt t s b a ht hs hb ha
  rw [h, ltL_irrefl] at h1
  rw [h, ltL_irrefl] at h2
  have h1 := of_decide_eq_false h1.symm
  have h2 := of_decide_eq_false h2.symm
  omega
theorem takes_one (s t a : Nat) (hs : Takes s a) (ht : Takes t a) : s = t := by
  obtain ⟨h1, h9, hs⟩ := hs
  obtain ⟨g1, g9, ht⟩ := ht
  by_cases e : s ≤ 8
  · have := (ht s h1 e).2 ((hs s h1 e).1 (Nat.le_refl _))
    by_cases f : t ≤ 8
    · have := (hs t g1 f).2 ((ht t g1 f).1 (Nat.le_refl _))
      omega
    · omega
  · by_cases f : t ≤ 8
    · have := (hs t g1 f).2 ((ht t g1 f).1 (Nat.le_refl _))
      omega
    · omega

theorem awake_any (k : Nat) : milestonelaw03_awake.f (k + 11) = some true := by
  obtain ⟨s, hs, _, hp⟩ := put_is k 300 (by omega)
  have h2 : s = 2 := by
    have a := (hs.2.2 2 (by omega) (by omega)).2 (by omega)
    have b := hs.2.2 1 (by omega) (by omega)
    omega
  subst h2
  have e : cb 2 300 = [129, 44] := by decide +kernel
  unfold milestonelaw03_awake.f
  have hp0 := hp [] (by simp)
  rw [show ((300 : Nat) : Int) = 300 from rfl] at hp0
  rw [hp0, Option.bind_some, List.nil_append, e]
  simp [rd]
theorem str_list (x : List Int) : (strOfNums x).toList = x.map fun n => UInt8.ofNat n.toNat := by
  rw [Lib.strOfNums_toList]
  rfl
theorem wr64 (n : Int) : IntKind.u64.wrap n = n % 18446744073709551616 := by
  simp [IntKind.wrap, IntKind.signed, IntKind.bits]

theorem orders_key (k a b : Nat) (ha : a < 18446744073709551616) (hb : b < 18446744073709551616) :
    ((coin_Put.f (k + 11) ([] : List Int) (a : Int)).bind fun t117 => ((coin_Put.f (k + 11) ([] : List Int) (b : Int)).bind fun t120 => ((milestonelaw03_awake.f (k + 11)).bind fun t123 => (if t123 = true then (if ((Op.bytesLess ((strOfNums t117).toList) ((strOfNums t120).toList)) == (decide ((a : Int) < (b : Int)))) = true then (some (((strOfNums t117).toList == (strOfNums t120).toList) == ((a : Int) == (b : Int)))) else (some false)) else (some false))))) = some true := by
  obtain ⟨s, hs, _, hp⟩ := put_is k a ha
  obtain ⟨t, ht, _, hq⟩ := put_is k b hb
  rw [hp [] (by simp), Option.bind_some, hq [] (by simp), Option.bind_some, awake_any, Option.bind_some, if_pos rfl, List.nil_append, List.nil_append, str_list, str_list, less_is _ _ (cb_bytes s a hs) (cb_bytes t b ht), cb_lt s t a b hs ht ha hb]
  rw [if_pos]
  · refine congrArg some ?_
    rw [beq_iff_eq, Bool.eq_iff_iff, beq_iff_eq, beq_iff_eq, same_is _ _ (cb_bytes s a hs) (cb_bytes t b ht)]
    constructor
    · intro h
      have := cb_inj s t a b hs ht ha hb h
      omega
    · intro h
      have h : a = b := by omega
      subst h
      rw [takes_one s t a hs ht]
  · rw [beq_iff_eq, decide_eq_decide]
    omega

theorem CoinOrders : milestonelaw03_CoinOrders.Pure := by
  intro a b near ha hb
  have ha := Go.bounds_u64 ha
  have hb := Go.bounds_u64 hb
  obtain ⟨a, rfl⟩ := Int.eq_ofNat_of_zero_le ha.1
  obtain ⟨b, rfl⟩ := Int.eq_ofNat_of_zero_le hb.1
  refine ⟨0 + 11, ?_⟩
  unfold milestonelaw03_CoinOrders.f
  cases near with
  | true =>
    rw [if_pos rfl]
    have e : IntKind.u64.wrap ((a : Int) + Int.tmod (b : Int) 3) = (((a + b % 3) % 18446744073709551616 : Nat) : Int) := by
      rw [Int.tmod_eq_emod_of_nonneg hb.1, wr64]
      omega
    rw [e]
    exact orders_key 0 a _ (by omega) (by omega)
  | false =>
    rw [if_neg (by decide)]
    exact orders_key 0 a b (by omega) (by omega)

end Go.Proofs.Ytghgaehcejechaa.Pure
