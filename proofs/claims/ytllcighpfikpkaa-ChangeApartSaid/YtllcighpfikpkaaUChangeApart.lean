/- ChangeApart: of two histories that part at their last act the last changes' bytes are alike only if the changes are.
For every input; no condition is added to the given statement. -/
import Derived.Test.YtllcighpfikpkaaQChangeApartx8
import Derived.Laws.BitsAllLaws
import Derived.OpenShut
import Derived.Lib.Bytes
namespace Go.Proofs.Ytllcighpfikpkaa.Pure
open Go.RowKit Go.Proofs.Ytllcighpfikpkaa.QChangeApart Go.Proofs.YtllcighpfikpkaaW.PrintWords Go.Proofs.YtllcighpfikpkaaW.PrintLast Go.Proofs.YtllcighpfikpkaaW.PrintMore
set_option linter.unusedSimpArgs false
set_option linter.unusedVariables false

abbrev T8 : ByteArray := (⟨#[0, 1, 2, 2, 3, 3, 3, 3, 4, 4, 4, 4, 4, 4, 4, 4, 5, 5, 5, 5, 5, 5, 5, 5, 5, 5, 5, 5, 5, 5, 5, 5, 6, 6, 6, 6, 6, 6, 6, 6, 6, 6, 6, 6, 6, 6, 6, 6, 6, 6, 6, 6, 6, 6, 6, 6, 6, 6, 6, 6, 6, 6, 6, 6, 7, 7, 7, 7, 7, 7, 7, 7, 7, 7, 7, 7, 7, 7, 7, 7, 7, 7, 7, 7, 7, 7, 7, 7, 7, 7, 7, 7, 7, 7, 7, 7, 7, 7, 7, 7, 7, 7, 7, 7, 7, 7, 7, 7, 7, 7, 7, 7, 7, 7, 7, 7, 7, 7, 7, 7, 7, 7, 7, 7, 7, 7, 7, 7, 8, 8, 8, 8, 8, 8, 8, 8, 8, 8, 8, 8, 8, 8, 8, 8, 8, 8, 8, 8, 8, 8, 8, 8, 8, 8, 8, 8, 8, 8, 8, 8, 8, 8, 8, 8, 8, 8, 8, 8, 8, 8, 8, 8, 8, 8, 8, 8, 8, 8, 8, 8, 8, 8, 8, 8, 8, 8, 8, 8, 8, 8, 8, 8, 8, 8, 8, 8, 8, 8, 8, 8, 8, 8, 8, 8, 8, 8, 8, 8, 8, 8, 8, 8, 8, 8, 8, 8, 8, 8, 8, 8, 8, 8, 8, 8, 8, 8, 8, 8, 8, 8, 8, 8, 8, 8, 8, 8, 8, 8, 8, 8, 8, 8, 8, 8, 8, 8, 8, 8, 8, 8, 8, 8, 8, 8, 8, 8]⟩ : ByteArray)
theorem t8_all : ((List.range 256).all fun i => (List.range 9).all fun j => (decide (i < 2 ^ j)) == decide (bt T8 (i : Int) ≤ (j : Int))) = true := by decide +kernel
theorem t8_bd : ((List.range 256).all fun i => decide (0 ≤ bt T8 (i : Int) ∧ bt T8 (i : Int) ≤ 8)) = true := by decide +kernel
theorem t8 (i : Nat) (h : i < 256) : ∃ L : Nat, bt T8 (i : Int) = (L : Int) ∧ L ≤ 8 ∧ ∀ j, j ≤ 8 → (i < 2 ^ j ↔ L ≤ j) := by
  have h1 : ((List.range 9).all fun j => (decide (i < 2 ^ j)) == decide (bt T8 (i : Int) ≤ (j : Int))) = true := List.all_eq_true.1 t8_all i (List.mem_range.2 h)
  have h2 : 0 ≤ bt T8 (i : Int) ∧ bt T8 (i : Int) ≤ 8 := of_decide_eq_true (List.all_eq_true.1 t8_bd i (List.mem_range.2 h))
  refine ⟨(bt T8 (i : Int)).toNat, by omega, by omega, fun j hj => ?_⟩
  have h3 : ((decide (i < 2 ^ j)) == decide (bt T8 (i : Int) ≤ (j : Int))) = true := List.all_eq_true.1 h1 j (List.mem_range.2 (by omega))
  rw [beq_iff_eq, decide_eq_decide] at h3
  omega
theorem up (c B w n L : Nat) (hB : 2 ^ c = B) (hc : B ≤ n) (h : ∀ j, j ≤ w → (n / B < 2 ^ j ↔ L ≤ j)) : ∀ j, j ≤ w + c → (n < 2 ^ j ↔ L + c ≤ j) := by
  intro j hj
  subst hB
  by_cases hcj : c ≤ j
  · obtain ⟨d, rfl⟩ : ∃ d, j = d + c := ⟨j - c, by omega⟩
    have := h d (by omega)
    rw [Nat.div_lt_iff_lt_mul (Nat.two_pow_pos c), ← Nat.pow_add] at this
    omega
  · have : 2 ^ j ≤ 2 ^ c := Nat.pow_le_pow_right (by omega) (by omega)
    omega
theorem wide (w n L : Nat) (hn : n < 2 ^ w) (hL : L ≤ w) (h : ∀ j, j ≤ w → (n < 2 ^ j ↔ L ≤ j)) : ∀ j, (n < 2 ^ j ↔ L ≤ j) := by
  intro j
  by_cases hj : j ≤ w
  · exact h j hj
  · have : 2 ^ w ≤ 2 ^ j := Nat.pow_le_pow_right (by omega) (by omega)
    omega
theorem len_low (k n : Nat) (c : Int) (hc : 0 ≤ c ∧ c ≤ 32) (hn : n < 4294967296) : ∃ L : Nat, bits_Len64.j0 (k + 1) (n : Int) c = some (c + L) ∧ L ≤ 32 ∧ ∀ j, (n < 2 ^ j ↔ L ≤ j) := by
  rw [bits_Len64.j0]
  by_cases a : n ≥ 65536
  · rw [if_pos (by omega)]
    by_cases b : n / 65536 ≥ 256
    · obtain ⟨L, hL, h8, hj⟩ := t8 (n / 65536 / 256) (by omega)
      have e : ((n : Int) / 65536 / 256) % 256 = ((n / 65536 / 256 : Nat) : Int) := by omega
      rw [if_pos (by omega), if_pos (by omega), if_pos (by omega), e, hL]
      refine ⟨L + 8 + 16, ?_, by omega, wide 32 n _ (by omega) (by omega) (up 16 65536 16 n (L + 8) rfl (by omega) (up 8 256 8 (n / 65536) L rfl (by omega) hj))⟩
      refine congrArg some ?_
      unfold wrap64
      omega
    · obtain ⟨L, hL, h8, hj⟩ := t8 (n / 65536) (by omega)
      have e : ((n : Int) / 65536) % 256 = ((n / 65536 : Nat) : Int) := by omega
      rw [if_neg (by omega), if_pos (by omega), if_pos (by omega), e, hL]
      refine ⟨L + 16, ?_, by omega, wide 24 n _ (by omega) (by omega) (up 16 65536 8 n L rfl (by omega) hj)⟩
      refine congrArg some ?_
      unfold wrap64
      omega
  · rw [if_neg (by omega)]
    by_cases b : n ≥ 256
    · obtain ⟨L, hL, h8, hj⟩ := t8 (n / 256) (by omega)
      have e : ((n : Int) / 256) % 256 = ((n / 256 : Nat) : Int) := by omega
      rw [if_pos (by omega), if_pos (by omega), if_pos (by omega), e, hL]
      refine ⟨L + 8, ?_, by omega, wide 16 n _ (by omega) (by omega) (up 8 256 8 n L rfl (by omega) hj)⟩
      refine congrArg some ?_
      unfold wrap64
      omega
    · obtain ⟨L, hL, h8, hj⟩ := t8 n (by omega)
      have e : (n : Int) % 256 = (n : Int) := by omega
      rw [if_neg (by omega), if_pos (by omega), if_pos (by omega), e, hL]
      refine ⟨L, ?_, by omega, wide 8 n _ (by omega) (by omega) hj⟩
      refine congrArg some ?_
      unfold wrap64
      omega
theorem len_is (k n : Nat) (hn : n < 18446744073709551616) : ∃ L : Nat, bits_Len64.f (k + 1) (n : Int) = some (L : Int) ∧ L ≤ 64 ∧ ∀ j, (n < 2 ^ j ↔ L ≤ j) := by
  unfold bits_Len64.f
  by_cases a : n ≥ 4294967296
  · obtain ⟨L, hL, h32, hj⟩ := len_low k (n / 4294967296) 32 (by omega) (by omega)
    have e : (n : Int) / 4294967296 = ((n / 4294967296 : Nat) : Int) := by omega
    rw [if_pos (by omega), e, hL]
    refine ⟨L + 32, ?_, by omega, wide 64 n _ (by omega) (by omega) (up 32 4294967296 32 n L rfl (by omega) (fun j _ => hj j))⟩
    refine congrArg some ?_
    omega
  · obtain ⟨L, hL, h32, hj⟩ := len_low k n 0 (by omega) (by omega)
    rw [if_neg (by omega), hL]
    exact ⟨L, congrArg some (by omega), by omega, hj⟩

theorem size_is (k n : Nat) (hn : n < 18446744073709551616) : ∃ s : Nat, coin_Size.f (k + 1) (n : Int) = some (s : Int) ∧ 1 ≤ s ∧ s ≤ 9 ∧ ∀ i, 1 ≤ i → i ≤ 8 → (s ≤ i ↔ n < 2 ^ (7 * i)) := by
  obtain ⟨L, hL, h64, hj⟩ := len_is k n hn
  refine ⟨max 1 (min 9 ((L + 6) / 7)), ?_, by omega, by omega, fun i h1 h8 => ?_⟩
  · unfold coin_Size.f
    rw [hL, Option.bind_some]
    refine congrArg some ?_
    have e : wrap64 (Int.tdiv (wrap64 ((L : Int) + 6)) 7) = (((L + 6) / 7 : Nat) : Int) := by
      have : wrap64 ((L : Int) + 6) = ((L + 6 : Nat) : Int) := by unfold wrap64; omega
      rw [this, Int.tdiv_eq_ediv_of_nonneg (by omega)]
      unfold wrap64
      omega
    rw [e]
    unfold mx mn
    (repeat' split) <;> omega
  · rw [hj]
    omega
def tl (n : Nat) : Nat → List Int
  | 0 => []
  | i + 1 => ((n / 256 ^ i % 256 : Nat) : Int) :: tl n i
def hd1 (s n : Nat) : Int := if s = 9 then 255 else ((256 - 2 ^ (9 - s) + n / 256 ^ (s - 1) : Nat) : Int)
def cb (s n : Nat) : List Int := hd1 s n :: tl n (s - 1)
/-- how many bytes n takes -/
def Takes (s n : Nat) : Prop := 1 ≤ s ∧ s ≤ 9 ∧ ∀ i, 1 ≤ i → i ≤ 8 → (s ≤ i ↔ n < 2 ^ (7 * i))
theorem tl_length (n : Nat) : ∀ i, (tl n i).length = i
  | 0 => rfl
  | i + 1 => by simp [tl, tl_length n i]
theorem shr_is (n i : Nat) (hi : i ≤ 8) : (shr .u64 (n : Int) ((8 * i : Nat) : Int)) % 256 = ((n / 256 ^ i % 256 : Nat) : Int) := by
  unfold shr
  have e : min ((8 * i : Nat) : Int).toNat IntKind.u64.bits = 8 * i := by
    have : IntKind.u64.bits = 64 := rfl
    omega
  have e2 : (2 : Int) ^ (8 * i) = ((256 ^ i : Nat) : Int) := by
    rw [show (256 : Nat) = 2 ^ 8 from rfl, ← Nat.pow_mul]
    simp
  rw [e, e2]
  omega
theorem put_loop (n : Nat) : ∀ i : Nat, i ≤ 8 → ∀ (k : Nat) (acc : List Int), i < k → acc.length + i < 140737488355328 → coin_Put.l0 k acc (n : Int) ((i : Int) - 1) = some (acc ++ tl n i) := by
  intro i
  induction i with
  | zero =>
    intro _ k acc hk _
    obtain ⟨k, rfl⟩ : ∃ m, k = m + 1 := ⟨k - 1, by omega⟩
    rw [coin_Put.l0, if_neg (by omega), tl, List.append_nil]
  | succ i ih =>
    intro hi k acc hk hl
    obtain ⟨k, rfl⟩ : ∃ m, k = m + 1 := ⟨k - 1, by omega⟩
    have e1 : wrap64 (8 * (((i + 1 : Nat) : Int) - 1)) = ((8 * i : Nat) : Int) := by unfold wrap64; omega
    have e2 : wrap64 (((i + 1 : Nat) : Int) - 1 - 1) = (i : Int) - 1 := by unfold wrap64; omega
    rw [coin_Put.l0, if_pos (by omega), e1, e2, if_pos (by omega), if_pos (by omega), shr_is n i (by omega)]
    rw [ih (by omega) k (acc ++ [((n / 256 ^ i % 256 : Nat) : Int)]) (by omega) (by simp; omega), tl, List.append_assoc]
    rfl
theorem lead_all : ((List.range 8).all fun q => (List.range 128).all fun h => (!decide (h < 2 ^ (7 - q))) || decide (bits .or .u8 (shl .u8 255 ((8 - q : Nat) : Int)) (h : Int) = ((256 - 2 ^ (8 - q) + h : Nat) : Int))) = true := by decide +kernel
theorem lead_is (q h : Nat) (hq : q < 8) (hh : h < 2 ^ (7 - q)) : bits .or .u8 (shl .u8 255 ((8 - q : Nat) : Int)) (h : Int) = ((256 - 2 ^ (8 - q) + h : Nat) : Int) := by
  have h7 : 2 ^ (7 - q) ≤ 2 ^ 7 := Nat.pow_le_pow_right (by omega) (by omega)
  have h1 : ((List.range 128).all fun h => (!decide (h < 2 ^ (7 - q))) || decide (bits .or .u8 (shl .u8 255 ((8 - q : Nat) : Int)) (h : Int) = ((256 - 2 ^ (8 - q) + h : Nat) : Int))) = true := List.all_eq_true.1 lead_all q (List.mem_range.2 hq)
  have h2 : ((!decide (h < 2 ^ (7 - q))) || decide (bits .or .u8 (shl .u8 255 ((8 - q : Nat) : Int)) (h : Int) = ((256 - 2 ^ (8 - q) + h : Nat) : Int))) = true := List.all_eq_true.1 h1 h (List.mem_range.2 (by omega))
  rw [decide_eq_true hh, Bool.not_true, Bool.false_or] at h2
  exact of_decide_eq_true h2
theorem high_small (s n : Nat) (h1 : 1 ≤ s) (h8 : s ≤ 8) (hn : n < 2 ^ (7 * s)) : n / 256 ^ (s - 1) < 2 ^ (8 - s) := by
  apply Nat.div_lt_of_lt_mul
  rw [show (256 : Nat) = 2 ^ 8 from rfl, ← Nat.pow_mul, ← Nat.pow_add]
  rwa [show 8 * (s - 1) + (8 - s) = 7 * s by omega]
theorem put_of (k s n : Nat) (p : List Int) (hs : Takes s n) (hz : coin_Size.f (k + 11) (n : Int) = some (s : Int)) (hp : p.length + 9 < 140737488355328) : coin_Put.f (k + 11) p (n : Int) = some (p ++ cb s n) := by
  obtain ⟨h1, h9, hs⟩ := hs
  have e3 : wrap64 ((s : Int) - 2) = ((s - 1 : Nat) : Int) - 1 := by unfold wrap64; omega
  unfold coin_Put.f
  rw [hz, Option.bind_some]
  by_cases h : s = 9
  · rw [if_pos (by omega), if_pos (by omega), coin_Put.j0, e3, put_loop n (s - 1) (by omega) _ _ (by omega) (by simp; omega), List.append_assoc]
    unfold cb hd1
    rw [if_pos h]
    rfl
  · have hn := (hs s h1 (by omega)).1 (Nat.le_refl _)
    have e1 : wrap64 (9 - (s : Int)) = ((8 - (s - 1) : Nat) : Int) := by unfold wrap64; omega
    have e2 : wrap64 (8 * (wrap64 ((s : Int) - 1))) = ((8 * (s - 1) : Nat) : Int) := by unfold wrap64; omega
    have hh := high_small s n h1 (by omega) hn
    have hb : n / 256 ^ (s - 1) < 2 ^ (7 - (s - 1)) := by rwa [show 7 - (s - 1) = 8 - s by omega]
    have h7 : 2 ^ (7 - (s - 1)) ≤ 2 ^ 7 := Nat.pow_le_pow_right (by omega) (by omega)
    rw [if_neg (by omega), e1, e2, if_pos (by omega), if_pos (by omega), if_pos (by omega), shr_is n (s - 1) (by omega), Nat.mod_eq_of_lt (by omega), lead_is (s - 1) _ (by omega) hb, coin_Put.j0, e3, put_loop n (s - 1) (by omega) _ _ (by omega) (by simp; omega), List.append_assoc]
    unfold cb hd1
    rw [if_neg h, show 8 - (s - 1) = 9 - s by omega]
    rfl
theorem put_is (k n : Nat) (hn : n < 18446744073709551616) : ∃ s, Takes s n ∧ coin_Size.f (k + 11) (n : Int) = some (s : Int) ∧ ∀ p : List Int, p.length + 9 < 140737488355328 → coin_Put.f (k + 11) p (n : Int) = some (p ++ cb s n) := by
  obtain ⟨s, hz, h1, h9, hs⟩ := size_is (k + 10) n hn
  exact ⟨s, ⟨h1, h9, hs⟩, hz, fun p hp => put_of k s n p ⟨h1, h9, hs⟩ hz hp⟩
def ltL : List Int → List Int → Bool
  | _, [] => false
  | [], _ :: _ => true
  | a :: x, b :: y => decide (a < b) || (decide (a = b) && ltL x y)
def isBytes (l : List Int) : Prop := ∀ x ∈ l, 0 ≤ x ∧ x < 256
theorem tl_bytes (n : Nat) : ∀ i, isBytes (tl n i)
  | 0 => by intro x hx; simp [tl] at hx
  | i + 1 => by
    intro x hx
    rw [tl, List.mem_cons] at hx
    rcases hx with rfl | hx
    · omega
    · exact tl_bytes n i x hx
theorem hd1_bytes (s n : Nat) (h : Takes s n) : 0 ≤ hd1 s n ∧ hd1 s n < 256 := by
  obtain ⟨h1, h9, hs⟩ := h
  unfold hd1
  by_cases h : s = 9
  · rw [if_pos h]; omega
  · rw [if_neg h]
    have hh := high_small s n h1 (by omega) ((hs s h1 (by omega)).1 (Nat.le_refl _))
    have e : 2 ^ (9 - s) = 2 * 2 ^ (8 - s) := by rw [show 9 - s = (8 - s) + 1 by omega, Nat.pow_succ]; omega
    have h8 : 2 ^ (8 - s) ≤ 2 ^ 7 := Nat.pow_le_pow_right (by omega) (by omega)
    generalize n / 256 ^ (s - 1) = q at hh ⊢
    omega
theorem cb_bytes (s n : Nat) (h : Takes s n) : isBytes (cb s n) := by
  intro x hx
  rw [cb, List.mem_cons] at hx
  rcases hx with rfl | hx
  · exact hd1_bytes s n h
  · exact tl_bytes n _ x hx
theorem lex_nat (X a b : Nat) (hX : 0 < X) : (a < b) ↔ (a / X < b / X ∨ a / X = b / X ∧ a % X < b % X) := by
  have ha := Nat.div_add_mod a X
  have hb := Nat.div_add_mod b X
  have ra := Nat.mod_lt a hX
  have rb := Nat.mod_lt b hX
  constructor
  · intro h
    by_cases e : a / X < b / X
    · exact .inl e
    · have e1 : b / X ≤ a / X := by omega
      have e2 : a / X ≤ b / X := Nat.div_le_div_right (by omega)
      have e3 : a / X = b / X := by omega
      refine .inr ⟨e3, ?_⟩
      rw [e3] at ha
      omega
  · rintro (h | ⟨h, h2⟩)
    · have : X * (a / X) + X ≤ X * (b / X) := by
        have := Nat.mul_le_mul_left X h
        rw [Nat.mul_succ] at this
        exact this
      omega
    · rw [h] at ha
      omega
theorem tl_lt (a b : Nat) : ∀ i, ltL (tl a i) (tl b i) = decide (a % 256 ^ i < b % 256 ^ i)
  | 0 => by simp [tl, ltL, Nat.mod_one]
  | i + 1 => by
    rw [tl, tl, ltL, tl_lt a b i]
    have hX : 0 < 256 ^ i := Nat.pow_pos (by omega)
    have h := lex_nat (256 ^ i) (a % 256 ^ (i + 1)) (b % 256 ^ (i + 1)) hX
    have d : ∀ n : Nat, n % 256 ^ (i + 1) / 256 ^ i = n / 256 ^ i % 256 := by
      intro n
      rw [Nat.pow_succ, Nat.mod_mul_right_div_self]
    have m : ∀ n : Nat, n % 256 ^ (i + 1) % 256 ^ i = n % 256 ^ i := by
      intro n
      rw [Nat.pow_succ, Nat.mod_mul_right_mod]
    rw [d, d, m, m] at h
    rw [← Bool.decide_and, ← Bool.decide_or, decide_eq_decide, h]
    omega
theorem cb_lt (s t a b : Nat) (hs : Takes s a) (ht : Takes t b) (ha : a < 18446744073709551616) (hb : b < 18446744073709551616) : ltL (cb s a) (cb t b) = decide (a < b) := by
  have far : ∀ (s t a b : Nat), Takes s a → Takes t b → s < t → a < b ∧ hd1 s a < hd1 t b := by
    intro s t a b hs ht hst
    obtain ⟨h1, h9, hs⟩ := hs
    obtain ⟨g1, g9, ht⟩ := ht
    have l1 := (hs s h1 (by omega)).1 (Nat.le_refl _)
    have l2 : ¬ b < 2 ^ (7 * s) := fun h => by have := (ht s h1 (by omega)).2 h; omega
    refine ⟨by omega, ?_⟩
    have hh := high_small s a h1 (by omega) l1
    have e : 2 ^ (9 - s) = 2 * 2 ^ (8 - s) := by rw [show 9 - s = (8 - s) + 1 by omega, Nat.pow_succ]; omega
    have p : 0 < 2 ^ (8 - s) := Nat.two_pow_pos _
    have h8 : 2 ^ (8 - s) ≤ 2 ^ 7 := Nat.pow_le_pow_right (by omega) (by omega)
    unfold hd1
    rw [if_neg (by omega)]
    by_cases h : t = 9
    · rw [if_pos h]; omega
    · rw [if_neg h]
      have : 2 ^ (9 - t) ≤ 2 ^ (8 - s) := Nat.pow_le_pow_right (by omega) (by omega)
      generalize a / 256 ^ (s - 1) = q at hh ⊢
      generalize b / 256 ^ (t - 1) = q2
      omega
  rcases Nat.lt_trichotomy s t with h | h | h
  · obtain ⟨h1, h2⟩ := far s t a b hs ht h
    rw [decide_eq_true h1]
    simp [cb, ltL, h2]
  · subst h
    rw [cb, cb, ltL, tl_lt]
    have hX : 0 < 256 ^ (s - 1) := Nat.pow_pos (by omega)
    have h := lex_nat (256 ^ (s - 1)) a b hX
    rw [← Bool.decide_and, ← Bool.decide_or, decide_eq_decide, h]
    unfold hd1
    by_cases h9 : s = 9
    · subst h9
      rw [if_pos rfl, if_pos rfl]
      have e : 256 ^ (9 - 1) = 18446744073709551616 := rfl
      rw [e, Nat.div_eq_of_lt ha, Nat.div_eq_of_lt hb]
      omega
    · rw [if_neg h9, if_neg h9]
      omega
  · obtain ⟨h1, h2⟩ := far t s b a ht hs h
    rw [decide_eq_false (by omega)]
    have : ¬ hd1 s a < hd1 t b := by omega
    have h3 : ¬ hd1 s a = hd1 t b := by omega
    simp [cb, ltL, this, h3]
theorem ltL_irrefl : ∀ x : List Int, ltL x x = false
  | [] => rfl
  | a :: x => by simp [ltL, ltL_irrefl x]
theorem cb_inj (s t a b : Nat) (hs : Takes s a) (ht : Takes t b) (ha : a < 18446744073709551616) (hb : b < 18446744073709551616) (h : cb s a = cb t b) : a = b := by
  have h1 := cb_lt s t a b hs ht ha hb
  have h2 := cb_lt t s b a ht hs hb ha
  rw [h, ltL_irrefl] at h1
  rw [h, ltL_irrefl] at h2
  have h1 := of_decide_eq_false h1.symm
  have h2 := of_decide_eq_false h2.symm
  omega
theorem takes_one (s t a : Nat) (hs : Takes s a) (ht : Takes t a) : s = t := by
  obtain ⟨h1, h9, hs⟩ := hs
  obtain ⟨g1, g9, ht⟩ := ht
  by_cases e : s ≤ 8
  · have := (ht s h1 e).2 ((hs s h1 e).1 (Nat.le_refl _))
    by_cases f : t ≤ 8
    · have := (hs t g1 f).2 ((ht t g1 f).1 (Nat.le_refl _))
      omega
    · omega
  · by_cases f : t ≤ 8
    · have := (hs t g1 f).2 ((ht t g1 f).1 (Nat.le_refl _))
      omega
    · omega
theorem str_list (x : List Int) : (strOfNums x).toList = x.map fun n => UInt8.ofNat n.toNat := by
  rw [Lib.strOfNums_toList]
  rfl
theorem wr64 (n : Int) : IntKind.u64.wrap n = n % 18446744073709551616 := by
  simp [IntKind.wrap, IntKind.signed, IntKind.bits]
theorem isBytes_append {p q : List Int} (hp : isBytes p) (hq : isBytes q) : isBytes (p ++ q) := fun x hx => (List.mem_append.1 hx).elim (hp x) (hq x)
theorem cb_length (s n : Nat) (h : Takes s n) : (cb s n).length = s := by
  unfold cb
  rw [List.length_cons, tl_length]
  have := h.1
  omega
/-- how many bits are left behind the first n -/
def lo (n : Nat) : Nat := 2 ^ (32 - n)
/-- the first n bits -/
def hi (a n : Nat) : Nat := a / lo n
theorem bytes_toList (a b : List Int) (ha : isBytes a) (hb : isBytes b) : (strOfNums a).toList = (strOfNums b).toList ↔ a = b := by
  rw [str_list, str_list]
  constructor
  · intro h
    have h2 := congrArg (List.map fun z : UInt8 => (z.toNat : Int)) h
    rw [List.map_map, List.map_map] at h2
    have id_ : ∀ l : List Int, isBytes l → l.map ((fun z : UInt8 => (z.toNat : Int)) ∘ fun n : Int => UInt8.ofNat n.toNat) = l := by
      intro l hl
      refine (List.map_congr_left (g := id) fun n hn => ?_).trans (List.map_id l)
      have := hl n hn
      show ((UInt8.ofNat n.toNat).toNat : Int) = n
      rw [UInt8.toNat_ofNat']
      omega
    rwa [id_ a ha, id_ b hb] at h2
  · rintro rfl; rfl
def szN (n : Nat) : Nat := if n < 128 then 1 else if n < 16384 then 2 else if n < 2097152 then 3 else if n < 268435456 then 4 else if n < 34359738368 then 5 else if n < 4398046511104 then 6 else if n < 562949953421312 then 7 else if n < 72057594037927936 then 8 else 9
theorem szN_bd (n : Nat) : 1 ≤ szN n ∧ szN n ≤ 9 := by
  unfold szN
  repeat' split
  all_goals omega
theorem takes_sz (n : Nat) : Takes (szN n) n := by
  refine ⟨(szN_bd n).1, (szN_bd n).2, ?_⟩
  intro i h1 h8
  have hi : i = 1 ∨ i = 2 ∨ i = 3 ∨ i = 4 ∨ i = 5 ∨ i = 6 ∨ i = 7 ∨ i = 8 := by omega
  have p1 : (2 : Nat) ^ (7 * 1) = 128 := rfl
  have p2 : (2 : Nat) ^ (7 * 2) = 16384 := rfl
  have p3 : (2 : Nat) ^ (7 * 3) = 2097152 := rfl
  have p4 : (2 : Nat) ^ (7 * 4) = 268435456 := rfl
  have p5 : (2 : Nat) ^ (7 * 5) = 34359738368 := rfl
  have p6 : (2 : Nat) ^ (7 * 6) = 4398046511104 := rfl
  have p7 : (2 : Nat) ^ (7 * 7) = 562949953421312 := rfl
  have p8 : (2 : Nat) ^ (7 * 8) = 72057594037927936 := rfl
  unfold szN
  rcases hi with rfl | rfl | rfl | rfl | rfl | rfl | rfl | rfl
  · rw [p1]; repeat' split
    all_goals omega
  · rw [p2]; repeat' split
    all_goals omega
  · rw [p3]; repeat' split
    all_goals omega
  · rw [p4]; repeat' split
    all_goals omega
  · rw [p5]; repeat' split
    all_goals omega
  · rw [p6]; repeat' split
    all_goals omega
  · rw [p7]; repeat' split
    all_goals omega
  · rw [p8]; repeat' split
    all_goals omega
/-- a number's bytes -/
def C (n : Nat) : List Int := cb (szN n) n
theorem C_len (n : Nat) : (C n).length = szN n := by
  have := (szN_bd n).1
  rw [C, cb, List.length_cons, tl_length]
  omega
theorem C_le (n : Nat) : 1 ≤ (C n).length ∧ (C n).length ≤ 9 := by rw [C_len]; exact szN_bd n
theorem C_bytes (n : Nat) : isBytes (C n) := cb_bytes _ _ (takes_sz n)
theorem put_C (K n : Nat) (hK : 11 ≤ K) (hn : n < 18446744073709551616) (p : List Int) (hp : p.length + 9 < 140737488355328) : coin_Put.f K p (n : Int) = some (p ++ C n) := by
  obtain ⟨k, rfl⟩ : ∃ k, K = k + 11 := ⟨K - 11, by omega⟩
  obtain ⟨s, hs, _, hput⟩ := put_is k n hn
  rw [hput p hp, C, takes_one s (szN n) n hs (takes_sz n)]
theorem put_i (K : Nat) (a : Int) (hK : 11 ≤ K) (ha : 0 ≤ a ∧ a < 18446744073709551616) (p : List Int) (hp : p.length < 1000000000) : coin_Put.f K p a = some (p ++ C a.toNat) := by
  have := put_C K a.toNat hK (by omega) p (by omega)
  rwa [show ((a.toNat : Nat) : Int) = a by omega] at this
theorem wr1 (i : Nat) (h : i < 1000000000) : wrap64 ((i : Int) + 1) = ((i + 1 : Nat) : Int) := by unfold wrap64; omega
theorem u64_ones (x : Int) (h0 : 0 ≤ x) (h1 : x < 18446744073709551616) : bits .xor .u64 x 18446744073709551615 = 18446744073709551615 - x := by
  show IntKind.u64.wrap ((BitVec.ofInt 64 x ^^^ BitVec.ofInt 64 18446744073709551615).toNat : Int) = _
  have e : BitVec.ofInt 64 18446744073709551615 = BitVec.allOnes 64 := by decide
  have e2 : (BitVec.ofInt 64 x).toNat = x.toNat := by
    rw [BitVec.toNat_ofInt]
    congr 1
    omega
  rw [e, BitVec.xor_allOnes, BitVec.toNat_not, e2, wr64]
  omega

theorem u64_none (x : Int) (h0 : 0 ≤ x) (h1 : x < 18446744073709551616) : bits .xor .u64 x 0 = x := by
  rw [u64_xor x 0 h0 h1 (by omega) (by omega)]
  simp
  omega

theorem fold_is (n : Int) (h0 : -9223372036854775808 ≤ n) (h1 : n ≤ 9223372036854775807) : coin_Fold.f n = some (if n < 0 then -2 * n - 1 else 2 * n) := by
  unfold coin_Fold.f
  congr 1
  have e1 : IntKind.u64.wrap (wrap64 (n * 2)) = (2 * n) % 18446744073709551616 := by
    rw [wr64]
    unfold wrap64
    omega
  rw [e1]
  split
  · have e2 : IntKind.u64.wrap (n / 9223372036854775808) = 18446744073709551615 := by
      rw [wr64]
      omega
    rw [e2, u64_ones _ (by omega) (by omega)]
    omega
  · have e2 : IntKind.u64.wrap (n / 9223372036854775808) = 0 := by
      rw [wr64]
      omega
    rw [e2, u64_none _ (by omega) (by omega)]
    omega

def octB (n : Int) : Int := (n + 7) / 8
theorem octets_is (n : Int) (h : 0 ≤ n ∧ n < 256) : change_octets.f n = some (octB n) := by
  unfold change_octets.f octB
  refine congrArg some ?_
  have e1 : wrap64 n = n := by unfold wrap64; omega
  have e2 : wrap64 (n + 7) = n + 7 := by unfold wrap64; omega
  rw [e1, e2, Int.tdiv_eq_ediv_of_nonneg (by omega)]
  unfold wrap64
  omega
def octA (a : Int) (i : Nat) : Int := a / 2 ^ (24 - 8 * i) % 256
theorem w24 (i : Nat) (h : i < 4) : wrap64 (24 - (wrap64 (8 * (i : Int)))) = ((24 - 8 * i : Nat) : Int) := by unfold wrap64; omega
theorem octet_is (a : Int) (i : Nat) (h : i < 4) : change_octet.f a (i : Int) = some (octA a i) := by
  unfold change_octet.f octA
  rw [w24 i h, if_pos (by omega)]
  refine congrArg some ?_
  unfold shr
  have e : min (((24 - 8 * i : Nat) : Int)).toNat IntKind.u32.bits = 24 - 8 * i := by
    rw [Int.toNat_natCast]
    exact Nat.min_eq_left (by show _ ≤ 32; omega)
  rw [e]
theorem octA_byte (a : Int) (i : Nat) : 0 ≤ octA a i ∧ octA a i < 256 := by unfold octA; omega
def octs (a : Int) (i d : Nat) : List Int := (List.range' i d).map (octA a)
theorem octs_zero (a : Int) (i : Nat) : octs a i 0 = [] := rfl
theorem octs_succ (a : Int) (i d : Nat) : octs a i (d + 1) = octA a i :: octs a (i + 1) d := rfl
theorem octs_length (a : Int) (i d : Nat) : (octs a i d).length = d := by simp [octs]
theorem octs_bytes (a : Int) (i d : Nat) : isBytes (octs a i d) := by
  intro x hx
  obtain ⟨j, _, rfl⟩ := List.mem_map.1 hx
  exact octA_byte a j
/-- the run of bytes that two addresses begin with alike -/
theorem share_run (k : Nat) (p : List Int) (m s : Nat) (hs : s ≤ m) (hm : m ≤ 4) (n0 t0 : Int) (g0 : Bool) (a0 b0 v0 m0 s0 n1 t1 : Int) (g1 : Bool) (a1 b1 v1 m1 s1 : Int)
    (hsame : ∀ i, i < s → octA a1 i = octA a0 i) (hstop : s = m ∨ octA a1 s ≠ octA a0 s) (d : Nat) : ∀ i, i + d = s →
    change_Encode.l0 (k + d + 1) p (i : Int) (m : Int) n0 t0 g0 a0 b0 v0 m0 s0 n1 t1 g1 a1 b1 v1 m1 s1 = change_Encode.j1 k p (s : Int) n0 t0 g0 a0 b0 v0 m0 s0 n1 t1 g1 a1 b1 v1 m1 s1 := by
  induction d with
  | zero =>
    intro i hi
    obtain rfl : i = s := by omega
    rw [change_Encode.l0]
    by_cases h : i = m
    · rw [if_neg (by omega)]
    · rw [if_pos (by omega), octet_is a1 i (by omega), Option.bind_some, octet_is a0 i (by omega), Option.bind_some, if_neg (by rcases hstop with h2 | h2; exact absurd h2 h; exact h2)]
  | succ d ih =>
    intro i hi
    rw [change_Encode.l0, if_pos (by omega), octet_is a1 i (by omega), Option.bind_some, octet_is a0 i (by omega), Option.bind_some, if_pos (hsame i (by omega)), wr1 i (by omega)]
    exact ih (i + 1) (by omega)
def zg (n : Int) : Int := if n < 0 then -2 * n - 1 else 2 * n
theorem zg_bd (n : Int) (h : -9223372036854775808 ≤ n ∧ n ≤ 9223372036854775807) : 0 ≤ zg n ∧ zg n < 18446744073709551616 := by unfold zg; split <;> omega
def encT (g1 : Bool) (v0 m0 s0 v1 m1 s1 : Int) : List Int := if g1 = true then [] else C (zg (v1 - v0)).toNat ++ C (zg (m1 - m0)).toNat ++ C ((s1 - s0) % 65536).toNat
def small (v m s : Int) : Prop := (0 ≤ v ∧ v < 16) ∧ (0 ≤ m ∧ m < 65536) ∧ (0 ≤ s ∧ s < 65536)
theorem octs_run (k : Nat) (hk : 11 ≤ k) (N : Nat) (hN : N ≤ 4) (n0 t0 : Int) (g0 : Bool) (a0 b0 v0 m0 s0 n1 t1 : Int) (g1 : Bool) (a1 b1 v1 m1 s1 : Int) (hb : 0 ≤ b1 ∧ b1 < 256) (hbN : octB b1 = (N : Int))
    (h0 : small v0 m0 s0) (h1 : small v1 m1 s1) (d : Nat) : ∀ (i : Nat) (p : List Int), i + d = N → p.length + d < 1000 →
    change_Encode.l1 (k + d + 1) p (i : Int) n0 t0 g0 a0 b0 v0 m0 s0 n1 t1 g1 a1 b1 v1 m1 s1 = some (p ++ octs a1 i d ++ encT g1 v0 m0 s0 v1 m1 s1) := by
  induction d with
  | zero =>
    intro i p hi hp
    obtain rfl : i = N := by omega
    rw [change_Encode.l1, octets_is b1 hb, Option.bind_some, hbN, if_neg (by omega), octs_zero, List.append_nil]
    unfold encT
    by_cases h : g1 = true
    · rw [if_pos h, if_pos h, List.append_nil]
    · obtain ⟨⟨v0a, v0b⟩, ⟨m0a, m0b⟩, ⟨s0a, s0b⟩⟩ := h0
      obtain ⟨⟨v1a, v1b⟩, ⟨m1a, m1b⟩, ⟨s1a, s1b⟩⟩ := h1
      have w1 : wrap64 (v1 - v0) = v1 - v0 := by unfold wrap64; omega
      have w2 : wrap64 ((wrap64 m1) - (wrap64 m0)) = m1 - m0 := by unfold wrap64; omega
      have w3 : IntKind.u64.wrap (IntKind.u16.wrap (s1 - s0)) = (s1 - s0) % 65536 := by
        rw [wr64]
        show ((s1 - s0) % 65536) % 18446744073709551616 = _
        omega
      have z1 := zg_bd (v1 - v0) (by omega)
      have z2 := zg_bd (m1 - m0) (by omega)
      have c1 := C_le (zg (v1 - v0)).toNat
      have c2 := C_le (zg (m1 - m0)).toNat
      have f1 : coin_Fold.f (v1 - v0) = some (zg (v1 - v0)) := fold_is _ (by omega) (by omega)
      have f2 : coin_Fold.f (m1 - m0) = some (zg (m1 - m0)) := fold_is _ (by omega) (by omega)
      rw [if_neg h, if_neg h, w1, f1, Option.bind_some, put_i k _ hk z1 _ (by omega), Option.bind_some, w2, f2, Option.bind_some, put_i k _ hk z2 _ (by rw [List.length_append]; omega), Option.bind_some, w3, put_i k _ hk (by omega) _ (by rw [List.length_append, List.length_append]; omega), Option.bind_some]
      simp only [List.append_assoc]
  | succ d ih =>
    intro i p hi hp
    rw [change_Encode.l1, octets_is b1 hb, Option.bind_some, hbN, if_pos (by omega), octet_is a1 i (by omega), Option.bind_some, if_pos (by omega), wr1 i (by omega)]
    have := ih (i + 1) (p ++ [octA a1 i]) (by omega) (by rw [List.length_append, List.length_singleton]; omega)
    rw [octs_succ]
    refine this.trans ?_
    simp only [List.append_assoc, List.singleton_append]
def Sh (a0 a1 : Int) (m s : Nat) : Prop := s ≤ m ∧ (∀ i, i < s → octA a1 i = octA a0 i) ∧ (s = m ∨ octA a1 s ≠ octA a0 s)
theorem sh_any (a0 a1 : Int) (m : Nat) : ∃ s, Sh a0 a1 m s := by
  induction m with
  | zero => exact ⟨0, Nat.le_refl _, fun i h => absurd h (Nat.not_lt_zero _), .inl rfl⟩
  | succ m ih =>
    obtain ⟨s, h1, h2, h3⟩ := ih
    by_cases h : s = m
    · by_cases e : octA a1 m = octA a0 m
      · refine ⟨m + 1, Nat.le_refl _, fun i hi => ?_, .inl rfl⟩
        by_cases h4 : i = m
        · rw [h4]; exact e
        · exact h2 i (by omega)
      · exact ⟨s, by omega, h2, .inr (by rw [h]; exact e)⟩
    · exact ⟨s, by omega, h2, .inr (h3.resolve_left h)⟩
def headB (b s : Nat) (g : Bool) : Int := ((16 * b + 2 * s + (if g = true then 1 else 0) : Nat) : Int)
def headOk (b s : Nat) : Bool :=
  decide (Go.bits .or .u64 (IntKind.u64.wrap ((IntKind.u64.wrap (b : Int)) * 16)) (IntKind.u64.wrap ((IntKind.u64.wrap (s : Int)) * 2)) = headB b s false)
  && decide (Go.bits .or .u64 (Go.bits .or .u64 (IntKind.u64.wrap ((IntKind.u64.wrap (b : Int)) * 16)) (IntKind.u64.wrap ((IntKind.u64.wrap (s : Int)) * 2))) 1 = headB b s true)
  && decide (wrap64 (Go.bits .and .u64 (headB b s false / 2) 7) = (s : Int)) && decide (wrap64 (Go.bits .and .u64 (headB b s true / 2) 7) = (s : Int))
  && decide ((headB b s false / 16) % 256 = (b : Int)) && decide ((headB b s true / 16) % 256 = (b : Int))
  && ((Go.bits .and .u64 (headB b s false) 1) == 1) == false && ((Go.bits .and .u64 (headB b s true) 1) == 1) == true
theorem head_all : ((List.range 33).all fun b => (List.range 5).all fun s => headOk b s) = true := by decide +kernel
theorem head_is (b s : Nat) (hb : b < 33) (hs : s < 5) : headOk b s = true := by
  have h := head_all
  rw [List.all_eq_true] at h
  have h2 := h b (List.mem_range.2 hb)
  rw [List.all_eq_true] at h2
  exact h2 s (List.mem_range.2 hs)
theorem j1_run (k : Nat) (hk : 11 ≤ k) (N s d b : Nat) (hb : b < 33) (hN : N ≤ 4) (hd : s + d = N) (hbN : octB (b : Int) = (N : Int)) (n0 t0 : Int) (g0 : Bool) (a0 b0 v0 m0 s0 n1 t1 : Int) (g1 : Bool) (a1 v1 m1 s1 : Int)
    (h0 : small v0 m0 s0) (h1 : small v1 m1 s1) (p : List Int) (hp : p.length < 100) :
    change_Encode.j1 (k + d + 3) p (s : Int) n0 t0 g0 a0 b0 v0 m0 s0 n1 t1 g1 a1 (b : Int) v1 m1 s1 = some (p ++ C (headB b s g1).toNat ++ octs a1 s d ++ encT g1 v0 m0 s0 v1 m1 s1) := by
  have hh := head_is b s hb (by omega)
  unfold headOk at hh
  simp only [Bool.and_eq_true, decide_eq_true_eq] at hh
  have E1 := Aside0.mk hh.1.1.1.1.1.1.1
  have E2 := Aside0.mk hh.1.1.1.1.1.1.2
  clear hh
  have hc := C_le (headB b s g1).toNat
  have hbd : 0 ≤ headB b s g1 ∧ headB b s g1 < 18446744073709551616 := by unfold headB; split <;> omega
  have hrun := octs_run k hk N hN n0 t0 g0 a0 b0 v0 m0 s0 n1 t1 g1 a1 (b : Int) v1 m1 s1 (by omega) hbN h0 h1 d s (p ++ C (headB b s g1).toNat) hd (by rw [List.length_append]; omega)
  have hput := put_i (k + d + 1) (headB b s g1) (by omega) hbd p (by omega)
  cases g1
  · rw [change_Encode.j1, if_neg (by decide), E1.out, change_Encode.j2, hput, Option.bind_some]
    exact hrun
  · rw [change_Encode.j1, if_pos rfl, E2.out, change_Encode.j2, hput, Option.bind_some]
    exact hrun
def encC (t0 v0 m0 s0 t1 : Int) (g1 : Bool) (a1 v1 m1 s1 : Int) (b s d : Nat) : List Int := C (t1 - t0).toNat ++ C (headB b s g1).toNat ++ octs a1 s d ++ encT g1 v0 m0 s0 v1 m1 s1
theorem enc_chg (K : Nat) (hK : 30 ≤ K) (N N0 s d b b0 : Nat) (hb : b < 33) (hb0 : b0 < 33) (hN : N ≤ 4) (hd : s + d = N) (hbN : octB (b : Int) = (N : Int)) (hbN0 : octB (b0 : Int) = (N0 : Int)) (n0 t0 : Int) (g0 : Bool) (a0 v0 m0 s0 n1 t1 : Int) (g1 : Bool) (a1 v1 m1 s1 : Int)
    (hs : Sh a0 a1 (min N N0) s) (ht : 0 ≤ t0 ∧ t0 ≤ t1 ∧ t1 < 18446744073709551616) (h0 : small v0 m0 s0) (h1 : small v1 m1 s1) :
    change_Encode.f K n0 t0 g0 a0 (b0 : Int) v0 m0 s0 n1 t1 g1 a1 (b : Int) v1 m1 s1 = some (encC t0 v0 m0 s0 t1 g1 a1 v1 m1 s1 b s d) := by
  obtain ⟨k, rfl⟩ : ∃ k, K = (k + d + 3) + s + 1 := ⟨K - d - 3 - s - 1, by omega⟩
  obtain ⟨s1_, s2_, s3_⟩ := hs
  have w : IntKind.u64.wrap (t1 - t0) = t1 - t0 := by rw [wr64]; omega
  have hm : mn ((N : Nat) : Int) ((N0 : Nat) : Int) = ((min N N0 : Nat) : Int) := by unfold mn; split <;> omega
  have hc := C_le (t1 - t0).toNat
  unfold change_Encode.f encC
  rw [w, put_i _ _ (by omega) (by omega) [] (by simp), Option.bind_some, octets_is _ (by omega), Option.bind_some, hbN, octets_is _ (by omega), Option.bind_some, hbN0, hm, List.nil_append]
  refine (share_run (k + d + 3) _ (min N N0) s s1_ (by omega) n0 t0 g0 a0 (b0 : Int) v0 m0 s0 n1 t1 g1 a1 (b : Int) v1 m1 s1 s2_ s3_ s 0 (by omega)).trans ?_
  exact j1_run k (by omega) N s d b hb hN hd hbN n0 t0 g0 a0 (b0 : Int) v0 m0 s0 n1 t1 g1 a1 v1 m1 s1 h0 h1 _ (by omega)
def addrF (a : Int) : Nat → Int
  | 0 => 0
  | i + 1 => Go.bits .or .u32 (addrF a i) (shl .u32 ((octA a i) % 4294967296) ((24 - 8 * i : Nat) : Int))
def goodC (g : Bool) (v m s : Int) : Prop := small v m s ∧ (g = true → v = 0 ∧ m = 0 ∧ s = 0) ∧ (g = false → m < 65535)
def prefOk (p : Nat) : Bool := match gb_Prefix.f 40 (p : Int) with
  | some (a, n) => decide (addrF a (octB n).toNat = a) && decide (8 ≤ n ∧ n ≤ 24) && decide (octB n ≤ 3) && decide (0 ≤ a ∧ a < 4294967296)
  | none => false
theorem pref_all : ((List.range 18).all prefOk) = true := by decide +kernel
theorem prefix18 (k p : Nat) (hp : p < 256) : gb_Prefix.f k (p : Int) = gb_Prefix.f k ((p % 18 : Nat) : Int) := by
  unfold gb_Prefix.f
  have t3 : ∀ q : Nat, Int.tmod (q : Int) 3 = ((q % 3 : Nat) : Int) := fun _ => rfl
  have d3 : ∀ q : Nat, Int.tdiv (q : Int) 3 = ((q / 3 : Nat) : Int) := fun _ => rfl
  have d6 : ∀ q : Nat, Int.tdiv (q : Int) 6 = ((q / 6 : Nat) : Int) := fun _ => rfl
  rw [t3, t3, d3, d3, d6, d6]
  have e1 : (p % 18 : Nat) % 3 = p % 3 := by omega
  have e2 : (((p % 18 / 3 : Nat) : Int)) % 2 = ((p / 3 : Nat) : Int) % 2 := by omega
  have e3 : (((p % 18 / 6 : Nat) : Int)) % 256 % 3 = ((p / 6 : Nat) : Int) % 256 % 3 := by omega
  rw [e1, e2, e3]
theorem awake_is : gl_awake.f 40 = some true := by decide +kernel
def prefP (c : S31) : Prop := ∃ p : Nat, p < 18 ∧ gb_Prefix.f 40 (p : Int) = some (c.f3.f0.f0, c.f3.f0.f1)
def formC (c : S31) : Prop := prefP c ∧ goodC c.f2 c.f3.f1 c.f3.f2 c.f3.f3
def histP (l : List S31) (t : Int) : Prop := (∀ i : Nat, i < l.length → (rd_T31 l i).f0 = (i : Int) + 1 ∧ formC (rd_T31 l i) ∧ 0 ≤ (rd_T31 l i).f1 ∧ (rd_T31 l i).f1 ≤ t) ∧ (∀ i : Nat, i + 1 < l.length → (rd_T31 l i).f1 ≤ (rd_T31 l ((i + 1 : Nat) : Int)).f1) ∧ 0 ≤ t ∧ t ≤ 3 * (l.length : Int)
theorem rd31_app (l : List S31) (c : S31) (i : Nat) (h : i < l.length) : rd_T31 (l ++ [c]) (i : Int) = rd_T31 l (i : Int) := by
  unfold rd_T31
  rw [Int.toNat_natCast, List.getD_eq_getElem?_getD, List.getD_eq_getElem?_getD, List.getElem?_append_left h]
theorem rd31_last (l : List S31) (c : S31) : rd_T31 (l ++ [c]) ((l.length : Nat) : Int) = c := by
  unfold rd_T31
  rw [Int.toNat_natCast, List.getD_eq_getElem?_getD, List.getElem?_append_right (Nat.le_refl _), Nat.sub_self]
  rfl
theorem histP_nil : histP [] 0 := ⟨fun i h => absurd h (Nat.not_lt_zero _), fun i h => absurd h (Nat.not_lt_zero _), by omega, by simp⟩
theorem histP_snoc (l : List S31) (t : Int) (c : S31) (h : histP l t) (hc : formC c) (h0 : c.f0 = (l.length : Int) + 1) (h1 : t ≤ c.f1) (h2 : c.f1 ≤ t + 3) : histP (l ++ [c]) c.f1 := by
  obtain ⟨p1, p2, p3, p4⟩ := h
  have hl : (l ++ [c]).length = l.length + 1 := by rw [List.length_append, List.length_singleton]
  refine ⟨fun i hi => ?_, fun i hi => ?_, by omega, by rw [hl]; omega⟩
  · rw [hl] at hi
    by_cases e : i < l.length
    · rw [rd31_app l c i e]
      obtain ⟨q1, q2, q3, q4⟩ := p1 i e
      exact ⟨q1, q2, q3, by omega⟩
    · obtain rfl : i = l.length := by omega
      rw [rd31_last]
      exact ⟨h0, hc, by omega, Int.le_refl _⟩
  · rw [hl] at hi
    rw [rd31_app l c i (by omega)]
    by_cases e : i + 1 < l.length
    · rw [rd31_app l c (i + 1) e]
      exact p2 i e
    · obtain e2 : i + 1 = l.length := by omega
      rw [e2, rd31_last]
      have := (p1 i (by omega)).2.2.2
      omega
theorem nearer_some (a b c d : Int) : ∃ r, ga_Nearer.f a b c d = some r := by
  unfold ga_Nearer.f
  split
  · exact ⟨_, rfl⟩
  · unfold ga_Newer.f
    split
    · exact ⟨_, rfl⟩
    · exact ⟨_, rfl⟩
theorem row_some (x0 : List S31) (hn : x0.length < 1000) (K : Nat) (d : Nat) : ∀ (i : Nat) (x7 : Bool) (a b c e : Int) (f : Bool) (g h j k l m n : Int), i + d = x0.length →
    ∃ r, gb_Row.l0 (K + d + 1) x0 x7 (i : Int) a b c e f g h j k l m n = some r := by
  induction d with
  | zero =>
    intro i x7 a b c e f g h j k l m n hi
    rw [gb_Row.l0, if_neg (by omega)]
    exact ⟨_, rfl⟩
  | succ d ih =>
    intro i x7 a b c e f g h j k l m n hi
    have w := wr1 i (by omega)
    have ih2 := fun x7 a b c e f g h j k l m n => ih (i + 1) x7 a b c e f g h j k l m n (by omega)
    rw [show K + (d + 1) + 1 = (K + d + 1) + 1 by omega, gb_Row.l0, if_pos (by omega), if_pos (by omega), w]
    split
    · exact ih2 ..
    · split
      · exact ih2 ..
      · split
        · obtain ⟨r, hr⟩ := nearer_some (rd_T31 x0 i).f3.f3 (rd_T31 x0 i).f3.f2 m n
          rw [hr, Option.bind_some]
          split
          · exact ih2 ..
          · exact ih2 ..
        · exact ih2 ..
theorem u8of (x : Int) (h : (Lit.int .u8 x).wf = true) : 0 ≤ x ∧ x < 256 := by
  simp [Lit.wf, IntKind.signed, IntKind.bits, IntKind.min, IntKind.max] at h; omega
theorem pref_at (K p : Nat) (hK : 40 ≤ K) (hp : p < 256) : ∃ a n, gb_Prefix.f K (p : Int) = some (a, n) ∧ gb_Prefix.f 40 ((p % 18 : Nat) : Int) = some (a, n) := by
  have h := pref_all
  rw [List.all_eq_true] at h
  have h2 := h (p % 18) (List.mem_range.2 (Nat.mod_lt _ (by omega)))
  unfold prefOk at h2
  cases hx : gb_Prefix.f 40 ((p % 18 : Nat) : Int) with
  | none => rw [hx] at h2; cases h2
  | some x =>
    obtain ⟨a, n⟩ := x
    refine ⟨a, n, ?_, rfl⟩
    rw [prefix18 K p hp]
    exact at_rounds (fun k => gb_Prefix.mono _ k) hK hx
def goneC (l : List S31) (t f4 : Int) (a n : Int) : S31 := (⟨IntKind.u64.wrap (wrap64 ((l.length : Int) + 1)), IntKind.u64.wrap (t + (IntKind.u64.wrap (Int.tmod f4 4))), true, (⟨(⟨a, n⟩ : S25), 0, 0, 0⟩ : S29)⟩ : S31)
def wayC (l : List S31) (t f1 f2 f3 f4 : Int) (a n : Int) : S31 := (⟨IntKind.u64.wrap (wrap64 ((l.length : Int) + 1)), IntKind.u64.wrap (t + (IntKind.u64.wrap (Int.tmod f4 4))), false, (⟨(⟨a, n⟩ : S25), wrap64 (Int.tmod f1 16), IntKind.u16.wrap ((IntKind.u16.wrap f2) * 7), IntKind.u16.wrap ((Int.tmod (IntKind.u16.wrap f3) 4) + 65534)⟩ : S29)⟩ : S31)
theorem time_is (t f4 : Int) (ht : 0 ≤ t ∧ t < 1000) (h4 : 0 ≤ f4 ∧ f4 < 256) : IntKind.u64.wrap (t + (IntKind.u64.wrap (Int.tmod f4 4))) = t + f4 % 4 := by
  rw [Int.tmod_eq_emod_of_nonneg h4.1, wr64, wr64]; omega
theorem no_is (l : List S31) (hl : l.length < 1000) : IntKind.u64.wrap (wrap64 ((l.length : Int) + 1)) = (l.length : Int) + 1 := by
  rw [wr64]; unfold wrap64; omega
theorem gone_hist (l : List S31) (t f4 a n : Int) (p : Nat) (hl : l.length < 300) (h : histP l t) (h4 : 0 ≤ f4 ∧ f4 < 256) (hp : p < 18) (hx : gb_Prefix.f 40 (p : Int) = some (a, n)) :
    histP (l ++ [goneC l t f4 a n]) (IntKind.u64.wrap (t + (IntKind.u64.wrap (Int.tmod f4 4)))) := by
  have ht := h.2.2
  have e := time_is t f4 (by omega) h4
  refine histP_snoc l t (goneC l t f4 a n) h ⟨⟨p, hp, hx⟩, ?_⟩ (no_is l (by omega)) ?_ ?_
  · exact ⟨⟨by show (0 : Int) ≤ 0 ∧ (0 : Int) < 16; omega, by show (0 : Int) ≤ 0 ∧ (0 : Int) < 65536; omega, by show (0 : Int) ≤ 0 ∧ (0 : Int) < 65536; omega⟩, fun _ => ⟨rfl, rfl, rfl⟩, fun hf => absurd (show true = false from hf) (by decide)⟩
  · show t ≤ IntKind.u64.wrap (t + (IntKind.u64.wrap (Int.tmod f4 4))); omega
  · show IntKind.u64.wrap (t + (IntKind.u64.wrap (Int.tmod f4 4))) ≤ t + 3; omega
theorem way_hist (l : List S31) (t f1 f2 f3 f4 a n : Int) (p : Nat) (hl : l.length < 300) (h : histP l t) (h1 : 0 ≤ f1 ∧ f1 < 256) (h2 : 0 ≤ f2 ∧ f2 < 256) (h3 : 0 ≤ f3 ∧ f3 < 256) (h4 : 0 ≤ f4 ∧ f4 < 256) (hp : p < 18) (hx : gb_Prefix.f 40 (p : Int) = some (a, n)) :
    histP (l ++ [wayC l t f1 f2 f3 f4 a n]) (IntKind.u64.wrap (t + (IntKind.u64.wrap (Int.tmod f4 4)))) := by
  have ht := h.2.2
  have e := time_is t f4 (by omega) h4
  have w1 : wrap64 (Int.tmod f1 16) = f1 % 16 := by rw [Int.tmod_eq_emod_of_nonneg h1.1]; unfold wrap64; omega
  have w2 : IntKind.u16.wrap ((IntKind.u16.wrap f2) * 7) = f2 * 7 := by show (f2 % 65536 * 7) % 65536 = f2 * 7; omega
  have w3 : 0 ≤ IntKind.u16.wrap ((Int.tmod (IntKind.u16.wrap f3) 4) + 65534) ∧ IntKind.u16.wrap ((Int.tmod (IntKind.u16.wrap f3) 4) + 65534) < 65536 := by
    show 0 ≤ (Int.tmod (f3 % 65536) 4 + 65534) % 65536 ∧ (Int.tmod (f3 % 65536) 4 + 65534) % 65536 < 65536
    omega
  refine histP_snoc l t (wayC l t f1 f2 f3 f4 a n) h ⟨⟨p, hp, hx⟩, ?_⟩ (no_is l (by omega)) ?_ ?_
  · refine ⟨⟨?_, ?_, w3⟩, fun hf => absurd (show false = true from hf) (by decide), fun _ => ?_⟩
    · show 0 ≤ wrap64 (Int.tmod f1 16) ∧ wrap64 (Int.tmod f1 16) < 16; omega
    · show 0 ≤ IntKind.u16.wrap ((IntKind.u16.wrap f2) * 7) ∧ IntKind.u16.wrap ((IntKind.u16.wrap f2) * 7) < 65536; omega
    · show IntKind.u16.wrap ((IntKind.u16.wrap f2) * 7) < 65535; omega
  · show t ≤ IntKind.u64.wrap (t + (IntKind.u64.wrap (Int.tmod f4 4))); omega
  · show IntKind.u64.wrap (t + (IntKind.u64.wrap (Int.tmod f4 4))) ≤ t + 3; omega
theorem rd38_mem (l : List S38) (i : Nat) (h : i < l.length) : rd_T38 l (i : Int) ∈ l := by
  unfold rd_T38
  rw [Int.toNat_natCast, List.getD_eq_getElem?_getD, List.getElem?_eq_getElem h]
  exact List.getElem_mem h
def prv (l : List S31) (j : Nat) : S31 := if j = 0 then z31 else rd_T31 l ((j - 1 : Nat) : Int)
theorem prv_succ (l : List S31) (j : Nat) : prv l (j + 1) = rd_T31 l (j : Int) := rfl
theorem pref_form (c : S31) (h : prefP c) : ∃ b N : Nat, c.f3.f0.f1 = (b : Int) ∧ b < 33 ∧ N ≤ 4 ∧ octB (b : Int) = (N : Int) ∧ True ∧ addrF c.f3.f0.f0 N = c.f3.f0.f0 := by
  obtain ⟨p, hp, hx⟩ := h
  have h0 := pref_all
  rw [List.all_eq_true] at h0
  have h2 := h0 p (List.mem_range.2 hp)
  unfold prefOk at h2
  rw [hx] at h2
  simp only [Bool.and_eq_true, decide_eq_true_eq] at h2
  obtain ⟨⟨⟨q2, q3⟩, q4⟩, q5⟩ := h2
  refine ⟨c.f3.f0.f1.toNat, (octB c.f3.f0.f1).toNat, by omega, by omega, by omega, ?_, ?_, q2⟩
  · have e : ((c.f3.f0.f1.toNat : Nat) : Int) = c.f3.f0.f1 := by omega
    rw [e]
    unfold octB at q4 ⊢
    omega
  · exact trivial
theorem cb_far (s t a b : Nat) (hs : Takes s a) (ht : Takes t b) (hst : s < t) : hd1 s a < hd1 t b := by
  obtain ⟨h1, h9, hs⟩ := hs
  obtain ⟨g1, g9, ht⟩ := ht
  have l1 := (hs s h1 (by omega)).1 (Nat.le_refl _)
  have hh := high_small s a h1 (by omega) l1
  have e : 2 ^ (9 - s) = 2 * 2 ^ (8 - s) := by rw [show 9 - s = (8 - s) + 1 by omega, Nat.pow_succ]; omega
  have p : 0 < 2 ^ (8 - s) := Nat.two_pow_pos _
  have h8 : 2 ^ (8 - s) ≤ 2 ^ 7 := Nat.pow_le_pow_right (by omega) (by omega)
  unfold hd1
  rw [if_neg (by omega)]
  by_cases h : t = 9
  · rw [if_pos h]; omega
  · rw [if_neg h]
    have : 2 ^ (9 - t) ≤ 2 ^ (8 - s) := Nat.pow_le_pow_right (by omega) (by omega)
    generalize a / 256 ^ (s - 1) = q at hh ⊢
    generalize b / 256 ^ (t - 1) = q2
    omega
theorem C_app (a b : Nat) (ha : a < 18446744073709551616) (hb : b < 18446744073709551616) (r r2 : List Int) (h : C a ++ r = C b ++ r2) : a = b ∧ r = r2 := by
  have hs := takes_sz a
  have ht := takes_sz b
  unfold C at h
  have hd : hd1 (szN a) a = hd1 (szN b) b := by
    unfold cb at h
    rw [List.cons_append, List.cons_append, List.cons.injEq] at h
    exact h.1
  have hst : szN a = szN b := by
    rcases Nat.lt_trichotomy (szN a) (szN b) with h1 | h1 | h1
    · have := cb_far _ _ a b hs ht h1; omega
    · exact h1
    · have := cb_far _ _ b a ht hs h1; omega
  have h2 := List.append_inj h (by rw [cb_length _ _ hs, cb_length _ _ ht, hst])
  exact ⟨cb_inj _ _ a b hs ht ha hb h2.1, h2.2⟩
theorem addrF_eq (a b : Int) : ∀ N : Nat, (∀ i, i < N → octA a i = octA b i) → addrF a N = addrF b N
  | 0, _ => rfl
  | N + 1, h => by
    show Go.bits .or .u32 (addrF a N) (shl .u32 ((octA a N) % 4294967296) ((24 - 8 * N : Nat) : Int)) = Go.bits .or .u32 (addrF b N) (shl .u32 ((octA b N) % 4294967296) ((24 - 8 * N : Nat) : Int))
    rw [addrF_eq a b N (fun i hi => h i (by omega)), h N (by omega)]
theorem octs_eq (a b : Int) : ∀ (d s : Nat), octs a s d = octs b s d → ∀ i, s ≤ i → i < s + d → octA a i = octA b i
  | 0, s, _, i, h1, h2 => by omega
  | d + 1, s, h, i, h1, h2 => by
    rw [octs_succ, octs_succ, List.cons.injEq] at h
    by_cases e : i = s
    · rw [e]; exact h.1
    · exact octs_eq a b d (s + 1) h.2 i (by omega) (by omega)
theorem zg_inj (a b : Int) (h : zg a = zg b) : a = b := by
  unfold zg at h
  split at h <;> split at h <;> omega
theorem encC_inj (t0 v0 m0 s0 a0 : Int) (M M2 : Nat) (h0 : small v0 m0 s0) (ht0 : 0 ≤ t0)
    (t1 : Int) (g1 : Bool) (a1 v1 m1 s1 : Int) (b s d N : Nat) (hs : Sh a0 a1 M s) (hd : s + d = N) (hN : N ≤ 4) (hbN : octB (b : Int) = (N : Int)) (hb : b < 33) (ha : addrF a1 N = a1) (hg : goodC g1 v1 m1 s1) (ht : t0 ≤ t1 ∧ t1 < 18446744073709551616)
    (t2 : Int) (g2 : Bool) (a2 v2 m2 s2 : Int) (b2 s3 d2 N2 : Nat) (hs2 : Sh a0 a2 M2 s3) (hd2 : s3 + d2 = N2) (hN2 : N2 ≤ 4) (hbN2 : octB (b2 : Int) = (N2 : Int)) (hb2 : b2 < 33) (ha2 : addrF a2 N2 = a2) (hg2 : goodC g2 v2 m2 s2) (ht2 : t0 ≤ t2 ∧ t2 < 18446744073709551616)
    (h : encC t0 v0 m0 s0 t1 g1 a1 v1 m1 s1 b s d = encC t0 v0 m0 s0 t2 g2 a2 v2 m2 s2 b2 s3 d2) :
    t1 = t2 ∧ g1 = g2 ∧ a1 = a2 ∧ b = b2 ∧ v1 = v2 ∧ m1 = m2 ∧ s1 = s2 := by
  unfold encC at h
  rw [List.append_assoc, List.append_assoc, List.append_assoc, List.append_assoc] at h
  obtain ⟨e1, hq⟩ := C_app _ _ (by omega) (by omega) _ _ h
  clear h
  have hbd1 : 0 ≤ headB b s g1 ∧ headB b s g1 < 18446744073709551616 := by unfold headB; split <;> omega
  have hbd2 : 0 ≤ headB b2 s3 g2 ∧ headB b2 s3 g2 < 18446744073709551616 := by unfold headB; split <;> omega
  obtain ⟨e2, hr⟩ := C_app _ _ (by omega) (by omega) _ _ hq
  clear hq
  have e3 : b = b2 ∧ s = s3 ∧ g1 = g2 := by
    have e : headB b s g1 = headB b2 s3 g2 := by omega
    unfold headB at e
    cases g1 <;> cases g2 <;> simp only [if_true, Bool.false_eq_true, if_false] at e
    · exact ⟨by omega, by omega, rfl⟩
    · omega
    · omega
    · exact ⟨by omega, by omega, rfl⟩
  obtain ⟨rfl, rfl, rfl⟩ := e3
  obtain rfl : N = N2 := by omega
  obtain rfl : d = d2 := by omega
  have h2 := List.append_inj hr (by rw [octs_length, octs_length])
  have ho := octs_eq a1 a2 d s h2.1
  have hall : ∀ i, i < N → octA a1 i = octA a2 i := by
    intro i hi
    by_cases c : i < s
    · rw [hs.2.1 i c, hs2.2.1 i c]
    · exact ho i (by omega) (by omega)
  have haa : a1 = a2 := by rw [← ha, ← ha2]; exact addrF_eq a1 a2 N hall
  have hT := h2.2
  clear hr h2
  refine ⟨by omega, rfl, haa, rfl, ?_⟩
  cases g1
  · unfold encT at hT
    rw [if_neg (by decide), if_neg (by decide), List.append_assoc, List.append_assoc] at hT
    obtain ⟨⟨⟨x1, x2⟩, ⟨x3, x4⟩, ⟨x5, x6⟩⟩, _, _⟩ := hg
    obtain ⟨⟨⟨y1, y2⟩, ⟨y3, y4⟩, ⟨y5, y6⟩⟩, _, _⟩ := hg2
    obtain ⟨⟨u1, u2⟩, ⟨u3, u4⟩, ⟨u5, u6⟩⟩ := h0
    have z1 := zg_bd (v1 - v0) (by omega)
    have z2 := zg_bd (m1 - m0) (by omega)
    have z3 := zg_bd (v2 - v0) (by omega)
    have z4 := zg_bd (m2 - m0) (by omega)
    obtain ⟨f1, hT1⟩ := C_app _ _ (by omega) (by omega) _ _ hT
    obtain ⟨f2, hT2⟩ := C_app _ _ (by omega) (by omega) _ _ hT1
    have f3 := (C_app ((s1 - s0) % 65536).toNat ((s2 - s0) % 65536).toNat (by omega) (by omega) [] [] (by rw [List.append_nil, List.append_nil]; exact hT2)).1
    have k1 := zg_inj (v1 - v0) (v2 - v0) (by omega)
    have k2 := zg_inj (m1 - m0) (m2 - m0) (by omega)
    exact ⟨by omega, by omega, by omega⟩
  · obtain ⟨x1, x2, x3⟩ := hg.2.1 rfl
    obtain ⟨y1, y2, y3⟩ := hg2.2.1 rfl
    exact ⟨by omega, by omega, by omega⟩
def wf38 (x : S38) : Prop := ((Lit.int .u8 x.f0).wf = true ∧ ((Lit.int .u8 x.f1).wf = true ∧ ((Lit.int .u8 x.f2).wf = true ∧ ((Lit.int .u8 x.f3).wf = true ∧ (Lit.int .u8 x.f4).wf = true))))
theorem hist_step (v : S38) (hv : wf38 v) (K : Nat) (hK : 110 ≤ K) (i : Nat) (hi : i < 60) (l : List S31) (t : Int) (hl : l.length = i) (hp : histP l t) : ∃ (c : S31) (t2 : Int), histP (l ++ [c]) t2 ∧
    ∀ x0 : List S38, x0.length ≤ 60 → i < x0.length → rd_T38 x0 (i : Int) = v → gb_History.l0 (K + 2) x0 l t (i : Int) = gb_History.l0 K x0 (l ++ [c]) t2 ((i + 1 : Nat) : Int) := by
  obtain ⟨b0, b1, b2, b3, b4⟩ := hv
  have c0 := u8of _ b0
  have c1 := u8of _ b1
  have c2 := u8of _ b2
  have c3 := u8of _ b3
  have c4 := u8of _ b4
  clear b0 b1 b2 b3 b4
  obtain ⟨p, hpp⟩ : ∃ p : Nat, v.f0 = (p : Int) := ⟨v.f0.toNat, by omega⟩
  obtain ⟨a, n, e1, e2⟩ := pref_at K p (by omega) (by omega)
  have hm : p % 18 < 18 := Nat.mod_lt _ (by omega)
  obtain ⟨r, hr⟩ := row_some l (by omega) (K - 1 - i) i 0 false a n a n false 0 0 0 0 0 0 0 (by omega)
  rw [show K - 1 - i + i + 1 = K by omega] at hr
  have w := Aside0.mk (wr1 i (by omega))
  have hw := way_hist l t v.f1 v.f2 v.f3 v.f4 a n (p % 18) (by omega) hp c1 c2 c3 c4 hm e2
  have hg := gone_hist l t v.f4 a n (p % 18) (by omega) hp c4 hm e2
  have hr2 : gb_Row.f K l (a, n).1 (a, n).2 = some r := hr
  have base : ∀ x0 : List S38, x0.length ≤ 60 → i < x0.length → rd_T38 x0 (i : Int) = v → gb_History.l0 (K + 2) x0 l t (i : Int) =
      (if r.2.2.2.2.2.2.2.2.2.2 = true then (if r.2.2.1 = true then (if (Int.tmod v.f1 4) = 3 then gb_History.l0 K x0 (l ++ [goneC l t v.f4 a n]) (IntKind.u64.wrap (t + (IntKind.u64.wrap (Int.tmod v.f4 4)))) ((i + 1 : Nat) : Int) else gb_History.l0 K x0 (l ++ [wayC l t v.f1 v.f2 v.f3 v.f4 a n]) (IntKind.u64.wrap (t + (IntKind.u64.wrap (Int.tmod v.f4 4)))) ((i + 1 : Nat) : Int)) else gb_History.l0 K x0 (l ++ [wayC l t v.f1 v.f2 v.f3 v.f4 a n]) (IntKind.u64.wrap (t + (IntKind.u64.wrap (Int.tmod v.f4 4)))) ((i + 1 : Nat) : Int)) else gb_History.l0 K x0 (l ++ [wayC l t v.f1 v.f2 v.f3 v.f4 a n]) (IntKind.u64.wrap (t + (IntKind.u64.wrap (Int.tmod v.f4 4)))) ((i + 1 : Nat) : Int)) := by
    intro x0 hx hi2 hrd
    rw [gb_History.l0, if_pos (by omega), decide_eq_true (by omega), gb_History.j1, if_pos rfl, if_pos (by omega), if_pos (by omega), hrd, hpp, e1, Option.bind_some, hr2, Option.bind_some, w.out]
    split
    · split
      · split
        · rw [if_pos (by omega)]; rfl
        · rw [if_pos (by omega)]; rfl
      · rw [if_pos (by omega)]; rfl
    · rw [if_pos (by omega)]; rfl
  by_cases d1 : r.2.2.2.2.2.2.2.2.2.2 = true
  · by_cases d2 : r.2.2.1 = true
    · by_cases d3 : (Int.tmod v.f1 4) = 3
      · exact ⟨_, _, hg, fun x0 hx hi2 hrd => by rw [base x0 hx hi2 hrd, if_pos d1, if_pos d2, if_pos d3]⟩
      · exact ⟨_, _, hw, fun x0 hx hi2 hrd => by rw [base x0 hx hi2 hrd, if_pos d1, if_pos d2, if_neg d3]⟩
    · exact ⟨_, _, hw, fun x0 hx hi2 hrd => by rw [base x0 hx hi2 hrd, if_pos d1, if_neg d2]⟩
  · exact ⟨_, _, hw, fun x0 hx hi2 hrd => by rw [base x0 hx hi2 hrd, if_neg d1]⟩
theorem hist_pre (l0 : List S38) (hx : ∀ x ∈ l0, wf38 x) (hn : l0.length ≤ 59) (k : Nat) (hk : 110 ≤ k) (d : Nat) : ∀ (i : Nat) (l : List S31) (t : Int), i + d = l0.length → l.length = i → histP l t → ∃ l2 t2, histP l2 t2 ∧ l2.length = l0.length ∧
    ∀ x0 : List S38, x0.length = l0.length + 1 → (∀ j : Nat, j < l0.length → rd_T38 x0 (j : Int) = rd_T38 l0 (j : Int)) → gb_History.l0 (k + 2 * d) x0 l t (i : Int) = gb_History.l0 k x0 l2 t2 ((l0.length : Nat) : Int) := by
  induction d with
  | zero =>
    intro i l t hi hl hp
    obtain rfl : i = l0.length := by omega
    exact ⟨l, t, hp, hl, fun x0 _ _ => rfl⟩
  | succ d ih =>
    intro i l t hi hl hp
    obtain ⟨c, t1, hc, hs⟩ := hist_step (rd_T38 l0 (i : Int)) (hx _ (rd38_mem l0 i (by omega))) (k + 2 * d) (by omega) i (by omega) l t hl hp
    obtain ⟨l2, t2, h1, h2, h3⟩ := ih (i + 1) (l ++ [c]) t1 (by omega) (by rw [List.length_append, List.length_singleton]; omega) hc
    refine ⟨l2, t2, h1, h2, fun x0 hx0 hj => ?_⟩
    rw [show k + 2 * (d + 1) = k + 2 * d + 2 by omega, hs x0 (by omega) (by omega) (hj i (by omega))]
    exact h3 x0 hx0 hj
theorem rd38_app (l : List S38) (c : S38) (i : Nat) (h : i < l.length) : rd_T38 (l ++ [c]) (i : Int) = rd_T38 l (i : Int) := by
  unfold rd_T38
  rw [Int.toNat_natCast, List.getD_eq_getElem?_getD, List.getD_eq_getElem?_getD, List.getElem?_append_left h]
theorem rd38_last (l : List S38) (c : S38) : rd_T38 (l ++ [c]) ((l.length : Nat) : Int) = c := by
  unfold rd_T38
  rw [Int.toNat_natCast, List.getD_eq_getElem?_getD, List.getElem?_append_right (Nat.le_refl _), Nat.sub_self]
  rfl
/-- two histories that part at their last act -/
theorem hist_two (l0 : List S38) (hx : ∀ x ∈ l0, wf38 x) (hn : l0.length ≤ 20) (K : Nat) (hK : 300 ≤ K) : ∃ L : List S31, L.length = l0.length ∧ ∀ x : S38, wf38 x → ∃ (c : S31) (t : Int), histP (L ++ [c]) t ∧ gb_History.f K (l0 ++ [x]) = some (L ++ [c]) := by
  obtain ⟨L, t, h1, h2, h3⟩ := hist_pre l0 hx (by omega) (K - 2 * l0.length) (by omega) l0.length 0 [] 0 (by omega) rfl histP_nil
  refine ⟨L, h2, fun x hxw => ?_⟩
  obtain ⟨c, t2, hc, hs⟩ := hist_step x hxw (K - 2 * l0.length - 2) (by omega) l0.length (by omega) L t h2 h1
  refine ⟨c, t2, hc, ?_⟩
  have hlen : (l0 ++ [x]).length = l0.length + 1 := by rw [List.length_append, List.length_singleton]
  have e1 := h3 (l0 ++ [x]) hlen (fun j hj => rd38_app l0 x j hj)
  have e2 := hs (l0 ++ [x]) (by omega) (by omega) (rd38_last l0 x)
  rw [show K - 2 * l0.length - 2 + 2 = K - 2 * l0.length by omega] at e2
  rw [show K - 2 * l0.length + 2 * l0.length = K by omega] at e1
  unfold gb_History.f
  refine e1.trans (e2.trans ?_)
  obtain ⟨k, hk⟩ : ∃ k, K - 2 * l0.length - 2 = k + 2 := ⟨K - 2 * l0.length - 4, by omega⟩
  rw [hk, gb_History.l0, if_neg (by omega), gb_History.j1, if_neg (by decide)]
theorem step_full (l : List S31) (t : Int) (hl : l.length ≤ 60) (h : histP l t) (j : Nat) (hj : j < l.length) : ∃ b N b0 N0 s : Nat, (rd_T31 l j).f3.f0.f1 = (b : Int) ∧ b < 33 ∧ N ≤ 4 ∧ octB (b : Int) = (N : Int) ∧ addrF (rd_T31 l j).f3.f0.f0 N = (rd_T31 l j).f3.f0.f0 ∧
    small (prv l j).f3.f1 (prv l j).f3.f2 (prv l j).f3.f3 ∧ 0 ≤ (prv l j).f1 ∧ (prv l j).f1 ≤ (rd_T31 l j).f1 ∧ (rd_T31 l j).f1 < 18446744073709551616 ∧ Sh (prv l j).f3.f0.f0 (rd_T31 l j).f3.f0.f0 (min N N0) s ∧ goodC (rd_T31 l j).f2 (rd_T31 l j).f3.f1 (rd_T31 l j).f3.f2 (rd_T31 l j).f3.f3 ∧ (rd_T31 l j).f0 = (j : Int) + 1 ∧
    (∀ K, 30 ≤ K → change_Encode.f K (prv l j).f0 (prv l j).f1 (prv l j).f2 (prv l j).f3.f0.f0 (prv l j).f3.f0.f1 (prv l j).f3.f1 (prv l j).f3.f2 (prv l j).f3.f3 (rd_T31 l j).f0 (rd_T31 l j).f1 (rd_T31 l j).f2 (rd_T31 l j).f3.f0.f0 (rd_T31 l j).f3.f0.f1 (rd_T31 l j).f3.f1 (rd_T31 l j).f3.f2 (rd_T31 l j).f3.f3 = some (encC (prv l j).f1 (prv l j).f3.f1 (prv l j).f3.f2 (prv l j).f3.f3 (rd_T31 l j).f1 (rd_T31 l j).f2 (rd_T31 l j).f3.f0.f0 (rd_T31 l j).f3.f1 (rd_T31 l j).f3.f2 (rd_T31 l j).f3.f3 b s (N - s))) := by
  obtain ⟨p1, p2, p3, p4⟩ := h
  obtain ⟨n1, ⟨f1, g1⟩, u1, u2⟩ := p1 j hj
  obtain ⟨b, N, e1, e2, e3, e4, e5, e6⟩ := pref_form _ f1
  have prev : ∃ b0 N0 : Nat, (prv l j).f3.f0.f1 = (b0 : Int) ∧ b0 < 33 ∧ octB (b0 : Int) = (N0 : Int) ∧ small (prv l j).f3.f1 (prv l j).f3.f2 (prv l j).f3.f3 ∧ (prv l j).f0 = (j : Int) ∧ 0 ≤ (prv l j).f1 ∧ (prv l j).f1 ≤ (rd_T31 l j).f1 := by
    cases j with
    | zero => exact ⟨0, 0, rfl, by omega, rfl, ⟨by show (0 : Int) ≤ 0 ∧ (0 : Int) < 16; omega, by show (0 : Int) ≤ 0 ∧ (0 : Int) < 65536; omega, by show (0 : Int) ≤ 0 ∧ (0 : Int) < 65536; omega⟩, rfl, Int.le_refl _, u1⟩
    | succ j =>
      rw [prv_succ]
      obtain ⟨m1, ⟨k1, k2⟩, v1, v2⟩ := p1 j (by omega)
      obtain ⟨b0, N0, d1, d2, d3, d4, d5, d6⟩ := pref_form _ k1
      exact ⟨b0, N0, d1, d2, d4, k2.1, by rw [m1]; omega, v1, p2 j hj⟩
  obtain ⟨b0, N0, c1, c2, c3, c4, c5, c6, c7⟩ := prev
  obtain ⟨s, hs⟩ := sh_any (prv l j).f3.f0.f0 (rd_T31 l j).f3.f0.f0 (min N N0)
  have hsm := hs.1
  refine ⟨b, N, b0, N0, s, e1, e2, e3, e4, e6, c4, c6, c7, by omega, hs, g1, n1, fun K hK => ?_⟩
  rw [c1, e1]
  exact enc_chg K hK N N0 s (N - s) b b0 e2 c2 e3 (by omega) e4 c3 _ _ _ _ _ _ _ _ _ _ _ _ _ _ hs (by omega) c4 g1.1
theorem encC_bytes (t0 v0 m0 s0 t1 : Int) (g1 : Bool) (a1 v1 m1 s1 : Int) (b s d : Nat) : isBytes (encC t0 v0 m0 s0 t1 g1 a1 v1 m1 s1 b s d) := by
  unfold encC
  refine isBytes_append (isBytes_append (isBytes_append (C_bytes _) (C_bytes _)) (octs_bytes _ _ _)) ?_
  unfold encT
  split
  · intro x hx; cases hx
  · exact isBytes_append (isBytes_append (C_bytes _) (C_bytes _)) (C_bytes _)
def same31 (a b : S31) : Bool := (a.f0 == b.f0 && (a.f1 == b.f1 && (a.f2 == b.f2 && (((a.f3.f0.f0 == b.f3.f0.f0 && (a.f3.f0.f1 == b.f3.f0.f1)) && (a.f3.f1 == b.f3.f1 && (a.f3.f2 == b.f3.f2 && (a.f3.f3 == b.f3.f3))))))))
theorem same31_is (a b : S31) : same31 a b = true ↔ a = b := by
  obtain ⟨a0, a1, a2, ⟨⟨a3, a4⟩, a5, a6, a7⟩⟩ := a
  obtain ⟨b0, b1, b2, ⟨⟨b3, b4⟩, b5, b6, b7⟩⟩ := b
  simp [same31]
/-- their last changes' bytes are alike if they are -/
theorem two_bytes (L : List S31) (n : Nat) (hn : n ≤ 20) (hL : L.length = n) (ca cb : S31) (ta tb : Int) (ha : histP (L ++ [ca]) ta) (hb : histP (L ++ [cb]) tb) : ∃ pa pb : List Int,
    (∀ K, 30 ≤ K → change_Encode.f K (prv L n).f0 (prv L n).f1 (prv L n).f2 (prv L n).f3.f0.f0 (prv L n).f3.f0.f1 (prv L n).f3.f1 (prv L n).f3.f2 (prv L n).f3.f3 ca.f0 ca.f1 ca.f2 ca.f3.f0.f0 ca.f3.f0.f1 ca.f3.f1 ca.f3.f2 ca.f3.f3 = some pa) ∧
    (∀ K, 30 ≤ K → change_Encode.f K (prv L n).f0 (prv L n).f1 (prv L n).f2 (prv L n).f3.f0.f0 (prv L n).f3.f0.f1 (prv L n).f3.f1 (prv L n).f3.f2 (prv L n).f3.f3 cb.f0 cb.f1 cb.f2 cb.f3.f0.f0 cb.f3.f0.f1 cb.f3.f1 cb.f3.f2 cb.f3.f3 = some pb) ∧
    ((strOfNums pa).toList == (strOfNums pb).toList) == same31 ca cb := by
  have hpv : ∀ c : S31, prv (L ++ [c]) n = prv L n := by
    intro c
    unfold prv
    by_cases h0 : n = 0
    · rw [if_pos h0, if_pos h0]
    · rw [if_neg h0, if_neg h0, rd31_app L c (n - 1) (by omega)]
  have hrd : ∀ c : S31, rd_T31 (L ++ [c]) (n : Int) = c := by
    intro c
    rw [← hL]
    exact rd31_last L c
  have hlen : ∀ c : S31, (L ++ [c]).length = n + 1 := by intro c; rw [List.length_append, List.length_singleton, hL]
  have fa := step_full (L ++ [ca]) ta (by rw [hlen]; omega) ha n (by rw [hlen]; omega)
  have fb := step_full (L ++ [cb]) tb (by rw [hlen]; omega) hb n (by rw [hlen]; omega)
  rw [hpv, hrd] at fa fb
  obtain ⟨b, N, b0, N0, s, x1, x2, x3, x4, x5, x6, x7, x8, x9, x10, x11, x12, x13⟩ := fa
  obtain ⟨c, M, c0, M0, r, y1, y2, y3, y4, y5, y6, y7, y8, y9, y10, y11, y12, y13⟩ := fb
  refine ⟨_, _, x13, y13, ?_⟩
  rw [beq_iff_eq]
  have hs1 := x10.1
  have hs2 := y10.1
  by_cases e : ca = cb
  · have h2 := x13 30 (Nat.le_refl _)
    rw [e, y13 30 (Nat.le_refl _)] at h2
    have h3 := Option.some.inj h2
    rw [(same31_is ca cb).2 e, e, h3]
    exact beq_self_eq_true _
  · have e2 : same31 ca cb = false := by
      cases h : same31 ca cb
      · rfl
      · exact absurd ((same31_is ca cb).1 h) e
    rw [e2, beq_eq_false_iff_ne]
    intro h
    rw [bytes_toList _ _ (encC_bytes _ _ _ _ _ _ _ _ _ _ _ _ _) (encC_bytes _ _ _ _ _ _ _ _ _ _ _ _ _)] at h
    obtain ⟨z1, z2, z3, z4, z5, z6, z7⟩ := encC_inj _ _ _ _ _ _ _ x6 x7 _ _ _ _ _ _ b s (N - s) N x10 (by omega) x3 x4 x2 x5 x11 ⟨x8, x9⟩ _ _ _ _ _ _ c r (M - r) M y10 (by omega) y3 y4 y2 y5 y11 ⟨y8, y9⟩ h
    apply e
    have k0 : ca.f0 = cb.f0 := by rw [x12, y12]
    have k4 : ca.f3.f0.f1 = cb.f3.f0.f1 := by rw [x1, y1, z4]
    obtain ⟨a0, a1, a2, ⟨⟨a3, a4⟩, a5, a6, a7⟩⟩ := ca
    obtain ⟨b0, b1, b2, ⟨⟨b3, b4⟩, b5, b6, b7⟩⟩ := cb
    simp only at k0 k4 z1 z2 z3 z5 z6 z7
    subst k0 k4 z1 z2 z3 z5 z6 z7
    rfl
theorem awake07 (k : Nat) (h : 40 ≤ k) : gl_awake.f k = some true := at_rounds (fun k => gl_awake.mono k) h awake_is
theorem ChangeApart : gl_ChangeApart.Pure := by
  intro l0 x0 x1 x2 x3 x4 y0 y1 y2 y3 y4 hm hx p0 p1 p2 p3 p4 q0 q1 q2 q3 q4
  by_cases hn : l0.length ≤ 20
  · obtain ⟨L, hL, hS⟩ := hist_two l0 hx hn 300 (Nat.le_refl _)
    obtain ⟨ca, ta, ha, e1⟩ := hS ⟨x0, x1, x2, x3, x4⟩ ⟨p0, p1, p2, p3, p4⟩
    obtain ⟨cb, tb, hb, e2⟩ := hS ⟨y0, y1, y2, y3, y4⟩ ⟨q0, q1, q2, q3, q4⟩
    obtain ⟨pa, pb, f1, f2, f3⟩ := two_bytes L l0.length hn hL ca cb ta tb ha hb
    have g1 := f1 300 (by omega)
    have g2 := f2 300 (by omega)
    clear f1 f2
    have la : (L ++ [ca]).length = l0.length + 1 := by rw [List.length_append, List.length_singleton, hL]
    have lb : (L ++ [cb]).length = l0.length + 1 := by rw [List.length_append, List.length_singleton, hL]
    have w1 : Aside0 (wrap64 (((l0.length + 1 : Nat) : Int) - 1) = ((l0.length : Nat) : Int)) := ⟨by unfold wrap64; omega⟩
    have r1 : rd_T31 (L ++ [ca]) ((l0.length : Nat) : Int) = ca := by rw [← hL]; exact rd31_last L ca
    have r2 : rd_T31 (L ++ [cb]) ((l0.length : Nat) : Int) = cb := by rw [← hL]; exact rd31_last L cb
    refine ⟨301, ?_⟩
    unfold gl_ChangeApart.f
    rw [awake07 _ (by omega), Option.bind_some, if_pos rfl, decide_eq_false (by omega), gl_ChangeApart.j0, if_neg (by decide), if_pos (by simp only [List.length_nil]; omega), Option.bind_some, Option.bind_some, if_pos (by simp only [List.nil_append, List.length_cons, List.length_nil]; omega), List.nil_append, e1, Option.bind_some, Option.bind_some, Option.bind_some, if_pos (by simp only [List.length_cons, List.length_nil]; omega), e2, Option.bind_some, la, lb, w1.out, r1, r2]
    by_cases c : 0 < l0.length
    · have w2 : Aside0 (wrap64 (((l0.length : Nat) : Int) - 1) = ((l0.length - 1 : Nat) : Int)) := ⟨by unfold wrap64; omega⟩
      have hp : prv L l0.length = rd_T31 L ((l0.length - 1 : Nat) : Int) := by unfold prv; rw [if_neg (by omega)]
      rw [hp] at g1 g2
      rw [if_pos (by omega), w2.out, rd31_app L ca (l0.length - 1) (by omega), if_pos (by omega), if_pos (by omega), if_pos (by omega), if_pos (by omega), g1, Option.bind_some, if_pos (by omega), g2, Option.bind_some]
      exact congrArg some f3
    · have h0 : l0.length = 0 := by omega
      have hp : prv L l0.length = z31 := by unfold prv; rw [if_pos h0]
      rw [hp] at g1 g2
      have g3 : change_Encode.f 300 0 0 false 0 0 0 0 0 ca.f0 ca.f1 ca.f2 ca.f3.f0.f0 ca.f3.f0.f1 ca.f3.f1 ca.f3.f2 ca.f3.f3 = some pa := g1
      have g4 : change_Encode.f 300 0 0 false 0 0 0 0 0 cb.f0 cb.f1 cb.f2 cb.f3.f0.f0 cb.f3.f0.f1 cb.f3.f1 cb.f3.f2 cb.f3.f3 = some pb := g2
      rw [if_neg (by omega), if_pos (by omega), if_pos (by omega), g3, Option.bind_some, if_pos (by omega), g4, Option.bind_some]
      exact congrArg some f3
  · refine ⟨41, ?_⟩
    unfold gl_ChangeApart.f
    rw [awake07 _ (by omega), Option.bind_some, if_pos rfl, decide_eq_true (by omega), gl_ChangeApart.j0, if_pos rfl, awake07 _ (by omega), Option.bind_some]

end Go.Proofs.Ytllcighpfikpkaa.Pure
