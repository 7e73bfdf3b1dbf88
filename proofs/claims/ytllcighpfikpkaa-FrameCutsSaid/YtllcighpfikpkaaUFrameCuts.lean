/- of frames that are cut anywhere those ahead of it are told; where the cut leaves a part of one, that one is too short.
For every input; no condition is added to the given statement. -/
import Derived.Test.YtllcighpfikpkaaQFrameCutsx5
import Derived.Laws.BitsAllLaws
import Derived.OpenShut
import Derived.Lib.Bytes
namespace Go.Proofs.Ytllcighpfikpkaa.Pure
open Go.RowKit Go.Proofs.Ytllcighpfikpkaa.QFrameCuts Go.Proofs.YtllcighpfikpkaaW.PrintWords Go.Proofs.YtllcighpfikpkaaW.PrintLast Go.Proofs.YtllcighpfikpkaaW.PrintMore
set_option linter.unusedSimpArgs false
set_option linter.unusedVariables false


/-! ## how many bits a number has -/
abbrev T8 : ByteArray := (⟨#[0, 1, 2, 2, 3, 3, 3, 3, 4, 4, 4, 4, 4, 4, 4, 4, 5, 5, 5, 5, 5, 5, 5, 5, 5, 5, 5, 5, 5, 5, 5, 5, 6, 6, 6, 6, 6, 6, 6, 6, 6, 6, 6, 6, 6, 6, 6, 6, 6, 6, 6, 6, 6, 6, 6, 6, 6, 6, 6, 6, 6, 6, 6, 6, 7, 7, 7, 7, 7, 7, 7, 7, 7, 7, 7, 7, 7, 7, 7, 7, 7, 7, 7, 7, 7, 7, 7, 7, 7, 7, 7, 7, 7, 7, 7, 7, 7, 7, 7, 7, 7, 7, 7, 7, 7, 7, 7, 7, 7, 7, 7, 7, 7, 7, 7, 7, 7, 7, 7, 7, 7, 7, 7, 7, 7, 7, 7, 7, 8, 8, 8, 8, 8, 8, 8, 8, 8, 8, 8, 8, 8, 8, 8, 8, 8, 8, 8, 8, 8, 8, 8, 8, 8, 8, 8, 8, 8, 8, 8, 8, 8, 8, 8, 8, 8, 8, 8, 8, 8, 8, 8, 8, 8, 8, 8, 8, 8, 8, 8, 8, 8, 8, 8, 8, 8, 8, 8, 8, 8, 8, 8, 8, 8, 8, 8, 8, 8, 8, 8, 8, 8, 8, 8, 8, 8, 8, 8, 8, 8, 8, 8, 8, 8, 8, 8, 8, 8, 8, 8, 8, 8, 8, 8, 8, 8, 8, 8, 8, 8, 8, 8, 8, 8, 8, 8, 8, 8, 8, 8, 8, 8, 8, 8, 8, 8, 8, 8, 8, 8, 8, 8, 8, 8, 8, 8, 8]⟩ : ByteArray)
theorem t8_all : ((List.range 256).all fun i => (List.range 9).all fun j => (decide (i < 2 ^ j)) == decide (bt T8 (i : Int) ≤ (j : Int))) = true := by decide +kernel
theorem t8_bd : ((List.range 256).all fun i => decide (0 ≤ bt T8 (i : Int) ∧ bt T8 (i : Int) ≤ 8)) = true := by decide +kernel
theorem t8 (i : Nat) (h : i < 256) : ∃ L : Nat, bt T8 (i : Int) = (L : Int) ∧ L ≤ 8 ∧ ∀ j, j ≤ 8 → (i < 2 ^ j ↔ L ≤ j) := by
  have h1 : ((List.range 9).all fun j => (decide (i < 2 ^ j)) == decide (bt T8 (i : Int) ≤ (j : Int))) = true := List.all_eq_true.1 t8_all i (List.mem_range.2 h)
  have h2 : 0 ≤ bt T8 (i : Int) ∧ bt T8 (i : Int) ≤ 8 := of_decide_eq_true (List.all_eq_true.1 t8_bd i (List.mem_range.2 h))
  refine ⟨(bt T8 (i : Int)).toNat, by omega, by omega, fun j hj => ?_⟩
  have h3 : ((decide (i < 2 ^ j)) == decide (bt T8 (i : Int) ≤ (j : Int))) = true := List.all_eq_true.1 h1 j (List.mem_range.2 (by omega))
  rw [beq_iff_eq, decide_eq_decide] at h3
  omega
theorem up (c B w n L : Nat) (hB : 2 ^ c = B) (hc : B ≤ n) (h : ∀ j, j ≤ w → (n / B < 2 ^ j ↔ L ≤ j)) : ∀ j, j ≤ w + c → (n < 2 ^ j ↔ L + c ≤ j) := by
  intro j hj
  subst hB
  by_cases hcj : c ≤ j
  · obtain ⟨d, rfl⟩ : ∃ d, j = d + c := ⟨j - c, by omega⟩
    have := h d (by omega)
    rw [Nat.div_lt_iff_lt_mul (Nat.two_pow_pos c), ← Nat.pow_add] at this
    omega
  · have : 2 ^ j ≤ 2 ^ c := Nat.pow_le_pow_right (by omega) (by omega)
    omega
theorem wide (w n L : Nat) (hn : n < 2 ^ w) (hL : L ≤ w) (h : ∀ j, j ≤ w → (n < 2 ^ j ↔ L ≤ j)) : ∀ j, (n < 2 ^ j ↔ L ≤ j) := by
  intro j
  by_cases hj : j ≤ w
  · exact h j hj
  · have : 2 ^ w ≤ 2 ^ j := Nat.pow_le_pow_right (by omega) (by omega)
    omega
theorem len_low (k n : Nat) (c : Int) (hc : 0 ≤ c ∧ c ≤ 32) (hn : n < 4294967296) : ∃ L : Nat, bits_Len64.j0 (k + 1) (n : Int) c = some (c + L) ∧ L ≤ 32 ∧ ∀ j, (n < 2 ^ j ↔ L ≤ j) := by
  rw [bits_Len64.j0]
  by_cases a : n ≥ 65536
  · rw [if_pos (by omega)]
    by_cases b : n / 65536 ≥ 256
    · obtain ⟨L, hL, h8, hj⟩ := t8 (n / 65536 / 256) (by omega)
      have e : ((n : Int) / 65536 / 256) % 256 = ((n / 65536 / 256 : Nat) : Int) := by omega
      rw [if_pos (by omega), if_pos (by omega), if_pos (by omega), e, hL]
      refine ⟨L + 8 + 16, ?_, by omega, wide 32 n _ (by omega) (by omega) (up 16 65536 16 n (L + 8) rfl (by omega) (up 8 256 8 (n / 65536) L rfl (by omega) hj))⟩
      refine congrArg some ?_
      unfold wrap64
      omega
    · obtain ⟨L, hL, h8, hj⟩ := t8 (n / 65536) (by omega)
      have e : ((n : Int) / 65536) % 256 = ((n / 65536 : Nat) : Int) := by omega
      rw [if_neg (by omega), if_pos (by omega), if_pos (by omega), e, hL]
      refine ⟨L + 16, ?_, by omega, wide 24 n _ (by omega) (by omega) (up 16 65536 8 n L rfl (by omega) hj)⟩
      refine congrArg some ?_
      unfold wrap64
      omega
  · rw [if_neg (by omega)]
    by_cases b : n ≥ 256
    · obtain ⟨L, hL, h8, hj⟩ := t8 (n / 256) (by omega)
      have e : ((n : Int) / 256) % 256 = ((n / 256 : Nat) : Int) := by omega
      rw [if_pos (by omega), if_pos (by omega), if_pos (by omega), e, hL]
      refine ⟨L + 8, ?_, by omega, wide 16 n _ (by omega) (by omega) (up 8 256 8 n L rfl (by omega) hj)⟩
      refine congrArg some ?_
      unfold wrap64
      omega
    · obtain ⟨L, hL, h8, hj⟩ := t8 n (by omega)
      have e : (n : Int) % 256 = (n : Int) := by omega
      rw [if_neg (by omega), if_pos (by omega), if_pos (by omega), e, hL]
      refine ⟨L, ?_, by omega, wide 8 n _ (by omega) (by omega) hj⟩
      refine congrArg some ?_
      unfold wrap64
      omega
theorem len_is (k n : Nat) (hn : n < 18446744073709551616) : ∃ L : Nat, bits_Len64.f (k + 1) (n : Int) = some (L : Int) ∧ L ≤ 64 ∧ ∀ j, (n < 2 ^ j ↔ L ≤ j) := by
  unfold bits_Len64.f
  by_cases a : n ≥ 4294967296
  · obtain ⟨L, hL, h32, hj⟩ := len_low k (n / 4294967296) 32 (by omega) (by omega)
    have e : (n : Int) / 4294967296 = ((n / 4294967296 : Nat) : Int) := by omega
    rw [if_pos (by omega), e, hL]
    refine ⟨L + 32, ?_, by omega, wide 64 n _ (by omega) (by omega) (up 32 4294967296 32 n L rfl (by omega) (fun j _ => hj j))⟩
    refine congrArg some ?_
    omega
  · obtain ⟨L, hL, h32, hj⟩ := len_low k n 0 (by omega) (by omega)
    rw [if_neg (by omega), hL]
    exact ⟨L, congrArg some (by omega), by omega, hj⟩

/-! ## how many bytes it takes -/
theorem size_is (k n : Nat) (hn : n < 18446744073709551616) : ∃ s : Nat, coin_Size.f (k + 1) (n : Int) = some (s : Int) ∧ 1 ≤ s ∧ s ≤ 9 ∧ ∀ i, 1 ≤ i → i ≤ 8 → (s ≤ i ↔ n < 2 ^ (7 * i)) := by
  obtain ⟨L, hL, h64, hj⟩ := len_is k n hn
  refine ⟨max 1 (min 9 ((L + 6) / 7)), ?_, by omega, by omega, fun i h1 h8 => ?_⟩
  · unfold coin_Size.f
    rw [hL, Option.bind_some]
    refine congrArg some ?_
    have e : wrap64 (Int.tdiv (wrap64 ((L : Int) + 6)) 7) = (((L + 6) / 7 : Nat) : Int) := by
      have : wrap64 ((L : Int) + 6) = ((L + 6 : Nat) : Int) := by unfold wrap64; omega
      rw [this, Int.tdiv_eq_ediv_of_nonneg (by omega)]
      unfold wrap64
      omega
    rw [e]
    unfold mx mn
    (repeat' split) <;> omega
  · rw [hj]
    omega

/-! ## a number as bytes -/
def tl (n : Nat) : Nat → List Int
  | 0 => []
  | i + 1 => ((n / 256 ^ i % 256 : Nat) : Int) :: tl n i
def hd1 (s n : Nat) : Int := if s = 9 then 255 else ((256 - 2 ^ (9 - s) + n / 256 ^ (s - 1) : Nat) : Int)
def cb (s n : Nat) : List Int := hd1 s n :: tl n (s - 1)
/-- how many bytes n takes -/
def Takes (s n : Nat) : Prop := 1 ≤ s ∧ s ≤ 9 ∧ ∀ i, 1 ≤ i → i ≤ 8 → (s ≤ i ↔ n < 2 ^ (7 * i))
theorem tl_length (n : Nat) : ∀ i, (tl n i).length = i
  | 0 => rfl
  | i + 1 => by simp [tl, tl_length n i]
theorem shr_is (n i : Nat) (hi : i ≤ 8) : (shr .u64 (n : Int) ((8 * i : Nat) : Int)) % 256 = ((n / 256 ^ i % 256 : Nat) : Int) := by
  unfold shr
  have e : min ((8 * i : Nat) : Int).toNat IntKind.u64.bits = 8 * i := by
    have : IntKind.u64.bits = 64 := rfl
    omega
  have e2 : (2 : Int) ^ (8 * i) = ((256 ^ i : Nat) : Int) := by
    rw [show (256 : Nat) = 2 ^ 8 from rfl, ← Nat.pow_mul]
    simp
  rw [e, e2]
  omega
theorem put_loop (n : Nat) : ∀ i : Nat, i ≤ 8 → ∀ (k : Nat) (acc : List Int), i < k → acc.length + i < 140737488355328 → coin_Put.l0 k acc (n : Int) ((i : Int) - 1) = some (acc ++ tl n i) := by
  intro i
  induction i with
  | zero =>
    intro _ k acc hk _
    obtain ⟨k, rfl⟩ : ∃ m, k = m + 1 := ⟨k - 1, by omega⟩
    rw [coin_Put.l0, if_neg (by omega), tl, List.append_nil]
  | succ i ih =>
    intro hi k acc hk hl
    obtain ⟨k, rfl⟩ : ∃ m, k = m + 1 := ⟨k - 1, by omega⟩
    have e1 : wrap64 (8 * (((i + 1 : Nat) : Int) - 1)) = ((8 * i : Nat) : Int) := by unfold wrap64; omega
    have e2 : wrap64 (((i + 1 : Nat) : Int) - 1 - 1) = (i : Int) - 1 := by unfold wrap64; omega
    rw [coin_Put.l0, if_pos (by omega), e1, e2, if_pos (by omega), if_pos (by omega), shr_is n i (by omega)]
    rw [ih (by omega) k (acc ++ [((n / 256 ^ i % 256 : Nat) : Int)]) (by omega) (by simp; omega), tl, List.append_assoc]
    rfl
theorem lead_all : ((List.range 8).all fun q => (List.range 128).all fun h => (!decide (h < 2 ^ (7 - q))) || decide (bits .or .u8 (shl .u8 255 ((8 - q : Nat) : Int)) (h : Int) = ((256 - 2 ^ (8 - q) + h : Nat) : Int))) = true := by decide +kernel
theorem lead_is (q h : Nat) (hq : q < 8) (hh : h < 2 ^ (7 - q)) : bits .or .u8 (shl .u8 255 ((8 - q : Nat) : Int)) (h : Int) = ((256 - 2 ^ (8 - q) + h : Nat) : Int) := by
  have h7 : 2 ^ (7 - q) ≤ 2 ^ 7 := Nat.pow_le_pow_right (by omega) (by omega)
  have h1 : ((List.range 128).all fun h => (!decide (h < 2 ^ (7 - q))) || decide (bits .or .u8 (shl .u8 255 ((8 - q : Nat) : Int)) (h : Int) = ((256 - 2 ^ (8 - q) + h : Nat) : Int))) = true := List.all_eq_true.1 lead_all q (List.mem_range.2 hq)
  have h2 : ((!decide (h < 2 ^ (7 - q))) || decide (bits .or .u8 (shl .u8 255 ((8 - q : Nat) : Int)) (h : Int) = ((256 - 2 ^ (8 - q) + h : Nat) : Int))) = true := List.all_eq_true.1 h1 h (List.mem_range.2 (by omega))
  rw [decide_eq_true hh, Bool.not_true, Bool.false_or] at h2
  exact of_decide_eq_true h2
theorem high_small (s n : Nat) (h1 : 1 ≤ s) (h8 : s ≤ 8) (hn : n < 2 ^ (7 * s)) : n / 256 ^ (s - 1) < 2 ^ (8 - s) := by
  apply Nat.div_lt_of_lt_mul
  rw [show (256 : Nat) = 2 ^ 8 from rfl, ← Nat.pow_mul, ← Nat.pow_add]
  rwa [show 8 * (s - 1) + (8 - s) = 7 * s by omega]
theorem put_of (k s n : Nat) (p : List Int) (hs : Takes s n) (hz : coin_Size.f (k + 11) (n : Int) = some (s : Int)) (hp : p.length + 9 < 140737488355328) : coin_Put.f (k + 11) p (n : Int) = some (p ++ cb s n) := by
  obtain ⟨h1, h9, hs⟩ := hs
  have e3 : wrap64 ((s : Int) - 2) = ((s - 1 : Nat) : Int) - 1 := by unfold wrap64; omega
  unfold coin_Put.f
  rw [hz, Option.bind_some]
  by_cases h : s = 9
  · rw [if_pos (by omega), if_pos (by omega), coin_Put.j0, e3, put_loop n (s - 1) (by omega) _ _ (by omega) (by simp; omega), List.append_assoc]
    unfold cb hd1
    rw [if_pos h]
    rfl
  · have hn := (hs s h1 (by omega)).1 (Nat.le_refl _)
    have e1 : wrap64 (9 - (s : Int)) = ((8 - (s - 1) : Nat) : Int) := by unfold wrap64; omega
    have e2 : wrap64 (8 * (wrap64 ((s : Int) - 1))) = ((8 * (s - 1) : Nat) : Int) := by unfold wrap64; omega
    have hh := high_small s n h1 (by omega) hn
    have hb : n / 256 ^ (s - 1) < 2 ^ (7 - (s - 1)) := by rwa [show 7 - (s - 1) = 8 - s by omega]
    have h7 : 2 ^ (7 - (s - 1)) ≤ 2 ^ 7 := Nat.pow_le_pow_right (by omega) (by omega)
    rw [if_neg (by omega), e1, e2, if_pos (by omega), if_pos (by omega), if_pos (by omega), shr_is n (s - 1) (by omega), Nat.mod_eq_of_lt (by omega), lead_is (s - 1) _ (by omega) hb, coin_Put.j0, e3, put_loop n (s - 1) (by omega) _ _ (by omega) (by simp; omega), List.append_assoc]
    unfold cb hd1
    rw [if_neg h, show 8 - (s - 1) = 9 - s by omega]
    rfl
theorem put_is (k n : Nat) (hn : n < 18446744073709551616) : ∃ s, Takes s n ∧ coin_Size.f (k + 11) (n : Int) = some (s : Int) ∧ ∀ p : List Int, p.length + 9 < 140737488355328 → coin_Put.f (k + 11) p (n : Int) = some (p ++ cb s n) := by
  obtain ⟨s, hz, h1, h9, hs⟩ := size_is (k + 10) n hn
  exact ⟨s, ⟨h1, h9, hs⟩, hz, fun p hp => put_of k s n p ⟨h1, h9, hs⟩ hz hp⟩

/-! ## the order of bytes -/
def ltL : List Int → List Int → Bool
  | _, [] => false
  | [], _ :: _ => true
  | a :: x, b :: y => decide (a < b) || (decide (a = b) && ltL x y)
def isBytes (l : List Int) : Prop := ∀ x ∈ l, 0 ≤ x ∧ x < 256
theorem byte_lt (a b : Int) (ha : 0 ≤ a ∧ a < 256) (hb : 0 ≤ b ∧ b < 256) : (UInt8.ofNat a.toNat < UInt8.ofNat b.toNat) ↔ a < b := by
  rw [UInt8.lt_iff_toNat_lt, UInt8.toNat_ofNat', UInt8.toNat_ofNat', Nat.mod_eq_of_lt (by omega), Nat.mod_eq_of_lt (by omega)]
  omega
theorem byte_eq (a b : Int) (ha : 0 ≤ a ∧ a < 256) (hb : 0 ≤ b ∧ b < 256) : (UInt8.ofNat a.toNat = UInt8.ofNat b.toNat) ↔ a = b := by
  rw [← UInt8.toNat_inj, UInt8.toNat_ofNat', UInt8.toNat_ofNat', Nat.mod_eq_of_lt (by omega), Nat.mod_eq_of_lt (by omega)]
  omega
theorem less_is : ∀ (x y : List Int), isBytes x → isBytes y → Op.bytesLess (x.map fun n => UInt8.ofNat n.toNat) (y.map fun n => UInt8.ofNat n.toNat) = ltL x y
  | x, [], _, _ => by cases x <;> rfl
  | [], _ :: _, _, _ => rfl
  | a :: x, b :: y, hx, hy => by
    have ih := less_is x y (fun z hz => hx z (List.mem_cons_of_mem _ hz)) (fun z hz => hy z (List.mem_cons_of_mem _ hz))
    have ha := hx a List.mem_cons_self
    have hb := hy b List.mem_cons_self
    simp only [List.map_cons, Op.bytesLess, ltL]
    rw [ih]
    congr 1
    · rw [decide_eq_decide]; exact byte_lt a b ha hb
    · congr 1
      rw [Bool.eq_iff_iff, beq_iff_eq, decide_eq_true_iff]; exact byte_eq a b ha hb
theorem same_is : ∀ (x y : List Int), isBytes x → isBytes y → ((x.map fun n => UInt8.ofNat n.toNat) = (y.map fun n => UInt8.ofNat n.toNat) ↔ x = y)
  | [], [], _, _ => by simp
  | [], _ :: _, _, _ => by simp
  | _ :: _, [], _, _ => by simp
  | a :: x, b :: y, hx, hy => by
    have ih := same_is x y (fun z hz => hx z (List.mem_cons_of_mem _ hz)) (fun z hz => hy z (List.mem_cons_of_mem _ hz))
    rw [List.map_cons, List.map_cons, List.cons.injEq, List.cons.injEq, ih, byte_eq a b (hx a List.mem_cons_self) (hy b List.mem_cons_self)]
theorem tl_bytes (n : Nat) : ∀ i, isBytes (tl n i)
  | 0 => by intro x hx; simp [tl] at hx
  | i + 1 => by
    intro x hx
    rw [tl, List.mem_cons] at hx
    rcases hx with rfl | hx
    · omega
    · exact tl_bytes n i x hx
theorem hd1_bytes (s n : Nat) (h : Takes s n) : 0 ≤ hd1 s n ∧ hd1 s n < 256 := by
  obtain ⟨h1, h9, hs⟩ := h
  unfold hd1
  by_cases h : s = 9
  · rw [if_pos h]; omega
  · rw [if_neg h]
    have hh := high_small s n h1 (by omega) ((hs s h1 (by omega)).1 (Nat.le_refl _))
    have e : 2 ^ (9 - s) = 2 * 2 ^ (8 - s) := by rw [show 9 - s = (8 - s) + 1 by omega, Nat.pow_succ]; omega
    have h8 : 2 ^ (8 - s) ≤ 2 ^ 7 := Nat.pow_le_pow_right (by omega) (by omega)
    generalize n / 256 ^ (s - 1) = q at hh ⊢
    omega
theorem cb_bytes (s n : Nat) (h : Takes s n) : isBytes (cb s n) := by
  intro x hx
  rw [cb, List.mem_cons] at hx
  rcases hx with rfl | hx
  · exact hd1_bytes s n h
  · exact tl_bytes n _ x hx
theorem lex_nat (X a b : Nat) (hX : 0 < X) : (a < b) ↔ (a / X < b / X ∨ a / X = b / X ∧ a % X < b % X) := by
  have ha := Nat.div_add_mod a X
  have hb := Nat.div_add_mod b X
  have ra := Nat.mod_lt a hX
  have rb := Nat.mod_lt b hX
  constructor
  · intro h
    by_cases e : a / X < b / X
    · exact .inl e
    · have e1 : b / X ≤ a / X := by omega
      have e2 : a / X ≤ b / X := Nat.div_le_div_right (by omega)
      have e3 : a / X = b / X := by omega
      refine .inr ⟨e3, ?_⟩
      rw [e3] at ha
      omega
  · rintro (h | ⟨h, h2⟩)
    · have : X * (a / X) + X ≤ X * (b / X) := by
        have := Nat.mul_le_mul_left X h
        rw [Nat.mul_succ] at this
        exact this
      omega
    · rw [h] at ha
      omega
theorem tl_lt (a b : Nat) : ∀ i, ltL (tl a i) (tl b i) = decide (a % 256 ^ i < b % 256 ^ i)
  | 0 => by simp [tl, ltL, Nat.mod_one]
  | i + 1 => by
    rw [tl, tl, ltL, tl_lt a b i]
    have hX : 0 < 256 ^ i := Nat.pow_pos (by omega)
    have h := lex_nat (256 ^ i) (a % 256 ^ (i + 1)) (b % 256 ^ (i + 1)) hX
    have d : ∀ n : Nat, n % 256 ^ (i + 1) / 256 ^ i = n / 256 ^ i % 256 := by
      intro n
      rw [Nat.pow_succ, Nat.mod_mul_right_div_self]
    have m : ∀ n : Nat, n % 256 ^ (i + 1) % 256 ^ i = n % 256 ^ i := by
      intro n
      rw [Nat.pow_succ, Nat.mod_mul_right_mod]
    rw [d, d, m, m] at h
    rw [← Bool.decide_and, ← Bool.decide_or, decide_eq_decide, h]
    omega
theorem cb_lt (s t a b : Nat) (hs : Takes s a) (ht : Takes t b) (ha : a < 18446744073709551616) (hb : b < 18446744073709551616) : ltL (cb s a) (cb t b) = decide (a < b) := by
  have far : ∀ (s t a b : Nat), Takes s a → Takes t b → s < t → a < b ∧ hd1 s a < hd1 t b := by
    intro s t a b hs ht hst
    obtain ⟨h1, h9, hs⟩ := hs
    obtain ⟨g1, g9, ht⟩ := ht
    have l1 := (hs s h1 (by omega)).1 (Nat.le_refl _)
    have l2 : ¬ b < 2 ^ (7 * s) := fun h => by have := (ht s h1 (by omega)).2 h; omega
    refine ⟨by omega, ?_⟩
    have hh := high_small s a h1 (by omega) l1
    have e : 2 ^ (9 - s) = 2 * 2 ^ (8 - s) := by rw [show 9 - s = (8 - s) + 1 by omega, Nat.pow_succ]; omega
    have p : 0 < 2 ^ (8 - s) := Nat.two_pow_pos _
    have h8 : 2 ^ (8 - s) ≤ 2 ^ 7 := Nat.pow_le_pow_right (by omega) (by omega)
    unfold hd1
    rw [if_neg (by omega)]
    by_cases h : t = 9
    · rw [if_pos h]; omega
    · rw [if_neg h]
      have : 2 ^ (9 - t) ≤ 2 ^ (8 - s) := Nat.pow_le_pow_right (by omega) (by omega)
      generalize a / 256 ^ (s - 1) = q at hh ⊢
      generalize b / 256 ^ (t - 1) = q2
      omega
  rcases Nat.lt_trichotomy s t with h | h | h
  · obtain ⟨h1, h2⟩ := far s t a b hs ht h
    rw [decide_eq_true h1]
    simp [cb, ltL, h2]
  · subst h
    rw [cb, cb, ltL, tl_lt]
    have hX : 0 < 256 ^ (s - 1) := Nat.pow_pos (by omega)
    have h := lex_nat (256 ^ (s - 1)) a b hX
    rw [← Bool.decide_and, ← Bool.decide_or, decide_eq_decide, h]
    unfold hd1
    by_cases h9 : s = 9
    · subst h9
      rw [if_pos rfl, if_pos rfl]
      have e : 256 ^ (9 - 1) = 18446744073709551616 := rfl
      rw [e, Nat.div_eq_of_lt ha, Nat.div_eq_of_lt hb]
      omega
    · rw [if_neg h9, if_neg h9]
      omega
  · obtain ⟨h1, h2⟩ := far t s b a ht hs h
    rw [decide_eq_false (by omega)]
    have : ¬ hd1 s a < hd1 t b := by omega
    have h3 : ¬ hd1 s a = hd1 t b := by omega
    simp [cb, ltL, this, h3]
theorem ltL_irrefl : ∀ x : List Int, ltL x x = false
  | [] => rfl
  | a :: x => by simp [ltL, ltL_irrefl x]
theorem cb_inj (s t a b : Nat) (hs : Takes s a) (ht : Takes t b) (ha : a < 18446744073709551616) (hb : b < 18446744073709551616) (h : cb s a = cb t b) : a = b := by
  have h1 := cb_lt s t a b hs ht ha hb
  have h2 := cb_lt t s b a ht hs hb ha
  rw [h, ltL_irrefl] at h1
  rw [h, ltL_irrefl] at h2
  have h1 := of_decide_eq_false h1.symm
  have h2 := of_decide_eq_false h2.symm
  omega
theorem takes_one (s t a : Nat) (hs : Takes s a) (ht : Takes t a) : s = t := by
  obtain ⟨h1, h9, hs⟩ := hs
  obtain ⟨g1, g9, ht⟩ := ht
  by_cases e : s ≤ 8
  · have := (ht s h1 e).2 ((hs s h1 e).1 (Nat.le_refl _))
    by_cases f : t ≤ 8
    · have := (hs t g1 f).2 ((ht t g1 f).1 (Nat.le_refl _))
      omega
    · omega
  · by_cases f : t ≤ 8
    · have := (hs t g1 f).2 ((ht t g1 f).1 (Nat.le_refl _))
      omega
    · omega

theorem str_list (x : List Int) : (strOfNums x).toList = x.map fun n => UInt8.ofNat n.toNat := by
  rw [Lib.strOfNums_toList]
  rfl
theorem wr64 (n : Int) : IntKind.u64.wrap n = n % 18446744073709551616 := by
  simp [IntKind.wrap, IntKind.signed, IntKind.bits]

/-! ## the number ahead of some bytes -/
def lzOk (b : Nat) : Bool :=
  match bits_LeadingZeros8.f (Go.bits .xor .u8 IntKind.u8.max (b : Int)) with
  | some t => decide (0 ≤ t ∧ t ≤ 8) && (decide (t = 8) || (decide (0 ≤ Go.bits .and .u8 (b : Int) (shr .u8 255 (t + 1))) && decide ((Go.bits .and .u8 (b : Int) (shr .u8 255 (t + 1))).toNat < 2 ^ (7 - t.toNat)) && decide (b = 256 - 2 ^ (8 - t.toNat) + (Go.bits .and .u8 (b : Int) (shr .u8 255 (t + 1))).toNat))) && (!decide (t = 8) || decide (b = 255))
  | none => false
theorem lz_all : ((List.range 256).all lzOk) = true := by decide +kernel
theorem lz_is (b : Nat) (hb : b < 256) : ∃ K : Nat, 1 ≤ K ∧ K ≤ 9 ∧ bits_LeadingZeros8.f (Go.bits .xor .u8 IntKind.u8.max (b : Int)) = some ((K : Int) - 1) ∧ (K = 9 → b = 255) ∧
    (K ≤ 8 → ∃ h : Nat, Go.bits .and .u8 (b : Int) (shr .u8 255 (K : Int)) = (h : Int) ∧ h < 2 ^ (8 - K) ∧ b = 256 - 2 ^ (9 - K) + h) := by
  have h : lzOk b = true := List.all_eq_true.1 lz_all b (List.mem_range.2 hb)
  unfold lzOk at h
  cases e : bits_LeadingZeros8.f (Go.bits .xor .u8 IntKind.u8.max (b : Int)) with
  | none => rw [e] at h; simp at h
  | some t =>
    rw [e] at h
    simp only [Bool.and_eq_true, Bool.or_eq_true, decide_eq_true_eq, Bool.not_eq_true', decide_eq_false_iff_not] at h
    obtain ⟨⟨⟨h0, h8⟩, h1⟩, h2⟩ := h
    refine ⟨(t + 1).toNat, by omega, by omega, by refine congrArg some ?_; omega, fun h => ?_, fun h => ?_⟩
    · rcases h2 with h2 | h2
      · omega
      · exact h2
    · rcases h1 with h1 | ⟨⟨h1, h3⟩, h4⟩
      · omega
      · have e1 : (((t + 1).toNat : Nat) : Int) = t + 1 := by omega
        rw [e1]
        refine ⟨(Go.bits .and .u8 (b : Int) (shr .u8 255 (t + 1))).toNat, by omega, ?_, ?_⟩
        · rwa [show 8 - (t + 1).toNat = 7 - t.toNat by omega]
        · rwa [show 9 - (t + 1).toNat = 8 - t.toNat by omega]
/-- bytes as one number, behind v -/
def foldv (v : Nat) : List Int → Nat
  | [] => v
  | b :: q => foldv (v * 256 + b.toNat) q
theorem foldv_lt : ∀ (q : List Int) (v m : Nat), isBytes q → v < m → foldv v q < m * 256 ^ q.length
  | [], v, m, _, h => by simpa [foldv] using h
  | b :: q, v, m, hq, h => by
    have hb := hq b List.mem_cons_self
    have := foldv_lt q (v * 256 + b.toNat) (m * 256) (fun z hz => hq z (List.mem_cons_of_mem _ hz)) (by omega)
    rw [foldv, List.length_cons, Nat.pow_succ]
    rwa [Nat.mul_assoc, Nat.mul_comm 256] at this
theorem foldv_tl (n : Nat) : ∀ m, foldv (n / 256 ^ m) (tl n m) = n
  | 0 => by simp [tl, foldv]
  | m + 1 => by
    rw [tl, foldv]
    have e : n / 256 ^ (m + 1) * 256 + ((n / 256 ^ m % 256 : Nat) : Int).toNat = n / 256 ^ m := by
      rw [Nat.pow_succ, ← Nat.div_div_eq_div_mul]
      omega
    rw [e, foldv_tl n m]
theorem tl_foldv : ∀ (q : List Int) (v : Nat), isBytes q → tl (foldv v q) q.length = q ∧ foldv v q / 256 ^ q.length = v
  | [], v, _ => by simp [tl, foldv]
  | b :: q, v, hq => by
    have hb := hq b List.mem_cons_self
    obtain ⟨h1, h2⟩ := tl_foldv q (v * 256 + b.toNat) (fun z hz => hq z (List.mem_cons_of_mem _ hz))
    rw [foldv, List.length_cons, tl, h1, h2, Nat.pow_succ, ← Nat.div_div_eq_div_mul, h2]
    refine ⟨?_, by omega⟩
    have : (((v * 256 + b.toNat) % 256 : Nat) : Int) = b := by omega
    rw [this]
theorem or_join (x : Nat) (b : Int) (hx : x < 72057594037927936) (h0 : 0 ≤ b) (h1 : b < 256) : Go.bits .or .u64 (IntKind.u64.wrap ((x : Int) * 256)) (IntKind.u64.wrap b) = ((x * 256 + b.toNat : Nat) : Int) := by
  have e1 : IntKind.u64.wrap ((x : Int) * 256) = ((x * 256 : Nat) : Int) := by
    rw [wr64]; omega
  have e2 : IntKind.u64.wrap b = ((b.toNat : Nat) : Int) := by
    rw [wr64]; omega
  rw [e1, e2, u64_or_nat _ _ (by omega) (by omega), nat_join 8 (x * 256) b.toNat (by omega) (by omega)]
theorem rd_drop (q : List Int) (i : Nat) (hi : i < q.length) : q.drop i = rd q i :: q.drop (i + 1) := by
  rw [List.drop_eq_getElem_cons hi]
  congr 1
  unfold rd
  simp [List.getD_eq_getElem?_getD, List.getElem?_eq_getElem hi]
theorem get_loop (q : List Int) (hq : isBytes q) (hl : q.length ≤ 8) (K : Int) (d : Nat) : ∀ (i v k : Nat), i + d = q.length → v < 256 ^ (8 - d) → d + 12 < k →
    ∃ s, Takes s (foldv v (q.drop i)) ∧ coin_Get.l0 k K (v : Int) q (q.length : Int) (i : Int) = if (s : Int) = K then some (((foldv v (q.drop i) : Nat) : Int), K, 0) else some (0, 0, 4) := by
  induction d with
  | zero =>
    intro i v k hi hv hk
    obtain ⟨k, rfl⟩ : ∃ m, k = m + 12 := ⟨k - 12, by omega⟩
    have e : q.drop i = [] := List.drop_eq_nil_of_le (by omega)
    obtain ⟨s, hs, hz, _⟩ := put_is k v (by have : 256 ^ (8 - 0) = 18446744073709551616 := rfl; omega)
    refine ⟨s, by rw [e]; exact hs, ?_⟩
    rw [coin_Get.l0, if_neg (by omega), hz, Option.bind_some, e]
    rfl
  | succ d ih =>
    intro i v k hi hv hk
    obtain ⟨k, rfl⟩ : ∃ m, k = m + 1 := ⟨k - 1, by omega⟩
    have hb := hq (rd q i) (by
      have := rd_drop q i (by omega)
      have h : rd q i ∈ q.drop i := by rw [this]; exact List.mem_cons_self
      exact List.mem_of_mem_drop h)
    have hp : 256 ^ (8 - (d + 1)) ≤ 256 ^ 7 := Nat.pow_le_pow_right (by omega) (by omega)
    have hp2 : 256 ^ 7 = 72057594037927936 := rfl
    have e1 : wrap64 ((i : Int) + 1) = ((i + 1 : Nat) : Int) := by unfold wrap64; omega
    have hv' : v * 256 + (rd q i).toNat < 256 ^ (8 - d) := by
      rw [show 8 - d = (8 - (d + 1)) + 1 by omega, Nat.pow_succ]
      omega
    obtain ⟨s, hs, h⟩ := ih (i + 1) (v * 256 + (rd q i).toNat) k (by omega) hv' (by omega)
    refine ⟨s, ?_, ?_⟩
    · rw [rd_drop q i (by omega), foldv]; exact hs
    · rw [coin_Get.l0, if_pos (by omega), if_pos (by omega), if_pos (by omega), or_join v _ (by omega) hb.1 hb.2, e1, h, rd_drop q i (by omega), foldv]
/-- what is ahead of bytes whose first one is b -/
theorem get_is (k : Nat) (b : Nat) (q : List Int) (hb : b < 256) (hq : isBytes q) (hl : q.length < 140737488355328) : ∃ K h : Nat, 1 ≤ K ∧ K ≤ 9 ∧ (K = 9 → b = 255 ∧ h = 0) ∧ (K ≤ 8 → h < 2 ^ (8 - K) ∧ b = 256 - 2 ^ (9 - K) + h) ∧
    ((q.length + 1 < K ∧ coin_Get.f (k + 25) ((b : Int) :: q) = some (0, 0, 5)) ∨
      (K ≤ q.length + 1 ∧ ∃ s, Takes s (foldv h (q.take (K - 1))) ∧ coin_Get.f (k + 25) ((b : Int) :: q) = if s = K then some (((foldv h (q.take (K - 1)) : Nat) : Int), (K : Int), 0) else some (0, 0, 4))) := by
  obtain ⟨K, h1, h9, hz, hk9, hk8⟩ := lz_is b hb
  have r0 : rd ((b : Int) :: q) 0 = (b : Int) := rfl
  have e1 : wrap64 ((K : Int) - 1 + 1) = (K : Int) := by unfold wrap64; omega
  have hlen : ((((b : Int) :: q).length : Nat) : Int) = ((q.length + 1 : Nat) : Int) := rfl
  have tail : ∀ h : Nat, h < 256 ^ (8 - (K - 1)) → K ≤ q.length + 1 → ∃ s, Takes s (foldv h (q.take (K - 1))) ∧ coin_Get.j0 (k + 25) ((b : Int) :: q) (K : Int) (h : Int) = if s = K then some (((foldv h (q.take (K - 1)) : Nat) : Int), (K : Int), 0) else some (0, 0, 4) := by
    intro h hh hK
    have ed : ((((b : Int) :: q).take ((K : Nat) : Int).toNat).drop 1) = q.take (K - 1) := by
      rw [Int.toNat_natCast]
      obtain ⟨K, rfl⟩ : ∃ m, K = m + 1 := ⟨K - 1, by omega⟩
      rfl
    have ll : (q.take (K - 1)).length = K - 1 := by rw [List.length_take]; omega
    obtain ⟨s, hs, h2⟩ := get_loop (q.take (K - 1)) (fun z hz => hq z (List.mem_of_mem_take hz)) (by omega) (K : Int) (K - 1) 0 h (k + 24) (by omega) hh (by omega)
    refine ⟨s, by simpa using hs, ?_⟩
    have h2' : coin_Get.l0 (k + 24) (K : Int) (h : Int) (q.take (K - 1)) ((q.take (K - 1)).length : Int) 0 = if (s : Int) = (K : Int) then some (((foldv h ((q.take (K - 1)).drop 0) : Nat) : Int), (K : Int), 0) else some (0, 0, 4) := h2
    rw [coin_Get.j0, if_pos (by omega), if_pos (by omega), ed, h2', List.drop_zero]
    by_cases e : s = K
    · rw [if_pos (by omega), if_pos e]
    · rw [if_neg (by omega), if_neg e]
  by_cases h8 : K ≤ 8
  · obtain ⟨h, he, hh, hbe⟩ := hk8 h8
    refine ⟨K, h, h1, h9, fun e => by omega, fun _ => ⟨hh, hbe⟩, ?_⟩
    by_cases hK : q.length + 1 < K
    · refine .inl ⟨hK, ?_⟩
      unfold coin_Get.f
      rw [if_neg (by omega), if_pos (by omega), r0, hz, Option.bind_some, e1, if_pos (by omega)]
    · refine .inr ⟨by omega, ?_⟩
      have hh2 : h < 256 ^ (8 - (K - 1)) := by
        have a : 2 ^ (8 - K) ≤ 2 ^ (8 * (8 - (K - 1))) := Nat.pow_le_pow_right (by omega) (by omega)
        rw [show (256 : Nat) = 2 ^ 8 from rfl, ← Nat.pow_mul]
        omega
      have hh3 : 2 ^ (8 - K) ≤ 2 ^ 8 := Nat.pow_le_pow_right (by omega) (by omega)
      obtain ⟨s, hs, h2⟩ := tail h hh2 (by omega)
      refine ⟨s, hs, ?_⟩
      unfold coin_Get.f
      rw [if_neg (by omega), if_pos (by omega), r0, hz, Option.bind_some, e1, if_neg (by omega), if_pos (by omega), if_pos (by omega), he, wr64, show ((h : Int) % 18446744073709551616) = (h : Int) by omega, h2]
  · have hK9 : K = 9 := by omega
    refine ⟨K, 0, h1, h9, fun e => ⟨hk9 e, rfl⟩, fun e => by omega, ?_⟩
    by_cases hK : q.length + 1 < K
    · refine .inl ⟨hK, ?_⟩
      unfold coin_Get.f
      rw [if_neg (by omega), if_pos (by omega), r0, hz, Option.bind_some, e1, if_pos (by omega)]
    · refine .inr ⟨by omega, ?_⟩
      obtain ⟨s, hs, h2⟩ := tail 0 (Nat.pow_pos (by omega)) (by omega)
      refine ⟨s, hs, ?_⟩
      unfold coin_Get.f
      rw [if_neg (by omega), if_pos (by omega), r0, hz, Option.bind_some, e1, if_neg (by omega), if_neg (by omega)]
      exact h2
/-- a number's bytes, and others behind them, tell the number -/
theorem get_put (k s n : Nat) (hs : Takes s n) (hn : n < 18446744073709551616) (rest : List Int) (hr : isBytes rest) (hl : rest.length < 1000000) : coin_Get.f (k + 25) (cb s n ++ rest) = some ((n : Int), (s : Int), 0) := by
  have hb := hd1_bytes s n hs
  obtain ⟨b, hbe⟩ := Int.eq_ofNat_of_zero_le hb.1
  have hbn : b < 256 := by omega
  have el : cb s n ++ rest = (b : Int) :: (tl n (s - 1) ++ rest) := by
    rw [cb, hbe]; rfl
  have hq : isBytes (tl n (s - 1) ++ rest) := by
    intro z hz
    rcases List.mem_append.1 hz with hz | hz
    · exact tl_bytes n _ z hz
    · exact hr z hz
  obtain ⟨h1, h9, hs'⟩ := hs
  obtain ⟨K, h, g1, g9, gk9, gk8, hg⟩ := get_is k b (tl n (s - 1) ++ rest) hbn hq (by rw [List.length_append, tl_length]; omega)
  have hKs : K = s ∧ h = n / 256 ^ (s - 1) := by
    unfold hd1 at hbe
    by_cases e9 : s = 9
    · rw [if_pos e9] at hbe
      have : K = 9 := by
        rcases Nat.lt_or_ge K 9 with hlt | hge
        · obtain ⟨a1, a2⟩ := gk8 (by omega)
          have : 2 ^ (9 - K) = 2 * 2 ^ (8 - K) := by rw [show 9 - K = (8 - K) + 1 by omega, Nat.pow_succ]; omega
          have : 2 ^ (8 - K) ≤ 2 ^ 7 := Nat.pow_le_pow_right (by omega) (by omega)
          omega
        · omega
      subst e9
      refine ⟨this, ?_⟩
      rw [(gk9 this).2, Nat.div_eq_of_lt]
      exact hn
    · rw [if_neg e9] at hbe
      have hh := high_small s n h1 (by omega) ((hs' s h1 (by omega)).1 (Nat.le_refl _))
      generalize n / 256 ^ (s - 1) = x at hbe hh ⊢
      have p1 : 2 ^ (9 - s) = 2 * 2 ^ (8 - s) := by rw [show 9 - s = (8 - s) + 1 by omega, Nat.pow_succ]; omega
      have p2 : 2 ^ (8 - s) ≤ 2 ^ 7 := Nat.pow_le_pow_right (by omega) (by omega)
      have p3 : 0 < 2 ^ (8 - s) := Nat.two_pow_pos _
      rcases Nat.lt_or_ge K 9 with hlt | hge
      · obtain ⟨a1, a2⟩ := gk8 (by omega)
        have q1 : 2 ^ (9 - K) = 2 * 2 ^ (8 - K) := by rw [show 9 - K = (8 - K) + 1 by omega, Nat.pow_succ]; omega
        have q2 : 2 ^ (8 - K) ≤ 2 ^ 7 := Nat.pow_le_pow_right (by omega) (by omega)
        rcases Nat.lt_trichotomy K s with h | h | h
        · have : 2 ^ (9 - s) ≤ 2 ^ (8 - K) := Nat.pow_le_pow_right (by omega) (by omega)
          omega
        · subst h
          omega
        · have : 2 ^ (9 - K) ≤ 2 ^ (8 - s) := Nat.pow_le_pow_right (by omega) (by omega)
          omega
      · have := (gk9 (by omega)).1
        omega
  obtain ⟨rfl, rfl⟩ := hKs
  have et : (tl n (K - 1) ++ rest).take (K - 1) = tl n (K - 1) := by
    rw [List.take_append_of_le_length (by rw [tl_length]; exact Nat.le_refl _), List.take_of_length_le (by rw [tl_length]; exact Nat.le_refl _)]
  rw [et, foldv_tl] at hg
  rw [el]
  rcases hg with ⟨hg, _⟩ | ⟨_, t, ht, hg⟩
  · rw [List.length_append, tl_length] at hg
    omega
  · rw [hg, if_pos (takes_one t K n ht ⟨h1, h9, hs'⟩)]

/-! ## the document's own bytes of a number -/
theorem refbits_loop (d : Nat) : ∀ (n k : Nat) (c : Nat), n < 2 ^ d → d < k → c + d ≤ 1000 → d ≤ 64 → ∃ L : Nat, milestoneref01_bits.l0 k (n : Int) (c : Int) = some ((c + L : Nat) : Int) ∧ L ≤ d ∧ ∀ j, (n < 2 ^ j ↔ L ≤ j) := by
  induction d with
  | zero =>
    intro n k c hn hk _ _
    obtain ⟨k, rfl⟩ : ∃ m, k = m + 1 := ⟨k - 1, by omega⟩
    have h0 : n = 0 := by omega
    subst h0
    refine ⟨0, ?_, by omega, fun j => ?_⟩
    · rw [milestoneref01_bits.l0, if_neg (by omega)]; rfl
    · have := Nat.two_pow_pos j
      omega
  | succ d ih =>
    intro n k c hn hk hc h64
    obtain ⟨k, rfl⟩ : ∃ m, k = m + 1 := ⟨k - 1, by omega⟩
    have hp : 2 ^ (d + 1) ≤ 2 ^ 64 := Nat.pow_le_pow_right (by omega) (by omega)
    by_cases h0 : n = 0
    · subst h0
      refine ⟨0, ?_, by omega, fun j => ?_⟩
      · rw [milestoneref01_bits.l0, if_neg (by omega)]; rfl
      · have := Nat.two_pow_pos j
        omega
    · obtain ⟨L, hL, hd, hj⟩ := ih (n / 2) k (c + 1) (by rw [Nat.pow_succ] at hn; omega) (by omega) (by omega) (by omega)
      have e1 : IntKind.u64.wrap (Int.tdiv (n : Int) 2) = ((n / 2 : Nat) : Int) := by
        rw [Int.tdiv_eq_ediv_of_nonneg (by omega), wr64]; omega
      have e2 : wrap64 ((c : Int) + 1) = ((c + 1 : Nat) : Int) := by unfold wrap64; omega
      refine ⟨L + 1, ?_, by omega, fun j => ?_⟩
      · rw [milestoneref01_bits.l0, if_pos (by omega), e1, e2, hL]
        refine congrArg some ?_
        omega
      · cases j with
        | zero => omega
        | succ j =>
          have := hj j
          rw [Nat.pow_succ]
          omega
theorem refbits_is (n k : Nat) (hn : n < 18446744073709551616) (hk : 64 < k) : ∃ L : Nat, milestoneref01_bits.f k (n : Int) = some (L : Int) ∧ L ≤ 64 ∧ ∀ j, (n < 2 ^ j ↔ L ≤ j) := by
  obtain ⟨L, hL, h⟩ := refbits_loop 64 n k 0 (by have : 2 ^ 64 = 18446744073709551616 := rfl; omega) hk (by omega) (by omega)
  refine ⟨L, ?_, h⟩
  unfold milestoneref01_bits.f
  rw [show (0 : Int) = ((0 : Nat) : Int) from rfl, hL]
  refine congrArg some ?_
  omega
theorem ref_up (s n : Nat) (hs : Takes s n) (hn : n < 18446744073709551616) (d : Nat) : ∀ (i k : Nat), 1 ≤ i → i + d = s → milestoneref01_Coin.l0 (k + 66 + d + 1) (n : Int) (i : Int) = milestoneref01_Coin.j1 (k + 66) (n : Int) (s : Int) := by
  obtain ⟨h1, h9, hs⟩ := hs
  induction d with
  | zero =>
    intro i k hi hd
    have e : i = s := by omega
    subst e
    rw [milestoneref01_Coin.l0]
    by_cases h : i < 9
    · obtain ⟨L, hL, hl, hj⟩ := refbits_is n (k + 66 + 0) hn (by omega)
      have e7 : wrap64 (7 * (i : Int)) = ((7 * i : Nat) : Int) := by unfold wrap64; omega
      have := (hj (7 * i)).1 ((hs i h1 (by omega)).1 (Nat.le_refl _))
      rw [if_pos (by omega), hL, Option.bind_some, e7, if_neg (by omega)]
    · rw [if_neg (by omega)]
  | succ d ih =>
    intro i k hi hd
    obtain ⟨L, hL, hl, hj⟩ := refbits_is n (k + 66 + (d + 1)) hn (by omega)
    have e7 : wrap64 (7 * (i : Int)) = ((7 * i : Nat) : Int) := by unfold wrap64; omega
    have e1 : wrap64 ((i : Int) + 1) = ((i + 1 : Nat) : Int) := by unfold wrap64; omega
    have h3 : ¬ n < 2 ^ (7 * i) := fun h => by have := (hs i hi (by omega)).2 h; omega
    have := hj (7 * i)
    rw [milestoneref01_Coin.l0, if_pos (by omega), hL, Option.bind_some, e7, if_pos (by omega), e1]
    exact ih (i + 1) k (by omega) (by omega)
theorem ref_nine (n : Nat) : ∀ i : Nat, i ≤ 8 → ∀ (k : Nat) (acc : List Int), i < k → acc.length + i < 140737488355328 → milestoneref01_Coin.l1 k (n : Int) acc ((i : Int) - 1) = some (acc ++ tl n i) := by
  intro i
  induction i with
  | zero =>
    intro _ k acc hk _
    obtain ⟨k, rfl⟩ : ∃ m, k = m + 1 := ⟨k - 1, by omega⟩
    rw [milestoneref01_Coin.l1, if_neg (by omega), tl, List.append_nil]
  | succ i ih =>
    intro hi k acc hk hl
    obtain ⟨k, rfl⟩ : ∃ m, k = m + 1 := ⟨k - 1, by omega⟩
    have e1 : wrap64 (8 * (((i + 1 : Nat) : Int) - 1)) = ((8 * i : Nat) : Int) := by unfold wrap64; omega
    have e2 : wrap64 (((i + 1 : Nat) : Int) - 1 - 1) = (i : Int) - 1 := by unfold wrap64; omega
    rw [milestoneref01_Coin.l1, if_pos (by omega), e1, e2, if_pos (by omega), if_pos (by omega), shr_is n i (by omega)]
    rw [ih (by omega) k (acc ++ [((n / 256 ^ i % 256 : Nat) : Int)]) (by omega) (by simp; omega), tl, List.append_assoc]
    rfl
theorem tl_last (n : Nat) : ∀ i, tl n (i + 1) = tl (n / 256) i ++ [((n % 256 : Nat) : Int)]
  | 0 => by simp [tl]
  | i + 1 => by
    rw [tl, tl_last n i, tl, Nat.div_div_eq_div_mul, Nat.pow_succ, Nat.mul_comm]
    rfl
theorem ref_fill (s : Nat) (hs : s ≤ 8) : ∀ (i m k : Nat) (out : List Int), i ≤ s → out.length = s → m < 18446744073709551616 → milestoneref01_Coin.l2 (k + i + 1) (m : Int) (s : Int) out ((i : Int) - 1) = milestoneref01_Coin.l3 k (s : Int) (tl m i ++ out.drop i) 128 1 := by
  intro i
  induction i with
  | zero =>
    intro m k out _ _ _
    rw [milestoneref01_Coin.l2, if_neg (by omega), tl, List.nil_append, List.drop_zero]
  | succ i ih =>
    intro m k out hi hl hm
    have e1 : IntKind.u64.wrap (Int.tdiv (m : Int) 256) = ((m / 256 : Nat) : Int) := by
      rw [Int.tdiv_eq_ediv_of_nonneg (by omega), wr64]; omega
    have e2 : wrap64 (((i + 1 : Nat) : Int) - 1 - 1) = (i : Int) - 1 := by unfold wrap64; omega
    have e3 : (Int.tmod (m : Int) 256) % 256 = ((m % 256 : Nat) : Int) := by
      rw [Int.tmod_eq_emod_of_nonneg (by omega)]; omega
    have e4 : (((i + 1 : Nat) : Int) - 1).toNat = i := by omega
    rw [show k + (i + 1) + 1 = (k + i + 1) + 1 by omega, milestoneref01_Coin.l2, if_pos (by omega), if_pos (by omega), if_pos (by omega), e1, e2, e3, e4, ih (m / 256) k _ (by omega) (by rw [List.length_set]; exact hl) (by omega), tl_last, List.append_assoc]
    congr 2
    rw [List.drop_eq_getElem_cons (by rw [List.length_set]; omega), List.getElem_set_self]
    have : (out.set i ((m % 256 : Nat) : Int)).drop (i + 1) = out.drop (i + 1) := by
      rw [List.drop_set_of_lt (by omega)]
    rw [this]
    rfl
theorem ref_lead (s : Nat) (hs : s ≤ 8) (rest : List Int) (d : Nat) : ∀ (j k h : Nat), 1 ≤ j → j + d = s → h + (2 ^ (9 - j) - 2 ^ (9 - s)) < 256 →
    milestoneref01_Coin.l3 (k + d + 1) (s : Int) ((h : Int) :: rest) ((2 ^ (8 - j) : Nat) : Int) (j : Int) = some (((h + (2 ^ (9 - j) - 2 ^ (9 - s)) : Nat) : Int) :: rest) := by
  induction d with
  | zero =>
    intro j k h hj hd hh
    have e : j = s := by omega
    subst e
    rw [milestoneref01_Coin.l3, if_neg (by omega), Nat.sub_self, Nat.add_zero]
  | succ d ih =>
    intro j k h hj hd hh
    have hjs : (j : Int) < (s : Int) := by omega
    have hkd : k + (d + 1) + 1 = (k + d + 1) + 1 := by omega
    have hjd : j + 1 + d = s := by omega
    have p1 : 2 ^ (9 - j) = 2 * 2 ^ (8 - j) := by rw [show 9 - j = (8 - j) + 1 by omega, Nat.pow_succ]; omega
    have p2 : 2 ^ (9 - s) ≤ 2 ^ (8 - j) := Nat.pow_le_pow_right (by omega) (by omega)
    have p3 : 2 ^ (8 - j) = 2 * 2 ^ (8 - (j + 1)) := by rw [show 8 - j = (8 - (j + 1)) + 1 by omega, Nat.pow_succ]; omega
    have p4 : 9 - (j + 1) = 8 - j := by omega
    have p5 : 2 ^ (8 - j) ≤ 2 ^ 8 := Nat.pow_le_pow_right (by omega) (by omega)
    have hb : h + 2 ^ (8 - j) < 256 := by
      clear ih
      omega
    have e3 : ((h : Int) + ((2 ^ (8 - j) : Nat) : Int)) % 256 = ((h + 2 ^ (8 - j) : Nat) : Int) := by
      clear ih hh p1 p2 p3 p5
      generalize 2 ^ (8 - j) = z at hb ⊢
      omega
    have e1 : wrap64 ((j : Int) + 1) = ((j + 1 : Nat) : Int) := by unfold wrap64; omega
    have e2 : wrap64 (Int.tdiv ((2 ^ (8 - j) : Nat) : Int) 2) = ((2 ^ (8 - (j + 1)) : Nat) : Int) := by
      rw [Int.tdiv_eq_ediv_of_nonneg (by omega)]
      unfold wrap64
      omega
    have r0 : rd ((h : Int) :: rest) 0 = (h : Int) := rfl
    have hl : (((((h : Int) :: rest).length : Nat)) : Int) = ((rest.length + 1 : Nat) : Int) := rfl
    have hl0 : (0 : Int) < (((((h : Int) :: rest).length : Nat)) : Int) := by rw [hl]; omega
    have hset : ((h : Int) :: rest).set (0 : Int).toNat ((h + 2 ^ (8 - j) : Nat) : Int) = ((h + 2 ^ (8 - j) : Nat) : Int) :: rest := rfl
    have hlast : h + 2 ^ (8 - j) + (2 ^ (8 - j) - 2 ^ (9 - s)) = h + (2 ^ (9 - j) - 2 ^ (9 - s)) := by
      clear ih e1 e2 e3 hset r0 hl hl0
      omega
    have hlt : h + 2 ^ (8 - j) + (2 ^ (9 - (j + 1)) - 2 ^ (9 - s)) < 256 := by
      rw [p4, hlast]; exact hh
    have key := ih (j + 1) k (h + 2 ^ (8 - j)) (Nat.le_add_left 1 j) hjd hlt
    rw [hkd, milestoneref01_Coin.l3, if_pos hjs, if_pos hl0, r0, e1, e2, e3, hset, key, p4, hlast]
theorem coin_is (k s n : Nat) (hs : Takes s n) (hn : n < 18446744073709551616) : milestoneref01_Coin.f (k + 90) (n : Int) = some (cb s n) := by
  obtain ⟨h1, h9, hs'⟩ := hs
  unfold milestoneref01_Coin.f
  rw [show k + 90 = (k + 23 - (s - 1)) + 66 + (s - 1) + 1 by omega, show (1 : Int) = ((1 : Nat) : Int) from rfl, ref_up s n ⟨h1, h9, hs'⟩ hn (s - 1) 1 _ (by omega) (by omega)]
  by_cases h : s = 9
  · rw [show k + 23 - (s - 1) + 66 = (k + 80) + 1 by omega, milestoneref01_Coin.j1, if_pos (by omega), show (7 : Int) = ((8 : Nat) : Int) - 1 from rfl, ref_nine n 8 (by omega) _ _ (by omega) (by simp)]
    unfold cb hd1
    rw [if_pos h, h]
    rfl
  · have hh := high_small s n h1 (by omega) ((hs' s h1 (by omega)).1 (Nat.le_refl _))
    have e1 : wrap64 ((s : Int) - 1) = (s : Int) - 1 := by unfold wrap64; omega
    have p1 : 2 ^ (9 - s) = 2 * 2 ^ (8 - s) := by rw [show 9 - s = (8 - s) + 1 by omega, Nat.pow_succ]; omega
    have p2 : 2 ^ (8 - s) ≤ 2 ^ 7 := Nat.pow_le_pow_right (by omega) (by omega)
    have p3 : 0 < 2 ^ (8 - s) := Nat.two_pow_pos _
    have et : tl n s = ((n / 256 ^ (s - 1) : Nat) : Int) :: tl n (s - 1) := by
      obtain ⟨s, rfl⟩ : ∃ m, s = m + 1 := ⟨s - 1, by omega⟩
      rw [tl, Nat.add_sub_cancel] at *
      rw [Nat.mod_eq_of_lt (by omega)]
    obtain ⟨K, hK⟩ : ∃ K, k + 23 - (s - 1) + 66 = (K + (s - 1) + 1) + s + 1 + 1 := ⟨k + 23 - (s - 1) + 66 - (2 * s + 2), by omega⟩
    rw [hK, milestoneref01_Coin.j1, if_neg (by omega), if_pos (by omega), if_pos (by omega), e1, Int.toNat_natCast, ref_fill s (by omega) s n _ _ (by omega) (by simp) hn, List.drop_eq_nil_of_le (by simp), List.append_nil, et]
    have := ref_lead s (by omega) (tl n (s - 1)) (s - 1) 1 K (n / 256 ^ (s - 1)) (by omega) (by omega) (by have : 2 ^ (9 - 1) = 256 := rfl; omega)
    rw [show ((2 ^ (8 - 1) : Nat) : Int) = 128 from rfl, show ((1 : Nat) : Int) = 1 from rfl] at this
    rw [this]
    unfold cb hd1
    rw [if_neg h]
    refine congrArg some (congrArg (· :: _) ?_)
    have : 2 ^ (9 - 1) = 256 := rfl
    omega

/-! ## the sum's own arithmetic, over natural numbers -/
def crcP : Nat := 2197175160
def crcS (x : Nat) : Nat := if x % 2 = 1 then x / 2 ^^^ crcP else x / 2
def crcI : Nat → Nat → Nat
  | 0, x => x
  | n + 1, x => crcI n (crcS x)
theorem crcS_xor (x y : Nat) : crcS (x ^^^ y) = crcS x ^^^ crcS y := by
  have hm : (x ^^^ y) % 2 = (x + y) % 2 := by
    have h : (x ^^^ y) % 2 ^ 1 = (x % 2 ^ 1) ^^^ (y % 2 ^ 1) := Nat.xor_mod_two_pow
    rw [Nat.pow_one] at h
    rw [h, Nat.add_mod]
    rcases Nat.mod_two_eq_zero_or_one x with a | a <;> rcases Nat.mod_two_eq_zero_or_one y with b | b <;> rw [a, b] <;> rfl
  have hd : (x ^^^ y) / 2 = x / 2 ^^^ y / 2 := Nat.xor_div_two
  unfold crcS
  rw [hm, hd]
  by_cases a : x % 2 = 1
  · by_cases b : y % 2 = 1
    · rw [if_neg (by omega), if_pos a, if_pos b]
      have e : x / 2 ^^^ crcP ^^^ (y / 2 ^^^ crcP) = x / 2 ^^^ y / 2 ^^^ (crcP ^^^ crcP) := by ac_rfl
      rw [e, Nat.xor_self, Nat.xor_zero]
    · rw [if_pos (by omega), if_pos a, if_neg b]
      ac_rfl
  · by_cases b : y % 2 = 1
    · rw [if_pos (by omega), if_neg a, if_pos b]
      ac_rfl
    · rw [if_neg (by omega), if_neg a, if_neg b]
theorem crcS_two (z : Nat) : crcS (2 * z) = z := by
  unfold crcS
  rw [if_neg (by omega)]
  omega
theorem crcS_lt (x : Nat) (h : x < 4294967296) : crcS x < 4294967296 := by
  unfold crcS
  split
  · exact Nat.xor_lt_two_pow (n := 32) (by omega) (by unfold crcP; omega)
  · omega
theorem crcI_xor : ∀ (n x y : Nat), crcI n (x ^^^ y) = crcI n x ^^^ crcI n y
  | 0, _, _ => rfl
  | n + 1, x, y => by rw [crcI, crcS_xor, crcI_xor n]; rfl
theorem crcI_lt : ∀ (n x : Nat), x < 4294967296 → crcI n x < 4294967296
  | 0, _, h => h
  | n + 1, x, h => crcI_lt n _ (crcS_lt x h)
theorem crcI_shift : ∀ (n z : Nat), crcI n (2 ^ n * z) = z
  | 0, z => by simp [crcI]
  | n + 1, z => by
    rw [crcI, Nat.pow_succ, Nat.mul_comm (2 ^ n) 2, Nat.mul_assoc, crcS_two, crcI_shift n z]
theorem xor_split (x : Nat) : x = 256 * (x / 256) ^^^ x % 256 := by
  apply Nat.eq_of_testBit_eq
  intro i
  have h := Nat.testBit_two_pow_mul_add (x / 256) (show x % 2 ^ 8 < 2 ^ 8 from Nat.mod_lt _ (by omega)) i
  have e : 2 ^ 8 * (x / 256) + x % 2 ^ 8 = x := by omega
  rw [e] at h
  rw [h, Nat.testBit_xor, show (256 : Nat) = 2 ^ 8 from rfl, Nat.testBit_two_pow_mul, Nat.testBit_mod_two_pow]
  by_cases hi : i < 8
  · simp [hi, Nat.not_le.2 hi]
  · simp [hi, Nat.not_lt.1 hi]
theorem crc_byte (x : Nat) : crcI 8 x = x / 256 ^^^ crcI 8 (x % 256) := by
  have h := congrArg (crcI 8) (xor_split x)
  rw [crcI_xor, show (256 : Nat) * (x / 256) = 2 ^ 8 * (x / 256) from rfl, crcI_shift] at h
  exact h

theorem crc_step (r b : Nat) (hb : b < 256) : crcI 8 (r ^^^ b) = r / 256 ^^^ crcI 8 (r % 256 ^^^ b) := by
  have h1 : (r ^^^ b) / 2 ^ 8 = r / 2 ^ 8 ^^^ b / 2 ^ 8 := Nat.xor_div_two_pow
  have h2 : (r ^^^ b) % 2 ^ 8 = r % 2 ^ 8 ^^^ b % 2 ^ 8 := Nat.xor_mod_two_pow
  have e : (2 : Nat) ^ 8 = 256 := rfl
  rw [e] at h1 h2
  rw [crc_byte, h1, h2, Nat.div_eq_of_lt hb, Nat.mod_eq_of_lt hb, Nat.xor_zero]
theorem line_loop (n : Nat) : ∀ (i x k : Nat), i + n = 8 → n < k → x < 4294967296 → tally_line.l0 k (x : Int) (i : Int) = some ((crcI n x : Nat) : Int) := by
  induction n with
  | zero =>
    intro i x k hi hk _
    obtain ⟨k, rfl⟩ : ∃ m, k = m + 1 := ⟨k - 1, by omega⟩
    rw [tally_line.l0, if_neg (by omega)]
    rfl
  | succ n ih =>
    intro i x k hi hk hx
    obtain ⟨k, rfl⟩ : ∃ m, k = m + 1 := ⟨k - 1, by omega⟩
    have e1 : wrap64 ((i : Int) + 1) = ((i + 1 : Nat) : Int) := by unfold wrap64; omega
    have e2 : Go.bits .and .u32 (x : Int) 1 = ((x % 2 : Nat) : Int) := by
      have := u32_and_nat x 1 hx (by omega)
      rw [Nat.and_one_is_mod] at this
      exact this
    have e3 : (x : Int) / 2 = ((x / 2 : Nat) : Int) := by omega
    have e4 : Go.bits .xor .u32 ((x / 2 : Nat) : Int) 2197175160 = ((x / 2 ^^^ crcP : Nat) : Int) := u32_xor_nat (x / 2) 2197175160 (by omega) (by omega)
    have hs := crcS_lt x hx
    rw [tally_line.l0, if_pos (by omega), e1, e2, e3, e4]
    by_cases h : x % 2 = 1
    · have e5 : crcS x = x / 2 ^^^ crcP := by unfold crcS; rw [if_pos h]
      rw [if_pos (by omega), crcI, e5]
      rw [e5] at hs
      exact ih (i + 1) _ k (by omega) (by omega) hs
    · have e5 : crcS x = x / 2 := by unfold crcS; rw [if_neg h]
      rw [if_neg (by omega), crcI, e5]
      rw [e5] at hs
      exact ih (i + 1) _ k (by omega) (by omega) hs
theorem line_is (k b : Nat) (hb : b < 256) : tally_line.f (k + 9) (b : Int) = some ((crcI 8 b : Nat) : Int) := by
  unfold tally_line.f
  have e : (b : Int) % 4294967296 = (b : Int) := by omega
  rw [e]
  exact line_loop 8 0 b (k + 9) (by omega) (by omega) (by omega)
/-- bytes fed to a register -/
def crcB (x : Nat) : Nat := crcI 8 x
def crcF (r : Nat) (q : List Int) : Nat := q.foldl (fun r b => crcB (r ^^^ b.toNat)) r
theorem crcF_nil (r : Nat) : crcF r [] = r := List.foldl_nil
theorem crcF_cons (r : Nat) (b : Int) (q : List Int) : crcF r (b :: q) = crcF (crcB (r ^^^ b.toNat)) q := List.foldl_cons ..
def crcM : Nat := 4294967295
theorem crcM_lt : crcM < 4294967296 := by unfold crcM; omega
def crcV (x : Nat) : Nat := crcM ^^^ x
theorem crcV_lt (x : Nat) (h : x < 4294967296) : crcV x < 4294967296 := by
  unfold crcV
  exact Nat.xor_lt_two_pow (n := 32) crcM_lt h
theorem crcV_bits (x : Nat) (h : x < 4294967296) : Go.bits .xor .u32 IntKind.u32.max (x : Int) = ((crcV x : Nat) : Int) := u32_xor_nat crcM x crcM_lt h
theorem xor_twice (m x : Nat) : m ^^^ (m ^^^ x) = x := by rw [← Nat.xor_assoc, Nat.xor_self, Nat.zero_xor]
theorem crcV_is (x : Nat) : crcV x = crcM ^^^ x := by rw [crcV]
theorem crcV_twice (x : Nat) : crcV (crcV x) = x := by rw [crcV_is, crcV_is, xor_twice]
theorem crcF_lt : ∀ (q : List Int) (r : Nat), isBytes q → r < 4294967296 → crcF r q < 4294967296
  | [], r, _, h => by rw [crcF_nil]; exact h
  | b :: q, r, hq, h => by
    have hb := hq b List.mem_cons_self
    rw [crcF_cons]
    exact crcF_lt q _ (fun z hz => hq z (List.mem_cons_of_mem _ hz)) (crcI_lt 8 _ (Nat.xor_lt_two_pow (n := 32) h (by omega)))
theorem crcF_append : ∀ (p q : List Int) (r : Nat), crcF r (p ++ q) = crcF (crcF r p) q
  | [], q, r => by rw [List.nil_append, crcF_nil]
  | b :: p, q, r => by rw [List.cons_append, crcF_cons, crcF_cons, crcF_append p q]
theorem rd_byte (q : List Int) (hq : isBytes q) (i : Nat) (hi : i < q.length) : 0 ≤ rd q i ∧ rd q i < 256 := by
  have := rd_drop q i hi
  have h : rd q i ∈ q.drop i := by rw [this]; exact List.mem_cons_self
  exact hq _ (List.mem_of_mem_drop h)
theorem more_loop (q : List Int) (hq : isBytes q) (hl : q.length < 1000000) (d : Nat) : ∀ (i r k : Nat), i + d = q.length → d + 10 < k → r < 4294967296 →
    tally_More.l0 k (r : Int) q (q.length : Int) (i : Int) = some ((crcV (crcF r (q.drop i)) : Nat) : Int) := by
  induction d with
  | zero =>
    intro i r k hi hk hr
    obtain ⟨k, rfl⟩ : ∃ m, k = m + 1 := ⟨k - 1, by omega⟩
    rw [tally_More.l0, if_neg (by omega), crcV_bits r hr, List.drop_eq_nil_of_le (by omega), crcF_nil]
  | succ d ih =>
    intro i r k hi hk hr
    obtain ⟨k, rfl⟩ : ∃ m, k = m + 9 + 1 := ⟨k - 10, by omega⟩
    have hb := rd_byte q hq i (by omega)
    obtain ⟨b, hbe⟩ := Int.eq_ofNat_of_zero_le hb.1
    have hbn : b < 256 := by omega
    have e1 : wrap64 ((i : Int) + 1) = ((i + 1 : Nat) : Int) := by unfold wrap64; omega
    have e2 : (r : Int) % 256 = ((r % 256 : Nat) : Int) := by omega
    have e3 : (r : Int) / 256 = ((r / 256 : Nat) : Int) := by omega
    have hx : r % 256 ^^^ b < 256 := Nat.xor_lt_two_pow (n := 8) (by omega) (by omega)
    have hc : crcI 8 (r % 256 ^^^ b) < 4294967296 := crcI_lt 8 _ (by omega)
    have hd : r / 256 < 4294967296 := by omega
    have hn : r / 256 ^^^ crcI 8 (r % 256 ^^^ b) < 4294967296 := Nat.xor_lt_two_pow (n := 32) hd hc
    have key := ih (i + 1) (r / 256 ^^^ crcI 8 (r % 256 ^^^ b)) (k + 9) (by omega) (by omega) hn
    have t1 : (i : Int) < (q.length : Int) := by omega
    have t2 : (0 : Int) ≤ (i : Int) := by omega
    have t3 : Go.bits .xor .u8 ((r : Int) % 256) (rd q i) = ((r % 256 ^^^ b : Nat) : Int) := by
      rw [e2, hbe]
      exact u8_xor_nat (r % 256) b (by omega) hbn
    have t4 : q.drop i = (b : Int) :: q.drop (i + 1) := by rw [rd_drop q i (by omega), hbe]
    have t5 := line_is k _ hx
    have t6 : Go.bits .xor .u32 ((r : Int) / 256) ((crcI 8 (r % 256 ^^^ b) : Nat) : Int) = ((r / 256 ^^^ crcI 8 (r % 256 ^^^ b) : Nat) : Int) := by
      rw [e3]
      exact u32_xor_nat _ _ hd hc
    clear ih e2 e3 hx hc hd
    rw [tally_More.l0, if_pos t1, if_pos t2, if_pos t1, t3, t5, Option.bind_some, t6, e1, key, t4, crcF_cons, Int.toNat_natCast, crcB, crc_step r b hbn]
theorem more_is (k s : Nat) (q : List Int) (hq : isBytes q) (hl : q.length < 1000000) (hk : q.length + 10 < k) (hs : s < 4294967296) : tally_More.f k (s : Int) q = some ((crcV (crcF (crcV s) q) : Nat) : Int) := by
  unfold tally_More.f
  rw [crcV_bits s hs]
  exact more_loop q hq hl q.length 0 _ k (by omega) hk (crcV_lt s hs)
theorem sum_is (k : Nat) (q : List Int) (hq : isBytes q) (hl : q.length < 1000000) (hk : q.length + 10 < k) : tally_Sum.f k q = some ((crcV (crcF crcM q) : Nat) : Int) := by
  unfold tally_Sum.f
  have h := more_is k 0 q hq hl hk (by omega)
  have e : crcV 0 = crcM := by unfold crcV; rw [Nat.xor_zero]
  rw [e] at h
  rw [show (0 : Int) = ((0 : Nat) : Int) from rfl, h, Option.bind_some]

theorem wr32 (n : Int) : IntKind.u32.wrap n = n % 4294967296 := by
  simp [IntKind.wrap, IntKind.signed, IntKind.bits]
theorem crcV_sub (x : Nat) (h : x < 4294967296) : ((crcV x : Nat) : Int) = 4294967295 - (x : Int) := by
  rw [← crcV_bits x h]
  show IntKind.u32.wrap ((BitVec.ofInt 32 4294967295 ^^^ BitVec.ofInt 32 (x : Int)).toNat : Int) = _
  have e : BitVec.ofInt 32 4294967295 = BitVec.allOnes 32 := by decide
  have e2 : (BitVec.ofInt 32 (x : Int)).toNat = x := by
    rw [BitVec.toNat_ofInt]
    omega
  rw [e, BitVec.xor_comm, BitVec.xor_allOnes, BitVec.toNat_not, e2, wr32]
  omega
theorem bit_split (c : Nat) : c = c % 2 ^^^ 2 * (c / 2) := by
  apply Nat.eq_of_testBit_eq
  intro i
  rw [Nat.testBit_xor]
  cases i with
  | zero => simp [Nat.testBit_zero]
  | succ i =>
    have h1 : (c % 2).testBit (i + 1) = false := by
      rw [Nat.testBit_succ, show c % 2 / 2 = 0 by omega, Nat.zero_testBit]
    rw [h1, Nat.testBit_succ, Nat.testBit_succ, show 2 * (c / 2) / 2 = c / 2 by omega]
    simp
theorem crcS_feed (r c : Nat) : crcS (r ^^^ c) = crcS (r ^^^ c % 2) ^^^ c / 2 := by
  have h : r ^^^ c = r ^^^ c % 2 ^^^ 2 * (c / 2) := by
    rw [Nat.xor_assoc, ← bit_split]
  rw [h, crcS_xor, crcS_two]
theorem crcS_bit (r o : Nat) (ho : o < 2) : crcS (r ^^^ o) = if r % 2 = o then r / 2 else r / 2 ^^^ crcP := by
  have hm : (r ^^^ o) % 2 = (r + o) % 2 := by
    have h : (r ^^^ o) % 2 ^ 1 = (r % 2 ^ 1) ^^^ (o % 2 ^ 1) := Nat.xor_mod_two_pow
    rw [Nat.pow_one] at h
    rw [h, Nat.add_mod]
    rcases Nat.mod_two_eq_zero_or_one r with a | a <;> rcases Nat.mod_two_eq_zero_or_one o with b | b <;> rw [a, b] <;> rfl
  have hd : (r ^^^ o) / 2 = r / 2 := by
    have : (r ^^^ o) / 2 = r / 2 ^^^ o / 2 := Nat.xor_div_two
    rw [this, show o / 2 = 0 by omega, Nat.xor_zero]
  unfold crcS
  rw [hm, hd]
  by_cases h : r % 2 = o
  · rw [if_neg (by omega), if_pos h]
  · rw [if_pos (by omega), if_neg h]
theorem shr8 (b j : Nat) (hj : j ≤ 8) : (shr .u8 (b : Int) (j : Int)) % 2 = ((b / 2 ^ j % 2 : Nat) : Int) := by
  unfold shr
  have e : min ((j : Nat) : Int).toNat IntKind.u8.bits = j := by
    have : IntKind.u8.bits = 8 := rfl
    omega
  rw [e, show ((2 : Int) ^ j) = ((2 ^ j : Nat) : Int) by simp]
  omega
theorem ref_bits (q : List Int) (hl : q.length < 1000000) (i b : Nat) (hi : i < q.length) (hb : rd q i = (b : Int)) (hbn : b < 256) (n : Nat) : ∀ (j r k : Nat), j + n = 8 → r < 4294967296 →
    milestoneref01_Sum.l0 (k + n) q (r : Int) ((8 * i + j : Nat) : Int) = milestoneref01_Sum.l0 k q ((crcI n (r ^^^ b / 2 ^ j) : Nat) : Int) ((8 * (i + 1) : Nat) : Int) := by
  induction n with
  | zero =>
    intro j r k hj hr
    have e : j = 8 := by omega
    subst e
    rw [show b / 2 ^ 8 = 0 from Nat.div_eq_of_lt hbn, Nat.xor_zero]
    rfl
  | succ n ih =>
    intro j r k hj hr
    have t1 : ((8 * i + j : Nat) : Int) < ((8 * q.length : Nat) : Int) := by omega
    have t2 : (i : Int) < (q.length : Int) := by omega
    have t3 : (0 : Int) ≤ (i : Int) := by omega
    have t4 : (0 : Int) ≤ (j : Int) := by omega
    have t5 : j + 1 + n = 8 := by omega
    have t6 : r / 2 < 4294967296 := by omega
    have t9 : j ≤ 8 := by omega
    have w1 : wrap64 (8 * (q.length : Int)) = ((8 * q.length : Nat) : Int) := by unfold wrap64; omega
    have w2 : wrap64 (Int.tdiv ((8 * i + j : Nat) : Int) 8) = (i : Int) := by
      rw [Int.tdiv_eq_ediv_of_nonneg (by omega)]
      unfold wrap64
      omega
    have w3 : Int.tmod ((8 * i + j : Nat) : Int) 8 = (j : Int) := by
      rw [Int.tmod_eq_emod_of_nonneg (by omega)]
      omega
    have w4 : wrap64 (((8 * i + j : Nat) : Int) + 1) = ((8 * i + (j + 1) : Nat) : Int) := by unfold wrap64; omega
    have w5 : Int.tmod (r : Int) 2 = ((r % 2 : Nat) : Int) := by
      rw [Int.tmod_eq_emod_of_nonneg (by omega)]
      omega
    have w6 : (Int.tdiv (r : Int) 2) % 4294967296 = ((r / 2 : Nat) : Int) := by
      rw [Int.tdiv_eq_ediv_of_nonneg (by omega)]
      omega
    have w7 := shr8 b j t9
    have t7 : b / 2 ^ j % 2 < 2 := Nat.mod_lt _ Nat.two_pos
    have t8 : b / 2 ^ j % 2 < 2 ^ 32 := Nat.lt_trans t7 (by decide)
    have w8 : Go.bits .xor .u32 ((r / 2 : Nat) : Int) 2197175160 = ((r / 2 ^^^ crcP : Nat) : Int) := u32_xor_nat (r / 2) 2197175160 t6 (by decide)
    have hs := crcS_lt (r ^^^ b / 2 ^ j % 2) (Nat.xor_lt_two_pow (n := 32) hr t8)
    have hf := crcS_feed r (b / 2 ^ j)
    have hd : b / 2 ^ j / 2 = b / 2 ^ (j + 1) := by rw [Nat.div_div_eq_div_mul, Nat.pow_succ]
    have hc := crcS_bit r (b / 2 ^ j % 2) t7
    have key := ih (j + 1) (crcS (r ^^^ b / 2 ^ j % 2)) k t5 hs
    rw [crcI, hf, hd, ← key, ← Nat.add_assoc, milestoneref01_Sum.l0, w1, if_pos t1, w2, if_pos t3, if_pos t2, w3, if_pos t4, hb, w7, w5, w6, w8, w4]
    by_cases h : r % 2 = b / 2 ^ j % 2
    · rw [if_pos (by rw [h]), hc, if_pos h]
    · have h2 : ¬ ((r % 2 : Nat) : Int) = ((b / 2 ^ j % 2 : Nat) : Int) := fun e => h (Int.natCast_inj.1 e)
      rw [if_neg h2, hc, if_neg h]
theorem ref_loop (q : List Int) (hq : isBytes q) (hl : q.length < 1000000) (d : Nat) : ∀ (i r k : Nat), i + d = q.length → r < 4294967296 →
    milestoneref01_Sum.l0 (k + 1 + 8 * d) q (r : Int) ((8 * i : Nat) : Int) = some ((crcV (crcF r (q.drop i)) : Nat) : Int) := by
  induction d with
  | zero =>
    intro i r k hi hr
    have w1 : wrap64 (8 * (q.length : Int)) = ((8 * q.length : Nat) : Int) := by unfold wrap64; omega
    have hv := crcV_sub r hr
    rw [milestoneref01_Sum.l0, w1, if_neg (by omega), List.drop_eq_nil_of_le (by omega), crcF_nil, hv]
    refine congrArg some ?_
    omega
  | succ d ih =>
    intro i r k hi hr
    have hb := rd_byte q hq i (by omega)
    obtain ⟨b, hbe⟩ := Int.eq_ofNat_of_zero_le hb.1
    have hbn : b < 256 := by omega
    have h1 := ref_bits q hl i b (by omega) hbe hbn 8 0 r (k + 1 + 8 * d) rfl hr
    have hn : crcI 8 (r ^^^ b) < 4294967296 := crcI_lt 8 _ (Nat.xor_lt_two_pow (n := 32) hr (by omega))
    have key := ih (i + 1) (crcI 8 (r ^^^ b)) k (by omega) hn
    rw [Nat.pow_zero, Nat.div_one, show 8 * i + 0 = 8 * i from rfl] at h1
    rw [show k + 1 + 8 * (d + 1) = k + 1 + 8 * d + 8 by omega, h1, key, rd_drop q i (by omega), hbe, crcF_cons, Int.toNat_natCast, crcB]
theorem refsum_is (k : Nat) (q : List Int) (hq : isBytes q) (hl : q.length < 1000000) : milestoneref01_Sum.f (k + 1 + 8 * q.length) q = some ((crcV (crcF crcM q) : Nat) : Int) := by
  unfold milestoneref01_Sum.f
  exact ref_loop q hq hl q.length 0 crcM k (by omega) crcM_lt

/-! ## bursts -/
def crcN : List Int → Nat
  | [] => 0
  | b :: q => b.toNat ^^^ 256 * crcN q
theorem crcI_add : ∀ (m n x : Nat), crcI (m + n) x = crcI n (crcI m x)
  | 0, n, x => by rw [Nat.zero_add]; rfl
  | m + 1, n, x => by rw [show m + 1 + n = (m + n) + 1 by omega, crcI, crcI_add m n, crcI]
theorem mul_xor (n a b : Nat) : 2 ^ n * (a ^^^ b) = 2 ^ n * a ^^^ 2 ^ n * b := by
  apply Nat.eq_of_testBit_eq
  intro i
  rw [Nat.testBit_xor, Nat.testBit_two_pow_mul, Nat.testBit_two_pow_mul, Nat.testBit_two_pow_mul, Nat.testBit_xor]
  by_cases h : n ≤ i <;> simp [h]
theorem crcF_num : ∀ (q : List Int) (r : Nat), crcF r q = crcI (8 * q.length) (r ^^^ crcN q)
  | [], r => by
    rw [crcF_nil, crcN, Nat.xor_zero]
    rfl
  | b :: q, r => by
    have h : r ^^^ (b.toNat ^^^ 256 * crcN q) = (r ^^^ b.toNat) ^^^ 2 ^ 8 * crcN q := by rw [Nat.xor_assoc]
    rw [crcF_cons, crcF_num q, crcN, List.length_cons, show 8 * (q.length + 1) = 8 + 8 * q.length by omega, crcI_add, h, crcI_xor 8, crcI_shift, crcB]
theorem crcN_set : ∀ (q : List Int) (j : Nat) (v : Int) (e : Nat), j < q.length → v.toNat = (rd q (j : Nat)).toNat ^^^ e → crcN (q.set j v) = crcN q ^^^ 2 ^ (8 * j) * e
  | [], j, v, e, h, _ => by simp at h
  | b :: q, 0, v, e, _, hv => by
    have hb : rd (b :: q) ((0 : Nat) : Int) = b := rfl
    rw [hb] at hv
    rw [List.set_cons_zero, crcN, crcN, hv, Nat.mul_zero, Nat.pow_zero, Nat.one_mul]
    ac_rfl
  | b :: q, j + 1, v, e, h, hv => by
    have hb : rd (b :: q) ((j + 1 : Nat) : Int) = rd q (j : Nat) := rfl
    rw [hb] at hv
    have ih := crcN_set q j v e (by simpa using h) hv
    rw [List.set_cons_succ, crcN, crcN, ih, show (256 : Nat) = 2 ^ 8 from rfl, mul_xor, ← Nat.mul_assoc, ← Nat.pow_add, show 8 + 8 * j = 8 * (j + 1) by omega]
    ac_rfl
theorem xor_zero_eq {a b : Nat} (h : a ^^^ b = 0) : a = b := by
  have e : a ^^^ b ^^^ b = 0 ^^^ b := by rw [h]
  rw [Nat.xor_assoc, Nat.xor_self, Nat.xor_zero, Nat.zero_xor] at e
  exact e
theorem crcS_ne (x : Nat) (h : x < 4294967296) (hx : x ≠ 0) : crcS x ≠ 0 := by
  unfold crcS
  split
  · intro e
    have := xor_zero_eq e
    unfold crcP at this
    omega
  · omega
theorem crcI_ne : ∀ (n x : Nat), x < 4294967296 → x ≠ 0 → crcI n x ≠ 0
  | 0, _, _, h => h
  | n + 1, x, h, hx => crcI_ne n _ (crcS_lt x h) (crcS_ne x h hx)
/-- sums of two that differ by a burst -/
theorem burst (p q : List Int) (k t : Nat) (hl : q.length = p.length) (hk : k ≤ 8 * p.length) (ht : t < 4294967296) (hN : crcN q = crcN p ^^^ 2 ^ k * t) : (crcV (crcF crcM q) = crcV (crcF crcM p)) ↔ t = 0 := by
  have e : crcF crcM q = crcF crcM p ^^^ crcI (8 * p.length - k) t := by
    rw [crcF_num, crcF_num, hl, hN, ← Nat.xor_assoc, crcI_xor _ (crcM ^^^ crcN p)]
    have h : crcI (8 * p.length) (2 ^ k * t) = crcI (8 * p.length - k) t := by
      have : 8 * p.length = k + (8 * p.length - k) := by omega
      rw [this, crcI_add, crcI_shift, ← this]
    rw [h]
  constructor
  · intro h
    have h2 := congrArg crcV h
    rw [crcV_twice, crcV_twice, e] at h2
    apply Classical.byContradiction
    intro hx
    apply crcI_ne (8 * p.length - k) t ht hx
    have h3 := congrArg (fun z => crcF crcM p ^^^ z) h2
    simp only [xor_twice, Nat.xor_self] at h3
    exact h3
  · intro h
    rw [e, h]
    have z : ∀ n, crcI n 0 = 0 := fun n => by
      have := crcI_shift n 0
      rwa [Nat.mul_zero] at this
    rw [z, Nat.xor_zero]

/-! ## frames -/
def t4 (s : Nat) : List Int := [((s % 256 : Nat) : Int), ((s / 256 % 256 : Nat) : Int), ((s / 65536 % 256 : Nat) : Int), ((s / 16777216 % 256 : Nat) : Int)]
def sumN (q : List Int) : Nat := crcV (crcF crcM q)
theorem sumN_lt (q : List Int) (hq : isBytes q) : sumN q < 4294967296 := crcV_lt _ (crcF_lt q crcM hq crcM_lt)
theorem t4_bytes (s : Nat) : isBytes (t4 s) := by
  intro x hx
  unfold t4 at hx
  simp only [List.mem_cons, List.not_mem_nil, or_false] at hx
  omega
theorem t4_length (s : Nat) : (t4 s).length = 4 := rfl
theorem isBytes_append {p q : List Int} (hp : isBytes p) (hq : isBytes q) : isBytes (p ++ q) := fun x hx => (List.mem_append.1 hx).elim (hp x) (hq x)
theorem isBytes_one {b : Int} (h : 0 ≤ b ∧ b < 256) : isBytes [b] := fun x hx => by rw [List.mem_singleton.1 hx]; exact h
theorem pack_step (k s i : Nat) (hi : i < 4) (out : List Int) (hl : out.length < 1000000) :
    frame_Pack.l0 (k + 1) out (s : Int) (i : Int) = frame_Pack.l0 k (out ++ [((s / 256 ^ i % 256 : Nat) : Int)]) (s : Int) ((i + 1 : Nat) : Int) := by
  have e1 : Aside0 (wrap64 (8 * (i : Int)) = ((8 * i : Nat) : Int)) := ⟨by unfold wrap64; omega⟩
  have e2 : Aside0 (wrap64 ((i : Int) + 1) = ((i + 1 : Nat) : Int)) := ⟨by unfold wrap64; omega⟩
  have e3 : (shr .u32 (s : Int) ((8 * i : Nat) : Int)) % 256 = ((s / 256 ^ i % 256 : Nat) : Int) := by
    unfold shr
    have e : min ((8 * i : Nat) : Int).toNat IntKind.u32.bits = 8 * i := by
      have : IntKind.u32.bits = 32 := rfl
      omega
    rw [e, show ((2 : Int) ^ (8 * i)) = ((2 ^ (8 * i) : Nat) : Int) by simp, ← Int.natCast_ediv, Nat.pow_mul, show (2 : Nat) ^ 8 = 256 from rfl]
    omega
  have h1 : (i : Int) < 4 := by omega
  have h2 : (0 : Int) ≤ ((8 * i : Nat) : Int) := Int.natCast_nonneg _
  have h3 : out.length < 140737488355328 := by omega
  rw [frame_Pack.l0, if_pos h1, e1.out, if_pos h2, if_pos h3, e3, e2.out]
theorem pack_tail (k s : Nat) (out : List Int) (hl : out.length < 100000) : frame_Pack.l0 (k + 5) out (s : Int) 0 = some (out ++ t4 s) := by
  have s0 := pack_step (k + 4) s 0 (by omega) out (by omega)
  have s1 := pack_step (k + 3) s 1 (by omega) (out ++ [((s / 256 ^ 0 % 256 : Nat) : Int)]) (by simp; omega)
  have s2 := pack_step (k + 2) s 2 (by omega) (out ++ [((s / 256 ^ 0 % 256 : Nat) : Int)] ++ [((s / 256 ^ 1 % 256 : Nat) : Int)]) (by simp; omega)
  have s3 := pack_step (k + 1) s 3 (by omega) (out ++ [((s / 256 ^ 0 % 256 : Nat) : Int)] ++ [((s / 256 ^ 1 % 256 : Nat) : Int)] ++ [((s / 256 ^ 2 % 256 : Nat) : Int)]) (by simp; omega)
  have z0 : ((0 : Nat) : Int) = 0 := rfl
  rw [z0] at s0
  have n4 : ¬ (((3 + 1 : Nat) : Int) < 4) := by omega
  rw [show k + 5 = k + 4 + 1 from rfl, s0, show k + 4 = k + 3 + 1 from rfl, s1, show k + 3 = k + 2 + 1 from rfl, s2, show k + 2 = k + 1 + 1 from rfl, s3, frame_Pack.l0, if_neg n4]
  refine congrArg some ?_
  unfold t4
  simp
def headL (s : Nat) (kind : Int) (p : List Int) : List Int := cb s p.length ++ [kind] ++ p
def packL (s : Nat) (kind : Int) (p : List Int) : List Int := headL s kind p ++ t4 (sumN (headL s kind p))
theorem cb_length (s n : Nat) (h : Takes s n) : (cb s n).length = s := by
  unfold cb
  rw [List.length_cons, tl_length]
  have := h.1
  omega
theorem headL_length (s : Nat) (kind : Int) (p : List Int) (h : Takes s p.length) : (headL s kind p).length = s + 1 + p.length := by
  unfold headL
  rw [List.length_append, List.length_append, cb_length s _ h]
  rfl
theorem headL_bytes (s : Nat) (kind : Int) (p : List Int) (h : Takes s p.length) (hk : 0 ≤ kind ∧ kind < 256) (hp : isBytes p) : isBytes (headL s kind p) := isBytes_append (isBytes_append (cb_bytes s _ h) (isBytes_one hk)) hp
theorem packL_bytes (s : Nat) (kind : Int) (p : List Int) (h : Takes s p.length) (hk : 0 ≤ kind ∧ kind < 256) (hp : isBytes p) : isBytes (packL s kind p) := isBytes_append (headL_bytes s kind p h hk hp) (t4_bytes _)
theorem packL_length (s : Nat) (kind : Int) (p : List Int) (h : Takes s p.length) : (packL s kind p).length = s + 1 + p.length + 4 := by
  unfold packL
  rw [List.length_append, headL_length s kind p h, t4_length]
theorem pack_is (K : Nat) (kind : Int) (p : List Int) (hk : 0 ≤ kind ∧ kind < 256) (hp : isBytes p) (hl : p.length < 10000) (hK : p.length + 60 < K) : ∃ s, Takes s p.length ∧ frame_Pack.f K kind p = some (packL s kind p) := by
  obtain ⟨k, rfl⟩ : ∃ k, K = k + 11 := ⟨K - 11, by omega⟩
  obtain ⟨s, hs, _, hput⟩ := put_is k p.length (by omega)
  have h9 := hs.2.1
  refine ⟨s, hs, ?_⟩
  have e1 : Aside0 (IntKind.u64.wrap (p.length : Int) = (p.length : Int)) := ⟨by rw [wr64]; omega⟩
  have hb := headL_bytes s kind p hs hk hp
  have hll := headL_length s kind p hs
  have hc := cb_length s p.length hs
  have hsum := sum_is (k + 11) (headL s kind p) hb (by omega) (by omega)
  have ht := pack_tail (k + 6) (sumN (headL s kind p)) (headL s kind p) (by omega)
  have g1 : (cb s p.length).length < 140737488355328 := by omega
  have g2 : (cb s p.length ++ [kind]).length + p.length < 140737488355328 := by rw [List.length_append, hc]; simp; omega
  unfold frame_Pack.f
  rw [e1.out, hput [] (by simp), Option.bind_some, List.nil_append, if_pos g1, Option.bind_some, if_pos g2, Option.bind_some]
  show ((tally_Sum.f (k + 11) (headL s kind p)).bind fun t155 => frame_Pack.l0 (k + 11) (headL s kind p) t155 0) = _
  rw [hsum, Option.bind_some]
  exact ht

theorem tail_is (K : Nat) (q : List Int) (hq : isBytes q) (hl : q.length < 100000) (hK : 8 * q.length + 1 < K) : milestoneref01_Tail.f K q = some (t4 (sumN q)) := by
  obtain ⟨k, rfl⟩ : ∃ k, K = k + 1 + 8 * q.length := ⟨K - 1 - 8 * q.length, by omega⟩
  have hs := refsum_is k q hq (by omega)
  have hlt := sumN_lt q hq
  unfold milestoneref01_Tail.f
  rw [hs, Option.bind_some]
  refine congrArg some ?_
  show [_, _, _, _] = t4 (sumN q)
  unfold t4
  rw [show crcV (crcF crcM q) = sumN q from rfl]
  generalize sumN q = s at hlt ⊢
  have e1 : (Int.tmod (s : Int) 256) % 256 = ((s % 256 : Nat) : Int) := by rw [Int.tmod_eq_emod_of_nonneg (Int.natCast_nonneg _)]; omega
  have e2 : (Int.tdiv (s : Int) 256) % 256 = ((s / 256 % 256 : Nat) : Int) := by rw [Int.tdiv_eq_ediv_of_nonneg (Int.natCast_nonneg _)]; omega
  have e3 : (Int.tdiv (s : Int) 65536) % 256 = ((s / 65536 % 256 : Nat) : Int) := by rw [Int.tdiv_eq_ediv_of_nonneg (Int.natCast_nonneg _)]; omega
  have e4 : (Int.tdiv (s : Int) 16777216) % 256 = ((s / 16777216 % 256 : Nat) : Int) := by rw [Int.tdiv_eq_ediv_of_nonneg (Int.natCast_nonneg _)]; omega
  rw [e1, e2, e3, e4]
theorem rpack_is (K s : Nat) (kind : Int) (p : List Int) (hk : 0 ≤ kind ∧ kind < 256) (hp : isBytes p) (hl : p.length < 10000) (hs : Takes s p.length) (hK : 8 * p.length + 300 < K) : milestoneref05_Pack.f K kind p = some (packL s kind p) := by
  obtain ⟨k, rfl⟩ : ∃ k, K = k + 90 := ⟨K - 90, by omega⟩
  have h9 := hs.2.1
  have e1 : Aside0 (IntKind.u64.wrap (p.length : Int) = (p.length : Int)) := ⟨by rw [wr64]; omega⟩
  have hb := headL_bytes s kind p hs hk hp
  have hll := headL_length s kind p hs
  have hc := cb_length s p.length hs
  have ht := tail_is (k + 90) (headL s kind p) hb (by omega) (by omega)
  have hcoin := coin_is k s p.length hs (by omega)
  have g1 : (cb s p.length).length < 140737488355328 := by omega
  have g2 : (cb s p.length ++ [kind]).length + p.length < 140737488355328 := by rw [List.length_append, hc]; simp; omega
  have g3 : (headL s kind p).length + (t4 (sumN (headL s kind p))).length < 140737488355328 := by rw [hll, t4_length]; omega
  unfold milestoneref05_Pack.f
  rw [e1.out, hcoin, Option.bind_some, if_pos g1, Option.bind_some, if_pos g2, Option.bind_some]
  show ((milestoneref01_Tail.f (k + 90) (headL s kind p)).bind fun t186 => (if (headL s kind p).length + t186.length < 140737488355328 then (some (headL s kind p ++ t186)) else (none))) = _
  rw [ht, Option.bind_some, if_pos g3]
  rfl
/-- four bytes as a number, the lowest first -/
def j4 (t : List Int) : Nat := (rd t 0).toNat + 256 * (rd t 1).toNat + 65536 * (rd t 2).toNat + 16777216 * (rd t 3).toNat
theorem j4_iff (t : List Int) (ht : isBytes t) (hl : t.length = 4) (s : Nat) (hs : s < 4294967296) : j4 t = s ↔ t = t4 s := by
  match t, hl with
  | [a, b, c, d], _ =>
    have ha := ht a (by simp)
    have hb := ht b (by simp)
    have hc := ht c (by simp)
    have hd := ht d (by simp)
    have e : j4 [a, b, c, d] = a.toNat + 256 * b.toNat + 65536 * c.toNat + 16777216 * d.toNat := rfl
    rw [e]
    unfold t4
    constructor
    · intro h
      have h1 : a = ((s % 256 : Nat) : Int) := by omega
      have h2 : b = ((s / 256 % 256 : Nat) : Int) := by omega
      have h3 : c = ((s / 65536 % 256 : Nat) : Int) := by omega
      have h4 : d = ((s / 16777216 % 256 : Nat) : Int) := by omega
      rw [h1, h2, h3, h4]
    · intro h
      injection h with h1 h
      injection h with h2 h
      injection h with h3 h
      injection h with h4 h
      omega
theorem rd_drop_add (q : List Int) (at_ j : Nat) : rd q ((at_ + j : Nat) : Int) = rd (q.drop at_) (j : Nat) := by
  unfold rd
  rw [Int.toNat_natCast, Int.toNat_natCast, List.getD_eq_getElem?_getD, List.getD_eq_getElem?_getD, List.getElem?_drop]
theorem or_add (x y m : Nat) (hx : x < 2 ^ m) : x ||| 2 ^ m * y = 2 ^ m * y + x := by
  rw [Nat.or_comm]
  exact (Nat.two_pow_add_eq_or_of_lt hx y).symm
theorem one_step (k at_ body end_ i acc : Nat) (q : List Int) (b : Nat) (hi : i < 4) (hq : end_ + 4 ≤ q.length) (hl : q.length < 1000000) (hb : rd q ((end_ + i : Nat) : Int) = (b : Int)) (hbn : b < 256) (ha : acc < 256 ^ i) :
    frame_One.l0 (k + 1) q (at_ : Int) (body : Int) (end_ : Int) (acc : Int) (i : Int) = frame_One.l0 k q (at_ : Int) (body : Int) (end_ : Int) ((256 ^ i * b + acc : Nat) : Int) ((i + 1 : Nat) : Int) := by
  have e1 : Aside0 (wrap64 (8 * (i : Int)) = ((8 * i : Nat) : Int)) := ⟨by unfold wrap64; omega⟩
  have e2 : Aside0 (wrap64 ((i : Int) + 1) = ((i + 1 : Nat) : Int)) := ⟨by unfold wrap64; omega⟩
  have e3 : Aside0 (wrap64 ((end_ : Int) + (i : Int)) = ((end_ + i : Nat) : Int)) := ⟨by unfold wrap64; omega⟩
  have hp : 256 ^ i ≤ 16777216 := by
    have : 256 ^ i ≤ 256 ^ 3 := Nat.pow_le_pow_right (by omega) (by omega)
    omega
  have hbp : b * 256 ^ i < 4294967296 := by
    have : b * 256 ^ i ≤ 255 * 16777216 := Nat.mul_le_mul (by omega) hp
    omega
  have e4 : shl .u32 ((b : Int) % 4294967296) ((8 * i : Nat) : Int) = ((256 ^ i * b : Nat) : Int) := by
    unfold shl
    have e : min ((8 * i : Nat) : Int).toNat IntKind.u32.bits = 8 * i := by
      have : IntKind.u32.bits = 32 := rfl
      omega
    have ep : (2 : Nat) ^ (8 * i) = 256 ^ i := by rw [Nat.pow_mul]
    have em : (b : Int) * 2 ^ (8 * i) = ((b * 256 ^ i : Nat) : Int) := by
      rw [← ep]
      simp
    rw [e, show (b : Int) % 4294967296 = (b : Int) by omega, em, wr32, Nat.mul_comm (256 ^ i) b]
    generalize b * 256 ^ i = z at hbp ⊢
    omega
  have e5 : Go.bits .or .u32 (acc : Int) ((256 ^ i * b : Nat) : Int) = ((256 ^ i * b + acc : Nat) : Int) := by
    have h := u32_or_nat acc (256 ^ i * b) (Nat.lt_of_lt_of_le ha (Nat.le_trans hp (by omega))) (by rw [Nat.mul_comm]; exact hbp)
    rw [h]
    have h2 := or_add acc b (8 * i) (by rw [Nat.pow_mul]; exact ha)
    rw [Nat.pow_mul] at h2
    rw [show (2 : Nat) ^ 8 = 256 from rfl] at h2
    rw [h2]
  have h1 : (i : Int) < 4 := by omega
  have h2 : (0 : Int) ≤ ((8 * i : Nat) : Int) := Int.natCast_nonneg _
  have h3 : (0 : Int) ≤ ((end_ + i : Nat) : Int) := Int.natCast_nonneg _
  have h4 : ((end_ + i : Nat) : Int) < (q.length : Int) := by omega
  rw [frame_One.l0, if_pos h1, e3.out, if_pos h3, if_pos h4, e1.out, if_pos h2, hb, e4, e5, e2.out]

/-- the frame that begins at a place -/
theorem one_at (K at_ s : Nat) (q : List Int) (kind : Int) (p t rest : List Int) (hq : isBytes q) (hql : q.length < 100000) (hs : Takes s p.length) (hdrop : q.drop at_ = headL s kind p ++ (t ++ rest)) (ht : t.length = 4) (hpl : p.length < 1000000) (hK : p.length + 200 < K) :
    frame_One.f K q (at_ : Int) = if t = t4 (sumN (headL s kind p)) then some (kind, p, (at_ : Int), ((at_ + s + 1 + p.length + 4 : Nat) : Int), 0) else some (0, [], 0, 0, 4) := by
  obtain ⟨k, rfl⟩ : ∃ k, K = k + 26 := ⟨K - 26, by omega⟩
  have h9 := hs.2.1
  have h1s := hs.1
  have hall : isBytes (q.drop at_) := fun x hx => hq x (List.mem_of_mem_drop hx)
  rw [hdrop] at hall
  have hhb : isBytes (headL s kind p) := fun x hx => hall x (List.mem_append_left _ hx)
  have htb : isBytes t := fun x hx => hall x (List.mem_append_right _ (List.mem_append_left _ hx))
  have hlen : (q.drop at_).length = s + 1 + p.length + 4 + rest.length := by
    rw [hdrop, List.length_append, List.length_append, headL_length s kind p hs, ht]
    omega
  have hlen2 := hlen
  rw [List.length_drop] at hlen2
  have hat : at_ + (s + 1 + p.length + 4) ≤ q.length := by omega
  have hget : coin_Get.f (k + 25) (q.drop at_) = some ((p.length : Int), (s : Int), 0) := by
    rw [hdrop]
    unfold headL
    rw [List.append_assoc, List.append_assoc]
    refine get_put k s p.length hs (by omega) _ ?_ ?_
    · intro x hx
      apply hall x
      unfold headL
      rw [List.append_assoc, List.append_assoc]
      exact List.mem_append_right _ hx
    · have := hlen
      rw [hdrop] at this
      unfold headL at this
      rw [List.append_assoc, List.append_assoc, List.length_append] at this
      omega
  have w1 : Aside0 (wrap64 ((at_ : Int) + (s : Int)) = ((at_ + s : Nat) : Int)) := ⟨by unfold wrap64; omega⟩
  have w2 : Aside0 (wrap64 (((at_ + s : Nat) : Int) + 1) = ((at_ + s + 1 : Nat) : Int)) := ⟨by unfold wrap64; omega⟩
  have w3 : Aside0 (wrap64 (p.length : Int) = (p.length : Int)) := ⟨by unfold wrap64; omega⟩
  have w4 : Aside0 (wrap64 (((at_ + s + 1 : Nat) : Int) + (p.length : Int)) = ((at_ + s + 1 + p.length : Nat) : Int)) := ⟨by unfold wrap64; omega⟩
  have w5 : Aside0 (wrap64 (((at_ + s + 1 + p.length : Nat) : Int) + 4) = ((at_ + s + 1 + p.length + 4 : Nat) : Int)) := ⟨by unfold wrap64; omega⟩
  have w6 : Aside0 (wrap64 (((at_ + s + 1 : Nat) : Int) - 1) = ((at_ + s : Nat) : Int)) := ⟨by unfold wrap64; omega⟩
  have c0 : ¬ ((at_ : Int) < 0) := by omega
  have c1 : decide ((at_ : Int) > (q.length : Int)) = false := decide_eq_false (by omega)
  have c2 : (0 : Int) ≤ (at_ : Int) := Int.natCast_nonneg _
  have c3 : (at_ : Int) ≤ (q.length : Int) := by omega
  have c4 : ¬ ((p.length : Int) > 1048576) := by omega
  have c5 : ¬ (((at_ + s + 1 + p.length + 4 : Nat) : Int) > (q.length : Int)) := by omega
  -- the sum's bytes
  have rt : ∀ j, j < 4 → rd q ((at_ + s + 1 + p.length + j : Nat) : Int) = rd t (j : Nat) := by
    intro j hj
    rw [show at_ + s + 1 + p.length + j = at_ + (s + 1 + p.length + j) by omega, rd_drop_add, hdrop]
    unfold rd
    rw [Int.toNat_natCast, Int.toNat_natCast, List.getD_eq_getElem?_getD, List.getD_eq_getElem?_getD, List.getElem?_append_right (by rw [headL_length s kind p hs]; omega), headL_length s kind p hs, show s + 1 + p.length + j - (s + 1 + p.length) = j by omega, List.getElem?_append_left (by omega)]
  have by_ : ∀ j, j < 4 → ∃ b : Nat, rd t (j : Nat) = (b : Int) ∧ b < 256 := by
    intro j hj
    have hr := rd_byte t htb j (by omega)
    exact ⟨(rd t (j : Nat)).toNat, by omega, by omega⟩
  obtain ⟨b0, r0, l0⟩ := by_ 0 (by omega)
  obtain ⟨b1, r1, l1⟩ := by_ 1 (by omega)
  obtain ⟨b2, r2, l2⟩ := by_ 2 (by omega)
  obtain ⟨b3, r3, l3⟩ := by_ 3 (by omega)
  have f0 := one_step (k + 24) at_ (at_ + s + 1) (at_ + s + 1 + p.length) 0 0 q b0 (by omega) (by omega) (by omega) ((rt 0 (by omega)).trans r0) l0 (by omega)
  have f1 := one_step (k + 23) at_ (at_ + s + 1) (at_ + s + 1 + p.length) 1 (256 ^ 0 * b0 + 0) q b1 (by omega) (by omega) (by omega) ((rt 1 (by omega)).trans r1) l1 (by omega)
  have f2 := one_step (k + 22) at_ (at_ + s + 1) (at_ + s + 1 + p.length) 2 (256 ^ 1 * b1 + (256 ^ 0 * b0 + 0)) q b2 (by omega) (by omega) (by omega) ((rt 2 (by omega)).trans r2) l2 (by omega)
  have f3 := one_step (k + 21) at_ (at_ + s + 1) (at_ + s + 1 + p.length) 3 (256 ^ 2 * b2 + (256 ^ 1 * b1 + (256 ^ 0 * b0 + 0))) q b3 (by omega) (by omega) (by omega) ((rt 3 (by omega)).trans r3) l3 (by omega)
  have hj : 256 ^ 3 * b3 + (256 ^ 2 * b2 + (256 ^ 1 * b1 + (256 ^ 0 * b0 + 0))) = j4 t := by
    unfold j4
    rw [show rd t 0 = rd t ((0 : Nat) : Int) from rfl, show rd t 1 = rd t ((1 : Nat) : Int) from rfl, show rd t 2 = rd t ((2 : Nat) : Int) from rfl, show rd t 3 = rd t ((3 : Nat) : Int) from rfl, r0, r1, r2, r3]
    omega
  rw [hj] at f3
  have z0 : ((0 : Nat) : Int) = 0 := rfl
  rw [z0] at f0
  -- the rest
  have hsl : (q.take (at_ + s + 1 + p.length)).drop at_ = headL s kind p := by
    rw [List.drop_take, hdrop, show at_ + s + 1 + p.length - at_ = (headL s kind p).length by rw [headL_length s kind p hs]; omega, List.take_left]
  have hbody : (q.take (at_ + s + 1 + p.length)).drop (at_ + s + 1) = p := by
    rw [show at_ + s + 1 = at_ + (s + 1) by omega, ← List.drop_drop, show at_ + (s + 1) + p.length = at_ + s + 1 + p.length by omega, hsl]
    unfold headL
    rw [List.drop_left' (by rw [List.length_append, cb_length s _ hs]; rfl)]
  have hkind : rd q ((at_ + s : Nat) : Int) = kind := by
    rw [rd_drop_add, hdrop]
    unfold rd headL
    rw [Int.toNat_natCast, List.append_assoc, List.append_assoc, List.getD_eq_getElem?_getD, List.getElem?_append_right (by rw [cb_length s _ hs]; omega), cb_length s _ hs, Nat.sub_self]
    rfl
  have hsum := sum_is (k + 20) (headL s kind p) hhb (by rw [headL_length s kind p hs]; omega) (by rw [headL_length s kind p hs]; omega)
  have hiff := j4_iff t htb ht (sumN (headL s kind p)) (sumN_lt _ hhb)
  have d1 : (at_ : Int) ≤ ((at_ + s + 1 + p.length : Nat) : Int) := by omega
  have d2 : ((at_ + s + 1 + p.length : Nat) : Int) ≤ (q.length : Int) := by omega
  have d3 : (0 : Int) ≤ ((at_ + s : Nat) : Int) := Int.natCast_nonneg _
  have d4 : ((at_ + s : Nat) : Int) < (q.length : Int) := by omega
  have d5 : (0 : Int) ≤ ((at_ + s + 1 : Nat) : Int) := Int.natCast_nonneg _
  have d6 : ((at_ + s + 1 : Nat) : Int) ≤ ((at_ + s + 1 + p.length : Nat) : Int) := by omega
  have d7 : ([] : List Int).length + p.length < 140737488355328 := by simp; omega
  have n4 : ¬ (((3 + 1 : Nat) : Int) < 4) := by omega
  have main : frame_One.l0 (k + 25) q (at_ : Int) ((at_ + s + 1 : Nat) : Int) ((at_ + s + 1 + p.length : Nat) : Int) 0 0 = if t = t4 (sumN (headL s kind p)) then some (kind, p, (at_ : Int), ((at_ + s + 1 + p.length + 4 : Nat) : Int), 0) else some (0, [], 0, 0, 4) := by
    rw [show k + 25 = k + 24 + 1 from rfl, f0, show k + 24 = k + 23 + 1 from rfl, f1, show k + 23 = k + 22 + 1 from rfl, f2, show k + 22 = k + 21 + 1 from rfl, f3, show k + 21 = (k + 20) + 1 from rfl, frame_One.l0, if_neg n4, if_pos c2, if_pos d1, if_pos d2, Int.toNat_natCast, Int.toNat_natCast, hsl, hsum, Option.bind_some]
    by_cases he : t = t4 (sumN (headL s kind p))
    · have e : ((j4 t : Nat) : Int) = ((crcV (crcF crcM (headL s kind p)) : Nat) : Int) := by rw [hiff.2 he]; rfl
      rw [if_pos e, if_pos he, w6.out, if_pos d3, if_pos d4, if_pos d5, if_pos d6, Int.toNat_natCast, hbody, if_pos d7, hkind, w5.out, List.nil_append]
    · have e : ¬ ((j4 t : Nat) : Int) = ((crcV (crcF crcM (headL s kind p)) : Nat) : Int) := fun z => he (hiff.1 (Int.natCast_inj.1 z))
      rw [if_neg e, if_neg he]
  unfold frame_One.f
  rw [if_neg c0, c1, frame_One.j0, if_neg (by decide), if_pos c2, if_pos c3, Int.toNat_natCast, hget, Option.bind_some, if_pos rfl, if_neg c4, w1.out, w2.out, w3.out, w4.out, w5.out, if_neg c5]
  exact main

/-- of any bytes: the number ahead, or none -/
theorem get_any (k : Nat) (b : List Int) (hb : isBytes b) (hl : b.length < 1000000) :
    (∃ (s n : Nat) (rest : List Int), Takes s n ∧ n < 18446744073709551616 ∧ b = cb s n ++ rest ∧ coin_Get.f (k + 25) b = some ((n : Int), (s : Int), 0)) ∨
    (∃ e : Int, (e = 4 ∨ e = 5) ∧ coin_Get.f (k + 25) b = some (0, 0, e)) := by
  match b, hb, hl with
  | [], _, _ =>
    refine .inr ⟨5, .inr rfl, ?_⟩
    unfold coin_Get.f
    rw [if_pos (by simp)]
  | x :: q, hb, hl =>
    have hx := hb x List.mem_cons_self
    have hq : isBytes q := fun z hz => hb z (List.mem_cons_of_mem _ hz)
    obtain ⟨c, rfl⟩ := Int.eq_ofNat_of_zero_le hx.1
    have hl' : q.length < 1000000 := by simp at hl; omega
    obtain ⟨K, h, h1, h9, hk9, hk8, hcase⟩ := get_is k c q (by omega) hq (by omega)
    rcases hcase with ⟨hs, hg⟩ | ⟨hle, s, hT, hg⟩
    · exact .inr ⟨5, .inr rfl, hg⟩
    · by_cases hsK : s = K
      · subst hsK
        rw [if_pos rfl] at hg
        have hql : (q.take (s - 1)).length = s - 1 := by rw [List.length_take]; omega
        have hqb : isBytes (q.take (s - 1)) := fun z hz => hq z (List.mem_of_mem_take hz)
        have htl := tl_foldv (q.take (s - 1)) h hqb
        rw [hql] at htl
        refine .inl ⟨s, foldv h (q.take (s - 1)), q.drop (s - 1), hT, ?_, ?_, hg⟩
        · by_cases hs9 : s = 9
          · obtain ⟨_, h0⟩ := hk9 hs9
            have := foldv_lt (q.take (s - 1)) h 1 hqb (by omega)
            rw [hql, hs9] at this
            subst hs9
            omega
          · obtain ⟨hh, _⟩ := hk8 (by omega)
            have := foldv_lt (q.take (s - 1)) h (2 ^ (8 - s)) hqb hh
            rw [hql] at this
            have e : 2 ^ (8 - s) * 256 ^ (s - 1) ≤ 2 ^ 64 := by
              rw [show (256 : Nat) = 2 ^ 8 from rfl, ← Nat.pow_mul, ← Nat.pow_add]
              exact Nat.pow_le_pow_right (by omega) (by omega)
            exact Nat.lt_of_lt_of_le this e
        · unfold cb
          rw [htl.1, List.cons_append, List.take_append_drop]
          refine congrArg (fun z => z :: q) ?_
          unfold hd1
          by_cases hs9 : s = 9
          · rw [if_pos hs9, (hk9 hs9).1]; rfl
          · rw [if_neg hs9, htl.2, ← (hk8 (by omega)).2]
      · rw [if_neg hsK] at hg
        exact .inr ⟨4, .inl rfl, hg⟩

/-- any bytes: a frame begins there, or none does -/
theorem one_any (K at_ : Nat) (q : List Int) (hq : isBytes q) (hql : q.length < 100000) (hat : at_ ≤ q.length) (hK : q.length + 300 < K) :
    (∃ e : Int, e ≠ 0 ∧ frame_One.f K q (at_ : Int) = some (0, [], 0, 0, e)) ∨
    (∃ (s : Nat) (kind : Int) (p t rest : List Int), Takes s p.length ∧ p.length < 10000000 ∧ q.drop at_ = headL s kind p ++ (t ++ rest) ∧ t.length = 4 ∧ t = t4 (sumN (headL s kind p)) ∧
      frame_One.f K q (at_ : Int) = some (kind, p, (at_ : Int), ((at_ + s + 1 + p.length + 4 : Nat) : Int), 0)) := by
  obtain ⟨k, rfl⟩ : ∃ k, K = k + 26 := ⟨K - 26, by omega⟩
  have hall : isBytes (q.drop at_) := fun x hx => hq x (List.mem_of_mem_drop hx)
  have hdl : (q.drop at_).length = q.length - at_ := List.length_drop
  have c0 : ¬ ((at_ : Int) < 0) := by omega
  have c1 : decide ((at_ : Int) > (q.length : Int)) = false := decide_eq_false (by omega)
  have c2 : (0 : Int) ≤ (at_ : Int) := Int.natCast_nonneg _
  have c3 : (at_ : Int) ≤ (q.length : Int) := by omega
  rcases get_any k (q.drop at_) hall (by omega) with ⟨s, n, rest, hs, hn, hb, hget⟩ | ⟨e, he, hget⟩
  · have h9 := hs.2.1
    have hc := cb_length s n hs
    have hrl : (q.drop at_).length = s + rest.length := by rw [hb, List.length_append, hc]
    by_cases hbig : n > 1048576
    · refine .inl ⟨6, by omega, ?_⟩
      have c4 : ((n : Nat) : Int) > 1048576 := by omega
      unfold frame_One.f
      rw [if_neg c0, c1, frame_One.j0, if_neg (by decide), if_pos c2, if_pos c3, Int.toNat_natCast, hget, Option.bind_some, if_pos rfl, if_pos c4]
    · have w1 : Aside0 (wrap64 ((at_ : Int) + (s : Int)) = ((at_ + s : Nat) : Int)) := ⟨by unfold wrap64; omega⟩
      have w2 : Aside0 (wrap64 (((at_ + s : Nat) : Int) + 1) = ((at_ + s + 1 : Nat) : Int)) := ⟨by unfold wrap64; omega⟩
      have w3 : Aside0 (wrap64 (n : Int) = (n : Int)) := ⟨by unfold wrap64; omega⟩
      have w4 : Aside0 (wrap64 (((at_ + s + 1 : Nat) : Int) + (n : Int)) = ((at_ + s + 1 + n : Nat) : Int)) := ⟨by unfold wrap64; omega⟩
      have w5 : Aside0 (wrap64 (((at_ + s + 1 + n : Nat) : Int) + 4) = ((at_ + s + 1 + n + 4 : Nat) : Int)) := ⟨by unfold wrap64; omega⟩
      by_cases hshort : at_ + s + 1 + n + 4 > q.length
      · refine .inl ⟨5, by omega, ?_⟩
        have c4 : ¬ ((n : Int) > 1048576) := by omega
        have c5 : (((at_ + s + 1 + n + 4 : Nat) : Int) > (q.length : Int)) := by omega
        unfold frame_One.f
        rw [if_neg c0, c1, frame_One.j0, if_neg (by decide), if_pos c2, if_pos c3, Int.toNat_natCast, hget, Option.bind_some, if_pos rfl, if_neg c4, w1.out, w2.out, w3.out, w4.out, w5.out, if_pos c5]
      · match rest, hb, hrl with
        | [], _, hrl => simp at hrl; omega
        | kind :: r2, hb, hrl =>
          have hr2 : r2.length + 1 + s = q.length - at_ := by simp at hrl; omega
          have hpl : (r2.take n).length = n := by rw [List.length_take]; omega
          have htl : ((r2.drop n).take 4).length = 4 := by rw [List.length_take, List.length_drop]; omega
          have hT : Takes s (r2.take n).length := by rw [hpl]; exact hs
          have hdrop : q.drop at_ = headL s kind (r2.take n) ++ ((r2.drop n).take 4 ++ (r2.drop n).drop 4) := by
            rw [List.take_append_drop, hb]
            unfold headL
            rw [hpl, List.append_assoc, List.append_assoc, List.take_append_drop]
            rfl
          have h1 := one_at (k + 26) at_ s q kind (r2.take n) ((r2.drop n).take 4) ((r2.drop n).drop 4) hq hql hT hdrop htl (by omega) (by omega)
          by_cases he : (r2.drop n).take 4 = t4 (sumN (headL s kind (r2.take n)))
          · rw [if_pos he] at h1
            exact .inr ⟨s, kind, r2.take n, (r2.drop n).take 4, (r2.drop n).drop 4, hT, by omega, hdrop, htl, he, h1⟩
          · rw [if_neg he] at h1
            exact .inl ⟨4, by omega, h1⟩
  · refine .inl ⟨e, by omega, ?_⟩
    have c4 : ¬ e = 0 := by omega
    unfold frame_One.f
    rw [if_neg c0, c1, frame_One.j0, if_neg (by decide), if_pos c2, if_pos c3, Int.toNat_natCast, hget, Option.bind_some, if_neg c4]
theorem one_arg (K : Nat) (q : List Int) (a : Int) (h : a < 0 ∨ a > (q.length : Int)) : frame_One.f (K + 1) q a = some (0, [], 0, 0, 1) := by
  unfold frame_One.f
  by_cases h0 : a < 0
  · rw [if_pos h0, frame_One.j0, if_pos rfl]
  · rw [if_neg h0, decide_eq_true (by omega), frame_One.j0, if_pos rfl]
theorem takes_mono (s t a b : Nat) (hs : Takes s a) (ht : Takes t b) (h : a ≤ b) : s ≤ t := by
  apply Classical.byContradiction
  intro hlt
  have h1 := ht.1
  have h2 := hs.2.1
  have ha := hs.2.2 t h1 (by omega)
  have hb := (ht.2.2 t h1 (by omega)).1 (Nat.le_refl _)
  have := ha.2 (by omega)
  omega
/-- numbers that end alike are alike -/
theorem same_end (s t a b : Nat) (hs : Takes s a) (ht : Takes t b) (h : s + a = t + b) : s = t ∧ a = b := by
  rcases Nat.lt_trichotomy a b with hl | he | hl
  · have := takes_mono s t a b hs ht (by omega)
    omega
  · exact ⟨by omega, he⟩
  · have := takes_mono t s b a ht hs (by omega)
    omega

theorem awake_60 : milestonelaw06_awake.f 60 = some true := by decide +kernel
theorem awake_is (k : Nat) (h : 60 ≤ k) : milestonelaw06_awake.f k = some true := by
  obtain ⟨d, rfl⟩ : ∃ d, k = 60 + d := ⟨k - 60, by omega⟩
  clear h
  induction d with
  | zero => exact awake_60
  | succ d ih => exact milestonelaw06_awake.mono (60 + d) _ ih

/-! ## frames one behind the other, cut anywhere -/
def sz (n : Nat) : Nat := if n < 128 then 1 else 2
theorem takes_sz (n : Nat) (h : n < 16384) : Takes (sz n) n := by
  unfold Takes sz
  refine ⟨by split <;> omega, by split <;> omega, fun i h1 h8 => ?_⟩
  rcases (by omega : i = 1 ∨ i = 2 ∨ i = 3 ∨ i = 4 ∨ i = 5 ∨ i = 6 ∨ i = 7 ∨ i = 8) with r | r | r | r | r | r | r | r <;> subst r <;> split <;> simp <;> omega
theorem sz_le (n : Nat) : 1 ≤ sz n ∧ sz n ≤ 2 := by unfold sz; split <;> omega
theorem get_128 (k : Nat) : coin_Get.f (k + 25) [128] = some (0, 0, 5) := by
  obtain ⟨K, h, h1, h9, hk9, hk8, hc⟩ := get_is k 128 [] (by omega) (fun x hx => by cases hx) (by simp)
  rcases hc with ⟨_, hg⟩ | ⟨hK, _⟩
  · exact hg
  · have : K = 1 := by simp at hK; omega
    subst this
    have := (hk8 (by omega)).2
    omega
theorem one_cut (K at_ m : Nat) (q : List Int) (kind : Int) (p : List Int) (hkind : 0 ≤ kind ∧ kind < 256) (hp : isBytes p) (hql : q.length < 100000) (hpl : p.length ≤ 200) (hat : at_ ≤ q.length)
    (hdrop : q.drop at_ = (packL (sz p.length) kind p).take m) (h0 : 0 < m) (hm : m < (packL (sz p.length) kind p).length) (hK : 300 < K) : frame_One.f K q (at_ : Int) = some (0, [], 0, 0, 5) := by
  obtain ⟨k, rfl⟩ : ∃ k, K = k + 26 := ⟨K - 26, by omega⟩
  have hs := takes_sz p.length (by omega)
  have hc := cb_length _ _ hs
  have hL := packL_length _ kind p hs
  have hb := packL_bytes _ kind p hs hkind hp
  have hdl : (q.drop at_).length = q.length - at_ := List.length_drop
  rw [hdrop, List.length_take] at hdl
  have c0 : ¬ ((at_ : Int) < 0) := by omega
  have c1 : decide ((at_ : Int) > (q.length : Int)) = false := decide_eq_false (by omega)
  have c2 : (0 : Int) ≤ (at_ : Int) := Int.natCast_nonneg _
  have c3 : (at_ : Int) ≤ (q.length : Int) := by omega
  have hpk : packL (sz p.length) kind p = cb (sz p.length) p.length ++ ([kind] ++ p ++ t4 (sumN (headL (sz p.length) kind p))) := by
    show headL (sz p.length) kind p ++ t4 (sumN (headL (sz p.length) kind p)) = _
    generalize t4 (sumN (headL (sz p.length) kind p)) = z
    unfold headL
    simp only [List.append_assoc]
  by_cases hms : m < sz p.length
  · have hz : sz p.length = 2 ∧ m = 1 := by have := sz_le p.length; omega
    have hd : q.drop at_ = [128] := by
      rw [hdrop, hpk, hz.1, hz.2, cb]
      have e : hd1 2 p.length = 128 := by
        unfold hd1
        rw [if_neg (by omega), show p.length / 256 ^ (2 - 1) = 0 by simp; omega]
        rfl
      rw [e]
      rfl
    unfold frame_One.f
    rw [if_neg c0, c1, frame_One.j0, if_neg (by decide), if_pos c2, if_pos c3, Int.toNat_natCast, hd, get_128 k, Option.bind_some, if_neg (by decide)]
  · have hd : q.drop at_ = cb (sz p.length) p.length ++ ([kind] ++ p ++ t4 (sumN (headL (sz p.length) kind p))).take (m - sz p.length) := by
      rw [hdrop]
      conv => lhs; rw [hpk]
      rw [List.take_append, hc, List.take_of_length_le (by rw [hc]; omega)]
    have hrb : isBytes (([kind] ++ p ++ t4 (sumN (headL (sz p.length) kind p))).take (m - sz p.length)) := fun x hx => hb x (by rw [hpk]; exact List.mem_append_right _ (List.mem_of_mem_take hx))
    have hget := get_put k _ _ hs (by omega) _ hrb (by rw [List.length_take, List.length_append, List.length_append, t4_length, List.length_singleton]; omega)
    rw [← hd] at hget
    have w1 : Aside0 (wrap64 ((at_ : Int) + ((sz p.length : Nat) : Int)) = ((at_ + sz p.length : Nat) : Int)) := ⟨by unfold wrap64; omega⟩
    have w2 : Aside0 (wrap64 (((at_ + sz p.length : Nat) : Int) + 1) = ((at_ + sz p.length + 1 : Nat) : Int)) := ⟨by unfold wrap64; omega⟩
    have w3 : Aside0 (wrap64 (p.length : Int) = (p.length : Int)) := ⟨by unfold wrap64; omega⟩
    have w4 : Aside0 (wrap64 (((at_ + sz p.length + 1 : Nat) : Int) + (p.length : Int)) = ((at_ + sz p.length + 1 + p.length : Nat) : Int)) := ⟨by unfold wrap64; omega⟩
    have w5 : Aside0 (wrap64 (((at_ + sz p.length + 1 + p.length : Nat) : Int) + 4) = ((at_ + sz p.length + 1 + p.length + 4 : Nat) : Int)) := ⟨by unfold wrap64; omega⟩
    have c4 : ¬ ((p.length : Int) > 1048576) := by omega
    have c5 : (((at_ + sz p.length + 1 + p.length + 4 : Nat) : Int) > (q.length : Int)) := by omega
    unfold frame_One.f
    rw [if_neg c0, c1, frame_One.j0, if_neg (by decide), if_pos c2, if_pos c3, Int.toNat_natCast, hget, Option.bind_some, if_pos rfl, if_neg c4, w1.out, w2.out, w3.out, w4.out, w5.out, if_pos c5]
theorem u8_of (x : Int) (h : (Lit.int .u8 x).wf = true) : 0 ≤ x ∧ x < 256 := by simp [Lit.wf, IntKind.signed, IntKind.bits, IntKind.min, IntKind.max] at h; omega
def fr (i : Nat) (x : List Int) : List Int := packL (sz x.length) (i : Int) x
def cat : Nat → List (List Int) → List Int
  | _, [] => []
  | i, x :: r => fr i x ++ cat (i + 1) r
def endsF : Nat → Nat → List (List Int) → List Nat
  | _, _, [] => []
  | i, o, x :: r => (o + (fr i x).length) :: endsF (i + 1) (o + (fr i x).length) r
def Small (r : List (List Int)) : Prop := ∀ x ∈ r, isBytes x ∧ x.length ≤ 200
theorem fr_len (i : Nat) (x : List Int) (h : x.length ≤ 200) : (fr i x).length = sz x.length + 1 + x.length + 4 := packL_length _ _ _ (takes_sz _ (by omega))
theorem fr_bounds (i : Nat) (x : List Int) (h : x.length ≤ 200) : 6 ≤ (fr i x).length ∧ (fr i x).length ≤ 207 := by
  rw [fr_len i x h]; have := sz_le x.length; omega
theorem cat_len (r : List (List Int)) : ∀ i, Small r → (cat i r).length ≤ 207 * r.length := by
  induction r with
  | nil => intro i _; simp [cat]
  | cons x r ih =>
    intro i h
    have := (fr_bounds i x (h x List.mem_cons_self).2).2
    have := ih (i + 1) (fun y hy => h y (List.mem_cons_of_mem _ hy))
    rw [cat, List.length_append, List.length_cons]
    omega
/-- what is told of frames cut at a place -/
def told : Nat → Nat → List (List Int) → Nat → Nat × Nat × Int
  | j, o, [], c => (j, o, 0)
  | j, o, x :: r, c => if o + (fr j x).length ≤ c then told (j + 1) (o + (fr j x).length) r c else (j, o, if o = c then 0 else 5)
theorem scan_told (q : List Int) (hq : isBytes q) (c : Nat) (hqc : q.length = c) (hc : c < 90000) (r : List (List Int)) :
    ∀ (j o K : Nat) (acc : List S52), Small r → j + r.length ≤ 12 → acc.length = j → o ≤ c → q.drop o = (cat j r).take (c - o) → c ≤ o + (cat j r).length → 1000 + r.length < K →
    ∃ got : List S52, got.length = (told j o r c).1 ∧ frame_Scan.l0 K q acc (o : Int) = some (got, ((told j o r c).2.1 : Int), (told j o r c).2.2) := by
  induction r with
  | nil =>
    intro j o K acc hr hj hacc ho hd hce hK
    obtain ⟨k, rfl⟩ : ∃ k, K = k + 1 := ⟨K - 1, by omega⟩
    simp only [cat, List.length_nil] at hce
    refine ⟨acc, hacc, ?_⟩
    rw [frame_Scan.l0, if_neg (by omega), told]
  | cons x r ih =>
    intro j o K acc hr hj hacc ho hd hce hK
    obtain ⟨k, rfl⟩ : ∃ k, K = k + 1 := ⟨K - 1, by omega⟩
    obtain ⟨hx, hxl⟩ := hr x List.mem_cons_self
    have hb := fr_bounds j x hxl
    have hl := fr_len j x hxl
    rw [List.length_cons] at hj hK
    rw [told]
    rw [cat, List.length_append] at hce
    by_cases hfit : o + (fr j x).length ≤ c
    · rw [if_pos hfit]
      have hd2 : q.drop o = headL (sz x.length) (j : Int) x ++ (t4 (sumN (headL (sz x.length) (j : Int) x)) ++ (cat (j + 1) r).take (c - (o + (fr j x).length))) := by
        rw [hd, cat, List.take_append, List.take_of_length_le (by omega), ← List.append_assoc, show c - o - (fr j x).length = c - (o + (fr j x).length) by omega]
        rfl
      have h1 := one_at k o (sz x.length) q (j : Int) x _ _ hq (by omega) (takes_sz _ (by omega)) hd2 (t4_length _) (by omega) (by omega)
      rw [if_pos rfl] at h1
      have hd3 : q.drop (o + (fr j x).length) = (cat (j + 1) r).take (c - (o + (fr j x).length)) := by
        rw [← List.drop_drop, hd2, ← List.append_assoc]
        exact List.drop_left' rfl
      obtain ⟨got, g1, g2⟩ := ih (j + 1) (o + (fr j x).length) k (acc ++ [(⟨(j : Int), x, (o : Int), ((o + sz x.length + 1 + x.length + 4 : Nat) : Int)⟩ : S52)]) (fun y hy => hr y (List.mem_cons_of_mem _ hy)) (by omega) (by rw [List.length_append, hacc]; rfl) hfit hd3 (by omega) (by omega)
      refine ⟨got, g1, ?_⟩
      rw [frame_Scan.l0, if_pos (by omega), h1, Option.bind_some, if_pos rfl, if_pos (by omega)]
      rw [show o + (fr j x).length = o + sz x.length + 1 + x.length + 4 by omega] at g2 ⊢
      exact g2
    · rw [if_neg hfit]
      refine ⟨acc, hacc, ?_⟩
      by_cases ho2 : o = c
      · rw [frame_Scan.l0, if_neg (by omega), if_pos ho2]
      · have hd2 : q.drop o = (packL (sz x.length) (j : Int) x).take (c - o) := by
          rw [hd, cat, List.take_append, show c - o - (fr j x).length = 0 by omega, List.take_zero, List.append_nil]
          rfl
        have h1 := one_cut k o (c - o) q (j : Int) x ⟨by omega, by omega⟩ hx (by omega) hxl (by omega) hd2 (by omega) (by show c - o < (fr j x).length; omega) (by omega)
        rw [frame_Scan.l0, if_pos (by omega), h1, Option.bind_some, if_neg (by decide), if_neg ho2]
theorem endsF_len (r : List (List Int)) : ∀ j o, (endsF j o r).length = r.length := by
  induction r with
  | nil => intro j o; rfl
  | cons x r ih => intro j o; rw [endsF, List.length_cons, List.length_cons, ih]
theorem told_facts (c : Nat) (r : List (List Int)) : ∀ j o, o ≤ c → c ≤ o + (cat j r).length → ((told j o r c).2.2 = 0 ∧ (told j o r c).2.1 = c) ∨ ((told j o r c).2.2 = 5 ∧ (told j o r c).2.1 ≠ c) := by
  induction r with
  | nil => intro j o h1 h2; rw [cat] at h2; rw [told]; exact .inl ⟨rfl, by simp at h2; show o = c; omega⟩
  | cons x r ih =>
    intro j o h1 h2
    rw [told]
    by_cases hfit : o + (fr j x).length ≤ c
    · rw [if_pos hfit]
      rw [cat, List.length_append] at h2
      exact ih (j + 1) _ hfit (by omega)
    · rw [if_neg hfit]
      by_cases h : o = c
      · rw [if_pos h]; exact .inl ⟨rfl, h⟩
      · rw [if_neg h]; exact .inr ⟨rfl, h⟩
theorem wr_one (j : Nat) (h : j < 1000) : wrap64 ((j : Int) + 1) = ((j + 1 : Nat) : Int) := by unfold wrap64; omega
theorem rd_ends (e : List Nat) (j : Nat) : rd (e.map fun n : Nat => (n : Int)) (j : Int) = ((e.getD j 0 : Nat) : Int) := by
  unfold rd
  rw [Int.toNat_natCast, List.getD_eq_getElem?_getD, List.getD_eq_getElem?_getD, List.getElem?_map]
  cases e[j]? <;> rfl
theorem end_good (c : Nat) (got : List S52) (n o : Nat) (e : Int) (hg : got.length = n) (he : (e = 0 ∧ o = c) ∨ (e = 5 ∧ o ≠ c)) :
    (if (got.length : Int) = (n : Int) then (if (o : Int) = (o : Int) then (if ((e == 0) == ((o : Int) == (c : Int))) = true then (if e = 0 then (some true) else (some (e == 5))) else (some false)) else (some false)) else (some false)) = some true := by
  rw [if_pos (by omega), if_pos rfl]
  rcases he with ⟨rfl, rfl⟩ | ⟨rfl, ho⟩
  · simp
  · have : ((o : Int) == (c : Int)) = false := beq_eq_false_iff_ne.2 (by omega)
    rw [this]
    rfl
theorem l1_good (c : Nat) (E : List Nat) (got : List S52) (a : Nat) (e : Int) (r : List (List Int)) :
    ∀ (j o k : Nat), E.drop j = endsF j o r → E.length = j + r.length → j + r.length ≤ 12 → o ≤ c → c ≤ o + (cat j r).length → got.length = (told j o r c).1 → a = (told j o r c).2.1 → e = (told j o r c).2.2 → r.length < k →
    milestonelaw06_FrameCuts.l1 k (E.map fun n : Nat => (n : Int)) (c : Int) got (a : Int) e (j : Int) (o : Int) = some true := by
  induction r with
  | nil =>
    intro j o k hE hl hj ho hc hg ha he hk
    obtain ⟨k, rfl⟩ : ∃ z, k = z + 1 := ⟨k - 1, by omega⟩
    have hf := told_facts c [] j o ho hc
    rw [told] at hg ha he hf
    have hm : (E.map fun n : Nat => (n : Int)).length = E.length := List.length_map _
    simp only [List.length_nil] at hl
    rw [milestonelaw06_FrameCuts.l1, if_neg (by omega), ha, he]
    exact end_good c got j o _ hg hf
  | cons x r ih =>
    intro j o k hE hl hj ho hc hg ha he hk
    obtain ⟨k, rfl⟩ : ∃ z, k = z + 1 := ⟨k - 1, by omega⟩
    have hf := told_facts c (x :: r) j o ho hc
    rw [told] at hg ha he hf
    have hm : (E.map fun n : Nat => (n : Int)).length = E.length := List.length_map _
    simp only [List.length_cons] at hl hj hk
    rw [endsF] at hE
    have hrd : E.getD j 0 = o + (fr j x).length := by
      have : E.drop j ≠ [] := by rw [hE]; simp
      rw [List.getD_eq_getElem?_getD, ← Nat.add_zero j, ← List.getElem?_drop, Nat.add_zero, hE]
      rfl
    have hE2 : E.drop (j + 1) = endsF (j + 1) (o + (fr j x).length) r := by
      rw [← List.drop_drop, hE]
      rfl
    rw [milestonelaw06_FrameCuts.l1, if_pos (by omega), if_pos (by omega), rd_ends, hrd]
    by_cases hfit : o + (fr j x).length ≤ c
    · rw [if_pos hfit] at hg ha he
      rw [cat, List.length_append] at hc
      have f1 : E.length = j + 1 + r.length := by omega
      have f2 : j + 1 + r.length ≤ 12 := by omega
      have f3 : c ≤ o + (fr j x).length + (cat (j + 1) r).length := by omega
      have f4 : r.length < k := by omega
      have f5 : ((o + (fr j x).length : Nat) : Int) ≤ (c : Int) := by omega
      have hw : wrap64 ((j : Int) + 1) = ((j + 1 : Nat) : Int) := wr_one j (by omega)
      rw [if_pos f5, hw]
      exact ih (j + 1) (o + (fr j x).length) k hE2 f1 f2 hfit f3 hg ha he f4
    · rw [if_neg hfit] at hg ha he hf
      rw [if_neg (by omega), ha, he]
      exact end_good c got j o _ hg hf
theorem rdL1_at (l r : List (List Int)) (j : Nat) (x : List Int) (h : l.drop j = x :: r) : rd_L1 l (j : Int) = x := by
  unfold rd_L1
  have e : l[j]? = (l.drop j)[0]? := by rw [List.getElem?_drop, Nat.add_zero]
  rw [Int.toNat_natCast, List.getD_eq_getElem?_getD, e, h]
  rfl
theorem short_loop (l r : List (List Int)) : ∀ (j k : Nat), l.drop j = r → j + r.length = l.length → l.length ≤ 9223372036854775807 → r.length < k →
    milestonelaw06_short.l0 k l (j : Int) = some (decide ((∀ x ∈ r, x.length ≤ 200) ∧ l.length ≤ 12)) := by
  induction r with
  | nil =>
    intro j k h1 h2 h3 hk
    obtain ⟨k, rfl⟩ : ∃ z, k = z + 1 := ⟨k - 1, by omega⟩
    rw [List.length_nil] at h2
    rw [milestonelaw06_short.l0, if_neg (by omega)]
    refine congrArg some (decide_eq_decide.2 ⟨fun h => ⟨fun x hx => (by cases hx), by omega⟩, fun h => by omega⟩)
  | cons x r ih =>
    intro j k h1 h2 h3 hk
    obtain ⟨k, rfl⟩ : ∃ z, k = z + 1 := ⟨k - 1, by omega⟩
    rw [List.length_cons] at h2 hk
    have hw : wrap64 ((j : Int) + 1) = ((j + 1 : Nat) : Int) := by unfold wrap64; omega
    have hd : l.drop (j + 1) = r := by rw [← List.drop_drop, h1]; rfl
    rw [milestonelaw06_short.l0, if_pos (by omega), if_pos (by omega), rdL1_at l r j x h1, hw]
    by_cases hx : x.length ≤ 200
    · rw [if_neg (by omega), ih (j + 1) k hd (by omega) h3 (by omega)]
      refine congrArg some (decide_eq_decide.2 ⟨fun h => ⟨fun y hy => ?_, h.2⟩, fun h => ⟨fun y hy => h.1 y (List.mem_cons_of_mem _ hy), h.2⟩⟩)
      rcases List.mem_cons.1 hy with rfl | hy
      · exact hx
      · exact h.1 y hy
    · rw [if_pos (by omega)]
      refine congrArg some (decide_eq_false (fun h => hx (h.1 x List.mem_cons_self))).symm
theorem fr_bytes (i : Nat) (x : List Int) (hi : i < 256) (hx : isBytes x) (h : x.length ≤ 200) : isBytes (fr i x) := packL_bytes _ _ _ (takes_sz _ (by omega)) ⟨by omega, by omega⟩ hx
theorem cat_bytes (r : List (List Int)) : ∀ i, Small r → i + r.length ≤ 12 → isBytes (cat i r) := by
  induction r with
  | nil => intro i _ _ x hx; cases hx
  | cons x r ih =>
    intro i h hi
    rw [List.length_cons] at hi
    have hx := h x List.mem_cons_self
    exact isBytes_append (fr_bytes i x (by omega) hx.1 hx.2) (ih (i + 1) (fun y hy => h y (List.mem_cons_of_mem _ hy)) (by omega))
theorem l0_good (l : List (List Int)) (a1 : Int) (P : List Int) (E : List Nat) (ha : 0 ≤ a1) (ha2 : a1 < 65536)
    (hfin : ∀ k, 6000 ≤ k → milestonelaw06_FrameCuts.l0 k l a1 P (E.map fun n : Nat => (n : Int)) (l.length : Int) = some true) (r : List (List Int)) :
    ∀ (j k : Nat) (p : List Int) (e : List Nat), l.drop j = r → j + r.length = l.length → l.length ≤ 12 → Small r → p.length ≤ 207 * j → e.length = j → p ++ cat j r = P → e ++ endsF j p.length r = E → 6000 + r.length ≤ k →
    milestonelaw06_FrameCuts.l0 k l a1 p (e.map fun n : Nat => (n : Int)) (j : Int) = some true := by
  induction r with
  | nil =>
    intro j k p e h1 h2 h3 hs hp he hP hE hk
    rw [cat, List.append_nil] at hP
    rw [endsF, List.append_nil] at hE
    rw [List.length_nil] at h2
    subst hP hE
    rw [show j = l.length by omega]
    exact hfin k (by omega)
  | cons x r ih =>
    intro j k p e h1 h2 h3 hs hp he hP hE hk
    obtain ⟨k, rfl⟩ : ∃ z, k = z + 1 := ⟨k - 1, by omega⟩
    rw [List.length_cons] at h2 hk
    have hw : wrap64 ((j : Int) + 1) = ((j + 1 : Nat) : Int) := by unfold wrap64; omega
    have hd : l.drop (j + 1) = r := by rw [← List.drop_drop, h1]; rfl
    obtain ⟨hx, hxl⟩ := hs x List.mem_cons_self
    have hpk := rpack_is k (sz x.length) (j : Int) x ⟨by omega, by omega⟩ hx (by omega) (takes_sz _ (by omega)) (by omega)
    have hb := fr_bounds j x hxl
    have hem : (e.map fun n : Nat => (n : Int)).length = e.length := List.length_map _
    rw [milestonelaw06_FrameCuts.l0, if_pos (by omega), if_pos (by omega), rdL1_at l r j x h1, show ((j : Nat) : Int) % 256 = (j : Int) by omega, hpk, Option.bind_some]
    show (if p.length + (fr j x).length < _ then _ else _) = _
    rw [if_pos (by omega), Option.bind_some, if_pos (by omega), hw]
    have hmap : (e.map fun n : Nat => (n : Int)) ++ [((p ++ fr j x).length : Int)] = ((e ++ [(p ++ fr j x).length]).map fun n : Nat => (n : Int)) := by simp
    show milestonelaw06_FrameCuts.l0 k l a1 (p ++ fr j x) ((e.map fun n : Nat => (n : Int)) ++ [((p ++ fr j x).length : Int)]) _ = _
    rw [hmap]
    refine ih (j + 1) k (p ++ fr j x) (e ++ [(p ++ fr j x).length]) hd (by omega) h3 (fun y hy => hs y (List.mem_cons_of_mem _ hy)) (by rw [List.length_append]; omega) (by rw [List.length_append, he]; rfl) ?_ ?_ (by omega)
    · rw [List.append_assoc]; exact hP
    · rw [List.append_assoc, List.length_append]; exact hE
theorem fin_good (l : List (List Int)) (a1 : Int) (ha : 0 ≤ a1) (ha2 : a1 < 65536) (hl : l.length ≤ 12) (hs : Small l) (k : Nat) (hk : 6000 ≤ k) :
    milestonelaw06_FrameCuts.l0 k l a1 (cat 0 l) ((endsF 0 0 l).map fun n : Nat => (n : Int)) (l.length : Int) = some true := by
  obtain ⟨k, rfl⟩ : ∃ z, k = z + 1 := ⟨k - 1, by omega⟩
  have hcl := cat_len l 0 hs
  obtain ⟨a, rfl⟩ := Int.eq_ofNat_of_zero_le ha
  have w1 : wrap64 (((cat 0 l).length : Int) + 1) = (((cat 0 l).length + 1 : Nat) : Int) := by unfold wrap64; omega
  have w2 : wrap64 ((a : Nat) : Int) = (a : Int) := by unfold wrap64; omega
  have tm : Int.tmod (a : Int) (((cat 0 l).length + 1 : Nat) : Int) = ((a % ((cat 0 l).length + 1) : Nat) : Int) := rfl
  have hlt : a % ((cat 0 l).length + 1) < (cat 0 l).length + 1 := Nat.mod_lt _ (by omega)
  rw [milestonelaw06_FrameCuts.l0, if_neg (by omega), w1, w2, tm, if_neg (by omega), if_pos (by omega), if_pos (by omega), Int.toNat_natCast]
  generalize a % ((cat 0 l).length + 1) = c at hlt ⊢
  have hqb : isBytes ((cat 0 l).take c) := fun x hx => cat_bytes l 0 hs (by omega) x (List.mem_of_mem_take hx)
  have hql : ((cat 0 l).take c).length = c := by rw [List.length_take]; omega
  obtain ⟨got, g1, g2⟩ := scan_told _ hqb c hql (by omega) l 0 0 k [] hs (by omega) rfl (by omega) (by rw [List.drop_zero]; rfl) (by omega) (by omega)
  unfold frame_Scan.f
  rw [show ((0 : Nat) : Int) = 0 from rfl] at g2
  rw [g2, Option.bind_some]
  exact l1_good c (endsF 0 0 l) got _ _ l 0 0 k rfl (by rw [endsF_len]; omega) (by omega) (by omega) (by omega) g1 rfl rfl (by omega)
theorem FrameCuts : milestonelaw06_FrameCuts.Pure := by
  intro l a1 hl hb ha
  have ha' : 0 ≤ a1 ∧ a1 < 65536 := by simp [Lit.wf, IntKind.signed, IntKind.bits, IntKind.min, IntKind.max] at ha; omega
  have hmax : l.length ≤ 9223372036854775807 := hl
  refine ⟨7000 + l.length, ?_⟩
  unfold milestonelaw06_FrameCuts.f milestonelaw06_short.f
  have hsh := short_loop l l 0 (7000 + l.length) rfl (by omega) hmax (by omega)
  rw [show ((0 : Nat) : Int) = 0 from rfl] at hsh
  rw [awake_is _ (by omega), Option.bind_some, if_pos rfl, hsh, Option.bind_some, show 7000 + l.length = (6999 + l.length) + 1 by omega, milestonelaw06_FrameCuts.j0]
  by_cases hS : (∀ x ∈ l, x.length ≤ 200) ∧ l.length ≤ 12
  · rw [decide_eq_true hS, if_neg (by decide)]
    have hs : Small l := fun x hx => ⟨fun y hy => u8_of _ ((hb x hx).2 y hy), hS.1 x hx⟩
    have h0 := l0_good l a1 (cat 0 l) (endsF 0 0 l) ha'.1 ha'.2 (fin_good l a1 ha'.1 ha'.2 hS.2 hs) l 0 (6999 + l.length) [] [] rfl (by omega) hS.2 hs (by simp) rfl rfl rfl (by omega)
    exact h0
  · rw [decide_eq_false hS, if_pos (show (!false) = true from rfl), awake_is _ (by omega), Option.bind_some]

end Go.Proofs.Ytllcighpfikpkaa.Pure
