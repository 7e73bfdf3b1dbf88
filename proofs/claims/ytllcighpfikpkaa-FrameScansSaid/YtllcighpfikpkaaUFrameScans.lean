/- frames, one behind the other, and then anything: those that are right are told, where the first one that isn't begins, and why.
For every input; no condition is added to the given statement. -/
import Derived.Test.YtllcighpfikpkaaQFrameScansx7
import Derived.Laws.BitsAllLaws
import Derived.OpenShut
import Derived.Lib.Bytes
namespace Go.Proofs.Ytllcighpfikpkaa.Pure
open Go.RowKit Go.Proofs.Ytllcighpfikpkaa.QFrameScans Go.Proofs.YtllcighpfikpkaaW.PrintWords Go.Proofs.YtllcighpfikpkaaW.PrintLast Go.Proofs.YtllcighpfikpkaaW.PrintMore
set_option linter.unusedSimpArgs false
set_option linter.unusedVariables false


/-! ## how many bits a number has -/
abbrev T8 : ByteArray := (⟨#[0, 1, 2, 2, 3, 3, 3, 3, 4, 4, 4, 4, 4, 4, 4, 4, 5, 5, 5, 5, 5, 5, 5, 5, 5, 5, 5, 5, 5, 5, 5, 5, 6, 6, 6, 6, 6, 6, 6, 6, 6, 6, 6, 6, 6, 6, 6, 6, 6, 6, 6, 6, 6, 6, 6, 6, 6, 6, 6, 6, 6, 6, 6, 6, 7, 7, 7, 7, 7, 7, 7, 7, 7, 7, 7, 7, 7, 7, 7, 7, 7, 7, 7, 7, 7, 7, 7, 7, 7, 7, 7, 7, 7, 7, 7, 7, 7, 7, 7, 7, 7, 7, 7, 7, 7, 7, 7, 7, 7, 7, 7, 7, 7, 7, 7, 7, 7, 7, 7, 7, 7, 7, 7, 7, 7, 7, 7, 7, 8, 8, 8, 8, 8, 8, 8, 8, 8, 8, 8, 8, 8, 8, 8, 8, 8, 8, 8, 8, 8, 8, 8, 8, 8, 8, 8, 8, 8, 8, 8, 8, 8, 8, 8, 8, 8, 8, 8, 8, 8, 8, 8, 8, 8, 8, 8, 8, 8, 8, 8, 8, 8, 8, 8, 8, 8, 8, 8, 8, 8, 8, 8, 8, 8, 8, 8, 8, 8, 8, 8, 8, 8, 8, 8, 8, 8, 8, 8, 8, 8, 8, 8, 8, 8, 8, 8, 8, 8, 8, 8, 8, 8, 8, 8, 8, 8, 8, 8, 8, 8, 8, 8, 8, 8, 8, 8, 8, 8, 8, 8, 8, 8, 8, 8, 8, 8, 8, 8, 8, 8, 8, 8, 8, 8, 8, 8, 8]⟩ : ByteArray)
theorem t8_all : ((List.range 256).all fun i => (List.range 9).all fun j => (decide (i < 2 ^ j)) == decide (bt T8 (i : Int) ≤ (j : Int))) = true := by decide +kernel
theorem t8_bd : ((List.range 256).all fun i => decide (0 ≤ bt T8 (i : Int) ∧ bt T8 (i : Int) ≤ 8)) = true := by decide +kernel
theorem t8 (i : Nat) (h : i < 256) : ∃ L : Nat, bt T8 (i : Int) = (L : Int) ∧ L ≤ 8 ∧ ∀ j, j ≤ 8 → (i < 2 ^ j ↔ L ≤ j) := by
  have h1 : ((List.range 9).all fun j => (decide (i < 2 ^ j)) == decide (bt T8 (i : Int) ≤ (j : Int))) = true := List.all_eq_true.1 t8_all i (List.mem_range.2 h)
  have h2 : 0 ≤ bt T8 (i : Int) ∧ bt T8 (i : Int) ≤ 8 := of_decide_eq_true (List.all_eq_true.1 t8_bd i (List.mem_range.2 h))
  refine ⟨(bt T8 (i : Int)).toNat, by omega, by omega, fun j hj => ?_⟩
  have h3 : ((decide (i < 2 ^ j)) == decide (bt T8 (i : Int) ≤ (j : Int))) = true := List.all_eq_true.1 h1 j (List.mem_range.2 (by omega))
  rw [beq_iff_eq, decide_eq_decide] at h3
  omega
theorem up (c B w n L : Nat) (hB : 2 ^ c = B) (hc : B ≤ n) (h : ∀ j, j ≤ w → (n / B < 2 ^ j ↔ L ≤ j)) : ∀ j, j ≤ w + c → (n < 2 ^ j ↔ L + c ≤ j) := by
  intro j hj
  subst hB
  by_cases hcj : c ≤ j
  · obtain ⟨d, rfl⟩ : ∃ d, j = d + c := ⟨j - c, by omega⟩
    have := h d (by omega)
    rw [Nat.div_lt_iff_lt_mul (Nat.two_pow_pos c), ← Nat.pow_add] at this
    omega
  · have : 2 ^ j ≤ 2 ^ c := Nat.pow_le_pow_right (by omega) (by omega)
    omega
theorem wide (w n L : Nat) (hn : n < 2 ^ w) (hL : L ≤ w) (h : ∀ j, j ≤ w → (n < 2 ^ j ↔ L ≤ j)) : ∀ j, (n < 2 ^ j ↔ L ≤ j) := by
  intro j
  by_cases hj : j ≤ w
  · exact h j hj
  · have : 2 ^ w ≤ 2 ^ j := Nat.pow_le_pow_right (by omega) (by omega)
    omega
theorem len_low (k n : Nat) (c : Int) (hc : 0 ≤ c ∧ c ≤ 32) (hn : n < 4294967296) : ∃ L : Nat, bits_Len64.j0 (k + 1) (n : Int) c = some (c + L) ∧ L ≤ 32 ∧ ∀ j, (n < 2 ^ j ↔ L ≤ j) := by
  rw [bits_Len64.j0]
  by_cases a : n ≥ 65536
  · rw [if_pos (by omega)]
    by_cases b : n / 65536 ≥ 256
    · obtain ⟨L, hL, h8, hj⟩ := t8 (n / 65536 / 256) (by omega)
      have e : ((n : Int) / 65536 / 256) % 256 = ((n / 65536 / 256 : Nat) : Int) := by omega
      rw [if_pos (by omega), if_pos (by omega), if_pos (by omega), e, hL]
      refine ⟨L + 8 + 16, ?_, by omega, wide 32 n _ (by omega) (by omega) (up 16 65536 16 n (L + 8) rfl (by omega) (up 8 256 8 (n / 65536) L rfl (by omega) hj))⟩
      refine congrArg some ?_
      unfold wrap64
      omega
    · obtain ⟨L, hL, h8, hj⟩ := t8 (n / 65536) (by omega)
      have e : ((n : Int) / 65536) % 256 = ((n / 65536 : Nat) : Int) := by omega
      rw [if_neg (by omega), if_pos (by omega), if_pos (by omega), e, hL]
      refine ⟨L + 16, ?_, by omega, wide 24 n _ (by omega) (by omega) (up 16 65536 8 n L rfl (by omega) hj)⟩
      refine congrArg some ?_
      unfold wrap64
      omega
  · rw [if_neg (by omega)]
    by_cases b : n ≥ 256
    · obtain ⟨L, hL, h8, hj⟩ := t8 (n / 256) (by omega)
      have e : ((n : Int) / 256) % 256 = ((n / 256 : Nat) : Int) := by omega
      rw [if_pos (by omega), if_pos (by omega), if_pos (by omega), e, hL]
      refine ⟨L + 8, ?_, by omega, wide 16 n _ (by omega) (by omega) (up 8 256 8 n L rfl (by omega) hj)⟩
      refine congrArg some ?_
      unfold wrap64
      omega
    · obtain ⟨L, hL, h8, hj⟩ := t8 n (by omega)
      have e : (n : Int) % 256 = (n : Int) := by omega
      rw [if_neg (by omega), if_pos (by omega), if_pos (by omega), e, hL]
      refine ⟨L, ?_, by omega, wide 8 n _ (by omega) (by omega) hj⟩
      refine congrArg some ?_
      unfold wrap64
      omega
theorem len_is (k n : Nat) (hn : n < 18446744073709551616) : ∃ L : Nat, bits_Len64.f (k + 1) (n : Int) = some (L : Int) ∧ L ≤ 64 ∧ ∀ j, (n < 2 ^ j ↔ L ≤ j) := by
  unfold bits_Len64.f
  by_cases a : n ≥ 4294967296
  · obtain ⟨L, hL, h32, hj⟩ := len_low k (n / 4294967296) 32 (by omega) (by omega)
    have e : (n : Int) / 4294967296 = ((n / 4294967296 : Nat) : Int) := by omega
    rw [if_pos (by omega), e, hL]
    refine ⟨L + 32, ?_, by omega, wide 64 n _ (by omega) (by omega) (up 32 4294967296 32 n L rfl (by omega) (fun j _ => hj j))⟩
    refine congrArg some ?_
    omega
  · obtain ⟨L, hL, h32, hj⟩ := len_low k n 0 (by omega) (by omega)
    rw [if_neg (by omega), hL]
    exact ⟨L, congrArg some (by omega), by omega, hj⟩

/-! ## how many bytes it takes -/
theorem size_is (k n : Nat) (hn : n < 18446744073709551616) : ∃ s : Nat, coin_Size.f (k + 1) (n : Int) = some (s : Int) ∧ 1 ≤ s ∧ s ≤ 9 ∧ ∀ i, 1 ≤ i → i ≤ 8 → (s ≤ i ↔ n < 2 ^ (7 * i)) := by
  obtain ⟨L, hL, h64, hj⟩ := len_is k n hn
  refine ⟨max 1 (min 9 ((L + 6) / 7)), ?_, by omega, by omega, fun i h1 h8 => ?_⟩
  · unfold coin_Size.f
    rw [hL, Option.bind_some]
    refine congrArg some ?_
    have e : wrap64 (Int.tdiv (wrap64 ((L : Int) + 6)) 7) = (((L + 6) / 7 : Nat) : Int) := by
      have : wrap64 ((L : Int) + 6) = ((L + 6 : Nat) : Int) := by unfold wrap64; omega
      rw [this, Int.tdiv_eq_ediv_of_nonneg (by omega)]
      unfold wrap64
      omega
    rw [e]
    unfold mx mn
    (repeat' split) <;> omega
  · rw [hj]
    omega

/-! ## a number as bytes -/
def tl (n : Nat) : Nat → List Int
  | 0 => []
  | i + 1 => ((n / 256 ^ i % 256 : Nat) : Int) :: tl n i
def hd1 (s n : Nat) : Int := if s = 9 then 255 else ((256 - 2 ^ (9 - s) + n / 256 ^ (s - 1) : Nat) : Int)
def cb (s n : Nat) : List Int := hd1 s n :: tl n (s - 1)
/-- how many bytes n takes -/
def Takes (s n : Nat) : Prop := 1 ≤ s ∧ s ≤ 9 ∧ ∀ i, 1 ≤ i → i ≤ 8 → (s ≤ i ↔ n < 2 ^ (7 * i))
theorem tl_length (n : Nat) : ∀ i, (tl n i).length = i
  | 0 => rfl
  | i + 1 => by simp [tl, tl_length n i]
theorem shr_is (n i : Nat) (hi : i ≤ 8) : (shr .u64 (n : Int) ((8 * i : Nat) : Int)) % 256 = ((n / 256 ^ i % 256 : Nat) : Int) := by
  unfold shr
  have e : min ((8 * i : Nat) : Int).toNat IntKind.u64.bits = 8 * i := by
    have : IntKind.u64.bits = 64 := rfl
    omega
  have e2 : (2 : Int) ^ (8 * i) = ((256 ^ i : Nat) : Int) := by
    rw [show (256 : Nat) = 2 ^ 8 from rfl, ← Nat.pow_mul]
    simp
  rw [e, e2]
  omega
theorem put_loop (n : Nat) : ∀ i : Nat, i ≤ 8 → ∀ (k : Nat) (acc : List Int), i < k → acc.length + i < 140737488355328 → coin_Put.l0 k acc (n : Int) ((i : Int) - 1) = some (acc ++ tl n i) := by
  intro i
  induction i with
  | zero =>
    intro _ k acc hk _
    obtain ⟨k, rfl⟩ : ∃ m, k = m + 1 := ⟨k - 1, by omega⟩
    rw [coin_Put.l0, if_neg (by omega), tl, List.append_nil]
  | succ i ih =>
    intro hi k acc hk hl
    obtain ⟨k, rfl⟩ : ∃ m, k = m + 1 := ⟨k - 1, by omega⟩
    have e1 : wrap64 (8 * (((i + 1 : Nat) : Int) - 1)) = ((8 * i : Nat) : Int) := by unfold wrap64; omega
    have e2 : wrap64 (((i + 1 : Nat) : Int) - 1 - 1) = (i : Int) - 1 := by unfold wrap64; omega
    rw [coin_Put.l0, if_pos (by omega), e1, e2, if_pos (by omega), if_pos (by omega), shr_is n i (by omega)]
    rw [ih (by omega) k (acc ++ [((n / 256 ^ i % 256 : Nat) : Int)]) (by omega) (by simp; omega), tl, List.append_assoc]
    rfl
theorem lead_all : ((List.range 8).all fun q => (List.range 128).all fun h => (!decide (h < 2 ^ (7 - q))) || decide (bits .or .u8 (shl .u8 255 ((8 - q : Nat) : Int)) (h : Int) = ((256 - 2 ^ (8 - q) + h : Nat) : Int))) = true := by decide +kernel
theorem lead_is (q h : Nat) (hq : q < 8) (hh : h < 2 ^ (7 - q)) : bits .or .u8 (shl .u8 255 ((8 - q : Nat) : Int)) (h : Int) = ((256 - 2 ^ (8 - q) + h : Nat) : Int) := by
  have h7 : 2 ^ (7 - q) ≤ 2 ^ 7 := Nat.pow_le_pow_right (by omega) (by omega)
  have h1 : ((List.range 128).all fun h => (!decide (h < 2 ^ (7 - q))) || decide (bits .or .u8 (shl .u8 255 ((8 - q : Nat) : Int)) (h : Int) = ((256 - 2 ^ (8 - q) + h : Nat) : Int))) = true := List.all_eq_true.1 lead_all q (List.mem_range.2 hq)
  have h2 : ((!decide (h < 2 ^ (7 - q))) || decide (bits .or .u8 (shl .u8 255 ((8 - q : Nat) : Int)) (h : Int) = ((256 - 2 ^ (8 - q) + h : Nat) : Int))) = true := List.all_eq_true.1 h1 h (List.mem_range.2 (by omega))
  rw [decide_eq_true hh, Bool.not_true, Bool.false_or] at h2
  exact of_decide_eq_true h2
theorem high_small (s n : Nat) (h1 : 1 ≤ s) (h8 : s ≤ 8) (hn : n < 2 ^ (7 * s)) : n / 256 ^ (s - 1) < 2 ^ (8 - s) := by
  apply Nat.div_lt_of_lt_mul
  rw [show (256 : Nat) = 2 ^ 8 from rfl, ← Nat.pow_mul, ← Nat.pow_add]
  rwa [show 8 * (s - 1) + (8 - s) = 7 * s by omega]
theorem put_of (k s n : Nat) (p : List Int) (hs : Takes s n) (hz : coin_Size.f (k + 11) (n : Int) = some (s : Int)) (hp : p.length + 9 < 140737488355328) : coin_Put.f (k + 11) p (n : Int) = some (p ++ cb s n) := by
  obtain ⟨h1, h9, hs⟩ := hs
  have e3 : wrap64 ((s : Int) - 2) = ((s - 1 : Nat) : Int) - 1 := by unfold wrap64; omega
  unfold coin_Put.f
  rw [hz, Option.bind_some]
  by_cases h : s = 9
  · rw [if_pos (by omega), if_pos (by omega), coin_Put.j0, e3, put_loop n (s - 1) (by omega) _ _ (by omega) (by simp; omega), List.append_assoc]
    unfold cb hd1
    rw [if_pos h]
    rfl
  · have hn := (hs s h1 (by omega)).1 (Nat.le_refl _)
    have e1 : wrap64 (9 - (s : Int)) = ((8 - (s - 1) : Nat) : Int) := by unfold wrap64; omega
    have e2 : wrap64 (8 * (wrap64 ((s : Int) - 1))) = ((8 * (s - 1) : Nat) : Int) := by unfold wrap64; omega
    have hh := high_small s n h1 (by omega) hn
    have hb : n / 256 ^ (s - 1) < 2 ^ (7 - (s - 1)) := by rwa [show 7 - (s - 1) = 8 - s by omega]
    have h7 : 2 ^ (7 - (s - 1)) ≤ 2 ^ 7 := Nat.pow_le_pow_right (by omega) (by omega)
    rw [if_neg (by omega), e1, e2, if_pos (by omega), if_pos (by omega), if_pos (by omega), shr_is n (s - 1) (by omega), Nat.mod_eq_of_lt (by omega), lead_is (s - 1) _ (by omega) hb, coin_Put.j0, e3, put_loop n (s - 1) (by omega) _ _ (by omega) (by simp; omega), List.append_assoc]
    unfold cb hd1
    rw [if_neg h, show 8 - (s - 1) = 9 - s by omega]
    rfl
theorem put_is (k n : Nat) (hn : n < 18446744073709551616) : ∃ s, Takes s n ∧ coin_Size.f (k + 11) (n : Int) = some (s : Int) ∧ ∀ p : List Int, p.length + 9 < 140737488355328 → coin_Put.f (k + 11) p (n : Int) = some (p ++ cb s n) := by
  obtain ⟨s, hz, h1, h9, hs⟩ := size_is (k + 10) n hn
  exact ⟨s, ⟨h1, h9, hs⟩, hz, fun p hp => put_of k s n p ⟨h1, h9, hs⟩ hz hp⟩

/-! ## the order of bytes -/
def ltL : List Int → List Int → Bool
  | _, [] => false
  | [], _ :: _ => true
  | a :: x, b :: y => decide (a < b) || (decide (a = b) && ltL x y)
def isBytes (l : List Int) : Prop := ∀ x ∈ l, 0 ≤ x ∧ x < 256
theorem byte_lt (a b : Int) (ha : 0 ≤ a ∧ a < 256) (hb : 0 ≤ b ∧ b < 256) : (UInt8.ofNat a.toNat < UInt8.ofNat b.toNat) ↔ a < b := by
  rw [UInt8.lt_iff_toNat_lt, UInt8.toNat_ofNat', UInt8.toNat_ofNat', Nat.mod_eq_of_lt (by omega), Nat.mod_eq_of_lt (by omega)]
  omega
theorem byte_eq (a b : Int) (ha : 0 ≤ a ∧ a < 256) (hb : 0 ≤ b ∧ b < 256) : (UInt8.ofNat a.toNat = UInt8.ofNat b.toNat) ↔ a = b := by
  rw [← UInt8.toNat_inj, UInt8.toNat_ofNat', UInt8.toNat_ofNat', Nat.mod_eq_of_lt (by omega), Nat.mod_eq_of_lt (by omega)]
  omega
theorem less_is : ∀ (x y : List Int), isBytes x → isBytes y → Op.bytesLess (x.map fun n => UInt8.ofNat n.toNat) (y.map fun n => UInt8.ofNat n.toNat) = ltL x y
  | x, [], _, _ => by cases x <;> rfl
  | [], _ :: _, _, _ => rfl
  | a :: x, b :: y, hx, hy => by
    have ih := less_is x y (fun z hz => hx z (List.mem_cons_of_mem _ hz)) (fun z hz => hy z (List.mem_cons_of_mem _ hz))
    have ha := hx a List.mem_cons_self
    have hb := hy b List.mem_cons_self
    simp only [List.map_cons, Op.bytesLess, ltL]
    rw [ih]
    congr 1
    · rw [decide_eq_decide]; exact byte_lt a b ha hb
    · congr 1
      rw [Bool.eq_iff_iff, beq_iff_eq, decide_eq_true_iff]; exact byte_eq a b ha hb
theorem same_is : ∀ (x y : List Int), isBytes x → isBytes y → ((x.map fun n => UInt8.ofNat n.toNat) = (y.map fun n => UInt8.ofNat n.toNat) ↔ x = y)
  | [], [], _, _ => by simp
  | [], _ :: _, _, _ => by simp
  | _ :: _, [], _, _ => by simp
  | a :: x, b :: y, hx, hy => by
    have ih := same_is x y (fun z hz => hx z (List.mem_cons_of_mem _ hz)) (fun z hz => hy z (List.mem_cons_of_mem _ hz))
    rw [List.map_cons, List.map_cons, List.cons.injEq, List.cons.injEq, ih, byte_eq a b (hx a List.mem_cons_self) (hy b List.mem_cons_self)]
theorem tl_bytes (n : Nat) : ∀ i, isBytes (tl n i)
  | 0 => by intro x hx; simp [tl] at hx
  | i + 1 => by
    intro x hx
    rw [tl, List.mem_cons] at hx
    rcases hx with rfl | hx
    · omega
    · exact tl_bytes n i x hx
theorem hd1_bytes (s n : Nat) (h : Takes s n) : 0 ≤ hd1 s n ∧ hd1 s n < 256 := by
  obtain ⟨h1, h9, hs⟩ := h
  unfold hd1
  by_cases h : s = 9
  · rw [if_pos h]; omega
  · rw [if_neg h]
    have hh := high_small s n h1 (by omega) ((hs s h1 (by omega)).1 (Nat.le_refl _))
    have e : 2 ^ (9 - s) = 2 * 2 ^ (8 - s) := by rw [show 9 - s = (8 - s) + 1 by omega, Nat.pow_succ]; omega
    have h8 : 2 ^ (8 - s) ≤ 2 ^ 7 := Nat.pow_le_pow_right (by omega) (by omega)
    generalize n / 256 ^ (s - 1) = q at hh ⊢
    omega
theorem cb_bytes (s n : Nat) (h : Takes s n) : isBytes (cb s n) := by
  intro x hx
  rw [cb, List.mem_cons] at hx
  rcases hx with rfl | hx
  · exact hd1_bytes s n h
  · exact tl_bytes n _ x hx
theorem lex_nat (X a b : Nat) (hX : 0 < X) : (a < b) ↔ (a / X < b / X ∨ a / X = b / X ∧ a % X < b % X) := by
  have ha := Nat.div_add_mod a X
  have hb := Nat.div_add_mod b X
  have ra := Nat.mod_lt a hX
  have rb := Nat.mod_lt b hX
  constructor
  · intro h
    by_cases e : a / X < b / X
    · exact .inl e
    · have e1 : b / X ≤ a / X := by omega
      have e2 : a / X ≤ b / X := Nat.div_le_div_right (by omega)
      have e3 : a / X = b / X := by omega
      refine .inr ⟨e3, ?_⟩
      rw [e3] at ha
      omega
  · rintro (h | ⟨h, h2⟩)
    · have : X * (a / X) + X ≤ X * (b / X) := by
        have := Nat.mul_le_mul_left X h
        rw [Nat.mul_succ] at this
        exact this
      omega
    · rw [h] at ha
      omega
theorem tl_lt (a b : Nat) : ∀ i, ltL (tl a i) (tl b i) = decide (a % 256 ^ i < b % 256 ^ i)
  | 0 => by simp [tl, ltL, Nat.mod_one]
  | i + 1 => by
    rw [tl, tl, ltL, tl_lt a b i]
    have hX : 0 < 256 ^ i := Nat.pow_pos (by omega)
    have h := lex_nat (256 ^ i) (a % 256 ^ (i + 1)) (b % 256 ^ (i + 1)) hX
    have d : ∀ n : Nat, n % 256 ^ (i + 1) / 256 ^ i = n / 256 ^ i % 256 := by
      intro n
      rw [Nat.pow_succ, Nat.mod_mul_right_div_self]
    have m : ∀ n : Nat, n % 256 ^ (i + 1) % 256 ^ i = n % 256 ^ i := by
      intro n
      rw [Nat.pow_succ, Nat.mod_mul_right_mod]
    rw [d, d, m, m] at h
    rw [← Bool.decide_and, ← Bool.decide_or, decide_eq_decide, h]
    omega
theorem cb_lt (s t a b : Nat) (hs : Takes s a) (ht : Takes t b) (ha : a < 18446744073709551616) (hb : b < 18446744073709551616) : ltL (cb s a) (cb t b) = decide (a < b) := by
  have far : ∀ (s t a b : Nat), Takes s a → Takes t b → s < t → a < b ∧ hd1 s a < hd1 t b := by
    intro s t a b hs ht hst
    obtain ⟨h1, h9, hs⟩ := hs
    obtain ⟨g1, g9, ht⟩ := ht
    have l1 := (hs s h1 (by omega)).1 (Nat.le_refl _)
    have l2 : ¬ b < 2 ^ (7 * s) := fun h => by have := (ht s h1 (by omega)).2 h; omega
    refine ⟨by omega, ?_⟩
    have hh := high_small s a h1 (by omega) l1
    have e : 2 ^ (9 - s) = 2 * 2 ^ (8 - s) := by rw [show 9 - s = (8 - s) + 1 by omega, Nat.pow_succ]; omega
    have p : 0 < 2 ^ (8 - s) := Nat.two_pow_pos _
    have h8 : 2 ^ (8 - s) ≤ 2 ^ 7 := Nat.pow_le_pow_right (by omega) (by omega)
    unfold hd1
    rw [if_neg (by omega)]
    by_cases h : t = 9
    · rw [if_pos h]; omega
    · rw [if_neg h]
      have : 2 ^ (9 - t) ≤ 2 ^ (8 - s) := Nat.pow_le_pow_right (by omega) (by omega)
      generalize a / 256 ^ (s - 1) = q at hh ⊢
      generalize b / 256 ^ (t - 1) = q2
      omega
  rcases Nat.lt_trichotomy s t with h | h | h
  · obtain ⟨h1, h2⟩ := far s t a b hs ht h
    rw [decide_eq_true h1]
    simp [cb, ltL, h2]
  · subst h
    rw [cb, cb, ltL, tl_lt]
    have hX : 0 < 256 ^ (s - 1) := Nat.pow_pos (by omega)
    have h := lex_nat (256 ^ (s - 1)) a b hX
    rw [← Bool.decide_and, ← Bool.decide_or, decide_eq_decide, h]
    unfold hd1
    by_cases h9 : s = 9
    · subst h9
      rw [if_pos rfl, if_pos rfl]
      have e : 256 ^ (9 - 1) = 18446744073709551616 := rfl
      rw [e, Nat.div_eq_of_lt ha, Nat.div_eq_of_lt hb]
      omega
    · rw [if_neg h9, if_neg h9]
      omega
  · obtain ⟨h1, h2⟩ := far t s b a ht hs h
    rw [decide_eq_false (by omega)]
    have : ¬ hd1 s a < hd1 t b := by omega
    have h3 : ¬ hd1 s a = hd1 t b := by omega
    simp [cb, ltL, this, h3]
theorem ltL_irrefl : ∀ x : List Int, ltL x x = false
  | [] => rfl
  | a :: x => by simp [ltL, ltL_irrefl x]
theorem cb_inj (s t a b : Nat) (hs : Takes s a) (ht : Takes t b) (ha : a < 18446744073709551616) (hb : b < 18446744073709551616) (h : cb s a = cb t b) : a = b := by
  have h1 := cb_lt s t a b hs ht ha hb
  have h2 := cb_lt t s b a ht hs hb ha
  rw [h, ltL_irrefl] at h1
  rw [h, ltL_irrefl] at h2
  have h1 := of_decide_eq_false h1.symm
  have h2 := of_decide_eq_false h2.symm
  omega
theorem takes_one (s t a : Nat) (hs : Takes s a) (ht : Takes t a) : s = t := by
  obtain ⟨h1, h9, hs⟩ := hs
  obtain ⟨g1, g9, ht⟩ := ht
  by_cases e : s ≤ 8
  · have := (ht s h1 e).2 ((hs s h1 e).1 (Nat.le_refl _))
    by_cases f : t ≤ 8
    · have := (hs t g1 f).2 ((ht t g1 f).1 (Nat.le_refl _))
      omega
    · omega
  · by_cases f : t ≤ 8
    · have := (hs t g1 f).2 ((ht t g1 f).1 (Nat.le_refl _))
      omega
    · omega

theorem str_list (x : List Int) : (strOfNums x).toList = x.map fun n => UInt8.ofNat n.toNat := by
  rw [Lib.strOfNums_toList]
  rfl
theorem wr64 (n : Int) : IntKind.u64.wrap n = n % 18446744073709551616 := by
  simp [IntKind.wrap, IntKind.signed, IntKind.bits]

/-! ## the number ahead of some bytes -/
def lzOk (b : Nat) : Bool :=
  match bits_LeadingZeros8.f (Go.bits .xor .u8 IntKind.u8.max (b : Int)) with
  | some t => decide (0 ≤ t ∧ t ≤ 8) && (decide (t = 8) || (decide (0 ≤ Go.bits .and .u8 (b : Int) (shr .u8 255 (t + 1))) && decide ((Go.bits .and .u8 (b : Int) (shr .u8 255 (t + 1))).toNat < 2 ^ (7 - t.toNat)) && decide (b = 256 - 2 ^ (8 - t.toNat) + (Go.bits .and .u8 (b : Int) (shr .u8 255 (t + 1))).toNat))) && (!decide (t = 8) || decide (b = 255))
  | none => false
theorem lz_all : ((List.range 256).all lzOk) = true := by decide +kernel
theorem lz_is (b : Nat) (hb : b < 256) : ∃ K : Nat, 1 ≤ K ∧ K ≤ 9 ∧ bits_LeadingZeros8.f (Go.bits .xor .u8 IntKind.u8.max (b : Int)) = some ((K : Int) - 1) ∧ (K = 9 → b = 255) ∧
    (K ≤ 8 → ∃ h : Nat, Go.bits .and .u8 (b : Int) (shr .u8 255 (K : Int)) = (h : Int) ∧ h < 2 ^ (8 - K) ∧ b = 256 - 2 ^ (9 - K) + h) := by
  have h : lzOk b = true := List.all_eq_true.1 lz_all b (List.mem_range.2 hb)
  unfold lzOk at h
  cases e : bits_LeadingZeros8.f (Go.bits .xor .u8 IntKind.u8.max (b : Int)) with
  | none => rw [e] at h; simp at h
  | some t =>
    rw [e] at h
    simp only [Bool.and_eq_true, Bool.or_eq_true, decide_eq_true_eq, Bool.not_eq_true', decide_eq_false_iff_not] at h
    obtain ⟨⟨⟨h0, h8⟩, h1⟩, h2⟩ := h
    refine ⟨(t + 1).toNat, by omega, by omega, by refine congrArg some ?_; omega, fun h => ?_, fun h => ?_⟩
    · rcases h2 with h2 | h2
      · omega
      · exact h2
    · rcases h1 with h1 | ⟨⟨h1, h3⟩, h4⟩
      · omega
      · have e1 : (((t + 1).toNat : Nat) : Int) = t + 1 := by omega
        rw [e1]
        refine ⟨(Go.bits .and .u8 (b : Int) (shr .u8 255 (t + 1))).toNat, by omega, ?_, ?_⟩
        · rwa [show 8 - (t + 1).toNat = 7 - t.toNat by omega]
        · rwa [show 9 - (t + 1).toNat = 8 - t.toNat by omega]
/-- bytes as one number, behind v -/
def foldv (v : Nat) : List Int → Nat
  | [] => v
  | b :: q => foldv (v * 256 + b.toNat) q
theorem foldv_lt : ∀ (q : List Int) (v m : Nat), isBytes q → v < m → foldv v q < m * 256 ^ q.length
  | [], v, m, _, h => by simpa [foldv] using h
  | b :: q, v, m, hq, h => by
    have hb := hq b List.mem_cons_self
    have := foldv_lt q (v * 256 + b.toNat) (m * 256) (fun z hz => hq z (List.mem_cons_of_mem _ hz)) (by omega)
    rw [foldv, List.length_cons, Nat.pow_succ]
    rwa [Nat.mul_assoc, Nat.mul_comm 256] at this
theorem foldv_tl (n : Nat) : ∀ m, foldv (n / 256 ^ m) (tl n m) = n
  | 0 => by simp [tl, foldv]
  | m + 1 => by
    rw [tl, foldv]
    have e : n / 256 ^ (m + 1) * 256 + ((n / 256 ^ m % 256 : Nat) : Int).toNat = n / 256 ^ m := by
      rw [Nat.pow_succ, ← Nat.div_div_eq_div_mul]
      omega
    rw [e, foldv_tl n m]
theorem tl_foldv : ∀ (q : List Int) (v : Nat), isBytes q → tl (foldv v q) q.length = q ∧ foldv v q / 256 ^ q.length = v
  | [], v, _ => by simp [tl, foldv]
  | b :: q, v, hq => by
    have hb := hq b List.mem_cons_self
    obtain ⟨h1, h2⟩ := tl_foldv q (v * 256 + b.toNat) (fun z hz => hq z (List.mem_cons_of_mem _ hz))
    rw [foldv, List.length_cons, tl, h1, h2, Nat.pow_succ, ← Nat.div_div_eq_div_mul, h2]
    refine ⟨?_, by omega⟩
    have : (((v * 256 + b.toNat) % 256 : Nat) : Int) = b := by omega
    rw [this]
theorem or_join (x : Nat) (b : Int) (hx : x < 72057594037927936) (h0 : 0 ≤ b) (h1 : b < 256) : Go.bits .or .u64 (IntKind.u64.wrap ((x : Int) * 256)) (IntKind.u64.wrap b) = ((x * 256 + b.toNat : Nat) : Int) := by
  have e1 : IntKind.u64.wrap ((x : Int) * 256) = ((x * 256 : Nat) : Int) := by
    rw [wr64]; omega
  have e2 : IntKind.u64.wrap b = ((b.toNat : Nat) : Int) := by
    rw [wr64]; omega
  rw [e1, e2, u64_or_nat _ _ (by omega) (by omega), nat_join 8 (x * 256) b.toNat (by omega) (by omega)]
theorem rd_drop (q : List Int) (i : Nat) (hi : i < q.length) : q.drop i = rd q i :: q.drop (i + 1) := by
  rw [List.drop_eq_getElem_cons hi]
  congr 1
  unfold rd
  simp [List.getD_eq_getElem?_getD, List.getElem?_eq_getElem hi]
theorem get_loop (q : List Int) (hq : isBytes q) (hl : q.length ≤ 8) (K : Int) (d : Nat) : ∀ (i v k : Nat), i + d = q.length → v < 256 ^ (8 - d) → d + 12 < k →
    ∃ s, Takes s (foldv v (q.drop i)) ∧ coin_Get.l0 k K (v : Int) q (q.length : Int) (i : Int) = if (s : Int) = K then some (((foldv v (q.drop i) : Nat) : Int), K, 0) else some (0, 0, 4) := by
  induction d with
  | zero =>
    intro i v k hi hv hk
    obtain ⟨k, rfl⟩ : ∃ m, k = m + 12 := ⟨k - 12, by omega⟩
    have e : q.drop i = [] := List.drop_eq_nil_of_le (by omega)
    obtain ⟨s, hs, hz, _⟩ := put_is k v (by have : 256 ^ (8 - 0) = 18446744073709551616 := rfl; omega)
    refine ⟨s, by rw [e]; exact hs, ?_⟩
    rw [coin_Get.l0, if_neg (by omega), hz, Option.bind_some, e]
    rfl
  | succ d ih =>
    intro i v k hi hv hk
    obtain ⟨k, rfl⟩ : ∃ m, k = m + 1 := ⟨k - 1, by omega⟩
    have hb := hq (rd q i) (by
      have := rd_drop q i (by omega)
      have h : rd q i ∈ q.drop i := by rw [this]; exact List.mem_cons_self
      exact List.mem_of_mem_drop h)
    have hp : 256 ^ (8 - (d + 1)) ≤ 256 ^ 7 := Nat.pow_le_pow_right (by omega) (by omega)
    have hp2 : 256 ^ 7 = 72057594037927936 := rfl
    have e1 : wrap64 ((i : Int) + 1) = ((i + 1 : Nat) : Int) := by unfold wrap64; omega
    have hv' : v * 256 + (rd q i).toNat < 256 ^ (8 - d) := by
      rw [show 8 - d = (8 - (d + 1)) + 1 by omega, Nat.pow_succ]
      omega
    obtain ⟨s, hs, h⟩ := ih (i + 1) (v * 256 + (rd q i).toNat) k (by omega) hv' (by omega)
    refine ⟨s, ?_, ?_⟩
    · rw [rd_drop q i (by omega), foldv]; exact hs
    · rw [coin_Get.l0, if_pos (by omega), if_pos (by omega), if_pos (by omega), or_join v _ (by omega) hb.1 hb.2, e1, h, rd_drop q i (by omega), foldv]
/-- what is ahead of bytes whose first one is b -/
theorem get_is (k : Nat) (b : Nat) (q : List Int) (hb : b < 256) (hq : isBytes q) (hl : q.length < 140737488355328) : ∃ K h : Nat, 1 ≤ K ∧ K ≤ 9 ∧ (K = 9 → b = 255 ∧ h = 0) ∧ (K ≤ 8 → h < 2 ^ (8 - K) ∧ b = 256 - 2 ^ (9 - K) + h) ∧
    ((q.length + 1 < K ∧ coin_Get.f (k + 25) ((b : Int) :: q) = some (0, 0, 5)) ∨
      (K ≤ q.length + 1 ∧ ∃ s, Takes s (foldv h (q.take (K - 1))) ∧ coin_Get.f (k + 25) ((b : Int) :: q) = if s = K then some (((foldv h (q.take (K - 1)) : Nat) : Int), (K : Int), 0) else some (0, 0, 4))) := by
  obtain ⟨K, h1, h9, hz, hk9, hk8⟩ := lz_is b hb
  have r0 : rd ((b : Int) :: q) 0 = (b : Int) := rfl
  have e1 : wrap64 ((K : Int) - 1 + 1) = (K : Int) := by unfold wrap64; omega
  have hlen : ((((b : Int) :: q).length : Nat) : Int) = ((q.length + 1 : Nat) : Int) := rfl
  have tail : ∀ h : Nat, h < 256 ^ (8 - (K - 1)) → K ≤ q.length + 1 → ∃ s, Takes s (foldv h (q.take (K - 1))) ∧ coin_Get.j0 (k + 25) ((b : Int) :: q) (K : Int) (h : Int) = if s = K then some (((foldv h (q.take (K - 1)) : Nat) : Int), (K : Int), 0) else some (0, 0, 4) := by
    intro h hh hK
    have ed : ((((b : Int) :: q).take ((K : Nat) : Int).toNat).drop 1) = q.take (K - 1) := by
      rw [Int.toNat_natCast]
      obtain ⟨K, rfl⟩ : ∃ m, K = m + 1 := ⟨K - 1, by omega⟩
      rfl
    have ll : (q.take (K - 1)).length = K - 1 := by rw [List.length_take]; omega
    obtain ⟨s, hs, h2⟩ := get_loop (q.take (K - 1)) (fun z hz => hq z (List.mem_of_mem_take hz)) (by omega) (K : Int) (K - 1) 0 h (k + 24) (by omega) hh (by omega)
    refine ⟨s, by simpa using hs, ?_⟩
    have h2' : coin_Get.l0 (k + 24) (K : Int) (h : Int) (q.take (K - 1)) ((q.take (K - 1)).length : Int) 0 = if (s : Int) = (K : Int) then some (((foldv h ((q.take (K - 1)).drop 0) : Nat) : Int), (K : Int), 0) else some (0, 0, 4) := h2
    rw [coin_Get.j0, if_pos (by omega), if_pos (by omega), ed, h2', List.drop_zero]
    by_cases e : s = K
    · rw [if_pos (by omega), if_pos e]
    · rw [if_neg (by omega), if_neg e]
  by_cases h8 : K ≤ 8
  · obtain ⟨h, he, hh, hbe⟩ := hk8 h8
    refine ⟨K, h, h1, h9, fun e => by omega, fun _ => ⟨hh, hbe⟩, ?_⟩
    by_cases hK : q.length + 1 < K
    · refine .inl ⟨hK, ?_⟩
      unfold coin_Get.f
      rw [if_neg (by omega), if_pos (by omega), r0, hz, Option.bind_some, e1, if_pos (by omega)]
    · refine .inr ⟨by omega, ?_⟩
      have hh2 : h < 256 ^ (8 - (K - 1)) := by
        have a : 2 ^ (8 - K) ≤ 2 ^ (8 * (8 - (K - 1))) := Nat.pow_le_pow_right (by omega) (by omega)
        rw [show (256 : Nat) = 2 ^ 8 from rfl, ← Nat.pow_mul]
        omega
      have hh3 : 2 ^ (8 - K) ≤ 2 ^ 8 := Nat.pow_le_pow_right (by omega) (by omega)
      obtain ⟨s, hs, h2⟩ := tail h hh2 (by omega)
      refine ⟨s, hs, ?_⟩
      unfold coin_Get.f
      rw [if_neg (by omega), if_pos (by omega), r0, hz, Option.bind_some, e1, if_neg (by omega), if_pos (by omega), if_pos (by omega), he, wr64, show ((h : Int) % 18446744073709551616) = (h : Int) by omega, h2]
  · have hK9 : K = 9 := by omega
    refine ⟨K, 0, h1, h9, fun e => ⟨hk9 e, rfl⟩, fun e => by omega, ?_⟩
    by_cases hK : q.length + 1 < K
    · refine .inl ⟨hK, ?_⟩
      unfold coin_Get.f
      rw [if_neg (by omega), if_pos (by omega), r0, hz, Option.bind_some, e1, if_pos (by omega)]
    · refine .inr ⟨by omega, ?_⟩
      obtain ⟨s, hs, h2⟩ := tail 0 (Nat.pow_pos (by omega)) (by omega)
      refine ⟨s, hs, ?_⟩
      unfold coin_Get.f
      rw [if_neg (by omega), if_pos (by omega), r0, hz, Option.bind_some, e1, if_neg (by omega), if_neg (by omega)]
      exact h2
/-- a number's bytes, and others behind them, tell the number -/
theorem get_put (k s n : Nat) (hs : Takes s n) (hn : n < 18446744073709551616) (rest : List Int) (hr : isBytes rest) (hl : rest.length < 1000000) : coin_Get.f (k + 25) (cb s n ++ rest) = some ((n : Int), (s : Int), 0) := by
  have hb := hd1_bytes s n hs
  obtain ⟨b, hbe⟩ := Int.eq_ofNat_of_zero_le hb.1
  have hbn : b < 256 := by omega
  have el : cb s n ++ rest = (b : Int) :: (tl n (s - 1) ++ rest) := by
    rw [cb, hbe]; rfl
  have hq : isBytes (tl n (s - 1) ++ rest) := by
    intro z hz
    rcases List.mem_append.1 hz with hz | hz
    · exact tl_bytes n _ z hz
    · exact hr z hz
  obtain ⟨h1, h9, hs'⟩ := hs
  obtain ⟨K, h, g1, g9, gk9, gk8, hg⟩ := get_is k b (tl n (s - 1) ++ rest) hbn hq (by rw [List.length_append, tl_length]; omega)
  have hKs : K = s ∧ h = n / 256 ^ (s - 1) := by
    unfold hd1 at hbe
    by_cases e9 : s = 9
    · rw [if_pos e9] at hbe
      have : K = 9 := by
        rcases Nat.lt_or_ge K 9 with hlt | hge
        · obtain ⟨a1, a2⟩ := gk8 (by omega)
          have : 2 ^ (9 - K) = 2 * 2 ^ (8 - K) := by rw [show 9 - K = (8 - K) + 1 by omega, Nat.pow_succ]; omega
          have : 2 ^ (8 - K) ≤ 2 ^ 7 := Nat.pow_le_pow_right (by omega) (by omega)
          omega
        · omega
      subst e9
      refine ⟨this, ?_⟩
      rw [(gk9 this).2, Nat.div_eq_of_lt]
      exact hn
    · rw [if_neg e9] at hbe
      have hh := high_small s n h1 (by omega) ((hs' s h1 (by omega)).1 (Nat.le_refl _))
      generalize n / 256 ^ (s - 1) = x at hbe hh ⊢
      have p1 : 2 ^ (9 - s) = 2 * 2 ^ (8 - s) := by rw [show 9 - s = (8 - s) + 1 by omega, Nat.pow_succ]; omega
      have p2 : 2 ^ (8 - s) ≤ 2 ^ 7 := Nat.pow_le_pow_right (by omega) (by omega)
      have p3 : 0 < 2 ^ (8 - s) := Nat.two_pow_pos _
      rcases Nat.lt_or_ge K 9 with hlt | hge
      · obtain ⟨a1, a2⟩ := gk8 (by omega)
        have q1 : 2 ^ (9 - K) = 2 * 2 ^ (8 - K) := by rw [show 9 - K = (8 - K) + 1 by omega, Nat.pow_succ]; omega
        have q2 : 2 ^ (8 - K) ≤ 2 ^ 7 := Nat.pow_le_pow_right (by omega) (by omega)
        rcases Nat.lt_trichotomy K s with h | h | h
        · have : 2 ^ (9 - s) ≤ 2 ^ (8 - K) := Nat.pow_le_pow_right (by omega) (by omega)
          omega
        · subst h
          omega
        · have : 2 ^ (9 - K) ≤ 2 ^ (8 - s) := Nat.pow_le_pow_right (by omega) (by omega)
          omega
      · have := (gk9 (by omega)).1
        omega
  obtain ⟨rfl, rfl⟩ := hKs
  have et : (tl n (K - 1) ++ rest).take (K - 1) = tl n (K - 1) := by
    rw [List.take_append_of_le_length (by rw [tl_length]; exact Nat.le_refl _), List.take_of_length_le (by rw [tl_length]; exact Nat.le_refl _)]
  rw [et, foldv_tl] at hg
  rw [el]
  rcases hg with ⟨hg, _⟩ | ⟨_, t, ht, hg⟩
  · rw [List.length_append, tl_length] at hg
    omega
  · rw [hg, if_pos (takes_one t K n ht ⟨h1, h9, hs'⟩)]

/-! ## the document's own bytes of a number -/
theorem refbits_loop (d : Nat) : ∀ (n k : Nat) (c : Nat), n < 2 ^ d → d < k → c + d ≤ 1000 → d ≤ 64 → ∃ L : Nat, milestoneref01_bits.l0 k (n : Int) (c : Int) = some ((c + L : Nat) : Int) ∧ L ≤ d ∧ ∀ j, (n < 2 ^ j ↔ L ≤ j) := by
  induction d with
  | zero =>
    intro n k c hn hk _ _
    obtain ⟨k, rfl⟩ : ∃ m, k = m + 1 := ⟨k - 1, by omega⟩
    have h0 : n = 0 := by omega
    subst h0
    refine ⟨0, ?_, by omega, fun j => ?_⟩
    · rw [milestoneref01_bits.l0, if_neg (by omega)]; rfl
    · have := Nat.two_pow_pos j
      omega
  | succ d ih =>
    intro n k c hn hk hc h64
    obtain ⟨k, rfl⟩ : ∃ m, k = m + 1 := ⟨k - 1, by omega⟩
    have hp : 2 ^ (d + 1) ≤ 2 ^ 64 := Nat.pow_le_pow_right (by omega) (by omega)
    by_cases h0 : n = 0
    · subst h0
      refine ⟨0, ?_, by omega, fun j => ?_⟩
      · rw [milestoneref01_bits.l0, if_neg (by omega)]; rfl
      · have := Nat.two_pow_pos j
        omega
    · obtain ⟨L, hL, hd, hj⟩ := ih (n / 2) k (c + 1) (by rw [Nat.pow_succ] at hn; omega) (by omega) (by omega) (by omega)
      have e1 : IntKind.u64.wrap (Int.tdiv (n : Int) 2) = ((n / 2 : Nat) : Int) := by
        rw [Int.tdiv_eq_ediv_of_nonneg (by omega), wr64]; omega
      have e2 : wrap64 ((c : Int) + 1) = ((c + 1 : Nat) : Int) := by unfold wrap64; omega
      refine ⟨L + 1, ?_, by omega, fun j => ?_⟩
      · rw [milestoneref01_bits.l0, if_pos (by omega), e1, e2, hL]
        refine congrArg some ?_
        omega
      · cases j with
        | zero => omega
        | succ j =>
          have := hj j
          rw [Nat.pow_succ]
          omega
theorem refbits_is (n k : Nat) (hn : n < 18446744073709551616) (hk : 64 < k) : ∃ L : Nat, milestoneref01_bits.f k (n : Int) = some (L : Int) ∧ L ≤ 64 ∧ ∀ j, (n < 2 ^ j ↔ L ≤ j) := by
  obtain ⟨L, hL, h⟩ := refbits_loop 64 n k 0 (by have : 2 ^ 64 = 18446744073709551616 := rfl; omega) hk (by omega) (by omega)
  refine ⟨L, ?_, h⟩
  unfold milestoneref01_bits.f
  rw [show (0 : Int) = ((0 : Nat) : Int) from rfl, hL]
  refine congrArg some ?_
  omega
theorem ref_up (s n : Nat) (hs : Takes s n) (hn : n < 18446744073709551616) (d : Nat) : ∀ (i k : Nat), 1 ≤ i → i + d = s → milestoneref01_Coin.l0 (k + 66 + d + 1) (n : Int) (i : Int) = milestoneref01_Coin.j1 (k + 66) (n : Int) (s : Int) := by
  obtain ⟨h1, h9, hs⟩ := hs
  induction d with
  | zero =>
    intro i k hi hd
    have e : i = s := by omega
    subst e
    rw [milestoneref01_Coin.l0]
    by_cases h : i < 9
    · obtain ⟨L, hL, hl, hj⟩ := refbits_is n (k + 66 + 0) hn (by omega)
      have e7 : wrap64 (7 * (i : Int)) = ((7 * i : Nat) : Int) := by unfold wrap64; omega
      have := (hj (7 * i)).1 ((hs i h1 (by omega)).1 (Nat.le_refl _))
      rw [if_pos (by omega), hL, Option.bind_some, e7, if_neg (by omega)]
    · rw [if_neg (by omega)]
  | succ d ih =>
    intro i k hi hd
    obtain ⟨L, hL, hl, hj⟩ := refbits_is n (k + 66 + (d + 1)) hn (by omega)
    have e7 : wrap64 (7 * (i : Int)) = ((7 * i : Nat) : Int) := by unfold wrap64; omega
    have e1 : wrap64 ((i : Int) + 1) = ((i + 1 : Nat) : Int) := by unfold wrap64; omega
    have h3 : ¬ n < 2 ^ (7 * i) := fun h => by have := (hs i hi (by omega)).2 h; omega
    have := hj (7 * i)
    rw [milestoneref01_Coin.l0, if_pos (by omega), hL, Option.bind_some, e7, if_pos (by omega), e1]
    exact ih (i + 1) k (by omega) (by omega)
theorem ref_nine (n : Nat) : ∀ i : Nat, i ≤ 8 → ∀ (k : Nat) (acc : List Int), i < k → acc.length + i < 140737488355328 → milestoneref01_Coin.l1 k (n : Int) acc ((i : Int) - 1) = some (acc ++ tl n i) := by
  intro i
  induction i with
  | zero =>
    intro _ k acc hk _
    obtain ⟨k, rfl⟩ : ∃ m, k = m + 1 := ⟨k - 1, by omega⟩
    rw [milestoneref01_Coin.l1, if_neg (by omega), tl, List.append_nil]
  | succ i ih =>
    intro hi k acc hk hl
    obtain ⟨k, rfl⟩ : ∃ m, k = m + 1 := ⟨k - 1, by omega⟩
    have e1 : wrap64 (8 * (((i + 1 : Nat) : Int) - 1)) = ((8 * i : Nat) : Int) := by unfold wrap64; omega
    have e2 : wrap64 (((i + 1 : Nat) : Int) - 1 - 1) = (i : Int) - 1 := by unfold wrap64; omega
    rw [milestoneref01_Coin.l1, if_pos (by omega), e1, e2, if_pos (by omega), if_pos (by omega), shr_is n i (by omega)]
    rw [ih (by omega) k (acc ++ [((n / 256 ^ i % 256 : Nat) : Int)]) (by omega) (by simp; omega), tl, List.append_assoc]
    rfl
theorem tl_last (n : Nat) : ∀ i, tl n (i + 1) = tl (n / 256) i ++ [((n % 256 : Nat) : Int)]
  | 0 => by simp [tl]
  | i + 1 => by
    rw [tl, tl_last n i, tl, Nat.div_div_eq_div_mul, Nat.pow_succ, Nat.mul_comm]
    rfl
theorem ref_fill (s : Nat) (hs : s ≤ 8) : ∀ (i m k : Nat) (out : List Int), i ≤ s → out.length = s → m < 18446744073709551616 → milestoneref01_Coin.l2 (k + i + 1) (m : Int) (s : Int) out ((i : Int) - 1) = milestoneref01_Coin.l3 k (s : Int) (tl m i ++ out.drop i) 128 1 := by
  intro i
  induction i with
  | zero =>
    intro m k out _ _ _
    rw [milestoneref01_Coin.l2, if_neg (by omega), tl, List.nil_append, List.drop_zero]
  | succ i ih =>
    intro m k out hi hl hm
    have e1 : IntKind.u64.wrap (Int.tdiv (m : Int) 256) = ((m / 256 : Nat) : Int) := by
      rw [Int.tdiv_eq_ediv_of_nonneg (by omega), wr64]; omega
    have e2 : wrap64 (((i + 1 : Nat) : Int) - 1 - 1) = (i : Int) - 1 := by unfold wrap64; omega
    have e3 : (Int.tmod (m : Int) 256) % 256 = ((m % 256 : Nat) : Int) := by
      rw [Int.tmod_eq_emod_of_nonneg (by omega)]; omega
    have e4 : (((i + 1 : Nat) : Int) - 1).toNat = i := by omega
    rw [show k + (i + 1) + 1 = (k + i + 1) + 1 by omega, milestoneref01_Coin.l2, if_pos (by omega), if_pos (by omega), if_pos (by omega), e1, e2, e3, e4, ih (m / 256) k _ (by omega) (by rw [List.length_set]; exact hl) (by omega), tl_last, List.append_assoc]
    congr 2
    rw [List.drop_eq_getElem_cons (by rw [List.length_set]; omega), List.getElem_set_self]
    have : (out.set i ((m % 256 : Nat) : Int)).drop (i + 1) = out.drop (i + 1) := by
      rw [List.drop_set_of_lt (by omega)]
    rw [this]
    rfl
theorem ref_lead (s : Nat) (hs : s ≤ 8) (rest : List Int) (d : Nat) : ∀ (j k h : Nat), 1 ≤ j → j + d = s → h + (2 ^ (9 - j) - 2 ^ (9 - s)) < 256 →
    milestoneref01_Coin.l3 (k + d + 1) (s : Int) ((h : Int) :: rest) ((2 ^ (8 - j) : Nat) : Int) (j : Int) = some (((h + (2 ^ (9 - j) - 2 ^ (9 - s)) : Nat) : Int) :: rest) := by
  induction d with
  | zero =>
    intro j k h hj hd hh
    have e : j = s := by omega
    subst e
    rw [milestoneref01_Coin.l3, if_neg (by omega), Nat.sub_self, Nat.add_zero]
  | succ d ih =>
    intro j k h hj hd hh
    have hjs : (j : Int) < (s : Int) := by omega
    have hkd : k + (d + 1) + 1 = (k + d + 1) + 1 := by omega
    have hjd : j + 1 + d = s := by omega
    have p1 : 2 ^ (9 - j) = 2 * 2 ^ (8 - j) := by rw [show 9 - j = (8 - j) + 1 by omega, Nat.pow_succ]; omega
    have p2 : 2 ^ (9 - s) ≤ 2 ^ (8 - j) := Nat.pow_le_pow_right (by omega) (by omega)
    have p3 : 2 ^ (8 - j) = 2 * 2 ^ (8 - (j + 1)) := by rw [show 8 - j = (8 - (j + 1)) + 1 by omega, Nat.pow_succ]; omega
    have p4 : 9 - (j + 1) = 8 - j := by omega
    have p5 : 2 ^ (8 - j) ≤ 2 ^ 8 := Nat.pow_le_pow_right (by omega) (by omega)
    have hb : h + 2 ^ (8 - j) < 256 := by
      clear ih
      omega
    have e3 : ((h : Int) + ((2 ^ (8 - j) : Nat) : Int)) % 256 = ((h + 2 ^ (8 - j) : Nat) : Int) := by
      clear ih hh p1 p2 p3 p5
      generalize 2 ^ (8 - j) = z at hb ⊢
      omega
    have e1 : wrap64 ((j : Int) + 1) = ((j + 1 : Nat) : Int) := by unfold wrap64; omega
    have e2 : wrap64 (Int.tdiv ((2 ^ (8 - j) : Nat) : Int) 2) = ((2 ^ (8 - (j + 1)) : Nat) : Int) := by
      rw [Int.tdiv_eq_ediv_of_nonneg (by omega)]
      unfold wrap64
      omega
    have r0 : rd ((h : Int) :: rest) 0 = (h : Int) := rfl
    have hl : (((((h : Int) :: rest).length : Nat)) : Int) = ((rest.length + 1 : Nat) : Int) := rfl
    have hl0 : (0 : Int) < (((((h : Int) :: rest).length : Nat)) : Int) := by rw [hl]; omega
    have hset : ((h : Int) :: rest).set (0 : Int).toNat ((h + 2 ^ (8 - j) : Nat) : Int) = ((h + 2 ^ (8 - j) : Nat) : Int) :: rest := rfl
    have hlast : h + 2 ^ (8 - j) + (2 ^ (8 - j) - 2 ^ (9 - s)) = h + (2 ^ (9 - j) - 2 ^ (9 - s)) := by
      clear ih e1 e2 e3 hset r0 hl hl0
      omega
    have hlt : h + 2 ^ (8 - j) + (2 ^ (9 - (j + 1)) - 2 ^ (9 - s)) < 256 := by
      rw [p4, hlast]; exact hh
    have key := ih (j + 1) k (h + 2 ^ (8 - j)) (Nat.le_add_left 1 j) hjd hlt
    rw [hkd, milestoneref01_Coin.l3, if_pos hjs, if_pos hl0, r0, e1, e2, e3, hset, key, p4, hlast]
theorem coin_is (k s n : Nat) (hs : Takes s n) (hn : n < 18446744073709551616) : milestoneref01_Coin.f (k + 90) (n : Int) = some (cb s n) := by
  obtain ⟨h1, h9, hs'⟩ := hs
  unfold milestoneref01_Coin.f
  rw [show k + 90 = (k + 23 - (s - 1)) + 66 + (s - 1) + 1 by omega, show (1 : Int) = ((1 : Nat) : Int) from rfl, ref_up s n ⟨h1, h9, hs'⟩ hn (s - 1) 1 _ (by omega) (by omega)]
  by_cases h : s = 9
  · rw [show k + 23 - (s - 1) + 66 = (k + 80) + 1 by omega, milestoneref01_Coin.j1, if_pos (by omega), show (7 : Int) = ((8 : Nat) : Int) - 1 from rfl, ref_nine n 8 (by omega) _ _ (by omega) (by simp)]
    unfold cb hd1
    rw [if_pos h, h]
    rfl
  · have hh := high_small s n h1 (by omega) ((hs' s h1 (by omega)).1 (Nat.le_refl _))
    have e1 : wrap64 ((s : Int) - 1) = (s : Int) - 1 := by unfold wrap64; omega
    have p1 : 2 ^ (9 - s) = 2 * 2 ^ (8 - s) := by rw [show 9 - s = (8 - s) + 1 by omega, Nat.pow_succ]; omega
    have p2 : 2 ^ (8 - s) ≤ 2 ^ 7 := Nat.pow_le_pow_right (by omega) (by omega)
    have p3 : 0 < 2 ^ (8 - s) := Nat.two_pow_pos _
    have et : tl n s = ((n / 256 ^ (s - 1) : Nat) : Int) :: tl n (s - 1) := by
      obtain ⟨s, rfl⟩ : ∃ m, s = m + 1 := ⟨s - 1, by omega⟩
      rw [tl, Nat.add_sub_cancel] at *
      rw [Nat.mod_eq_of_lt (by omega)]
    obtain ⟨K, hK⟩ : ∃ K, k + 23 - (s - 1) + 66 = (K + (s - 1) + 1) + s + 1 + 1 := ⟨k + 23 - (s - 1) + 66 - (2 * s + 2), by omega⟩
    rw [hK, milestoneref01_Coin.j1, if_neg (by omega), if_pos (by omega), if_pos (by omega), e1, Int.toNat_natCast, ref_fill s (by omega) s n _ _ (by omega) (by simp) hn, List.drop_eq_nil_of_le (by simp), List.append_nil, et]
    have := ref_lead s (by omega) (tl n (s - 1)) (s - 1) 1 K (n / 256 ^ (s - 1)) (by omega) (by omega) (by have : 2 ^ (9 - 1) = 256 := rfl; omega)
    rw [show ((2 ^ (8 - 1) : Nat) : Int) = 128 from rfl, show ((1 : Nat) : Int) = 1 from rfl] at this
    rw [this]
    unfold cb hd1
    rw [if_neg h]
    refine congrArg some (congrArg (· :: _) ?_)
    have : 2 ^ (9 - 1) = 256 := rfl
    omega

/-! ## the sum's own arithmetic, over natural numbers -/
def crcP : Nat := 2197175160
def crcS (x : Nat) : Nat := if x % 2 = 1 then x / 2 ^^^ crcP else x / 2
def crcI : Nat → Nat → Nat
  | 0, x => x
  | n + 1, x => crcI n (crcS x)
theorem crcS_xor (x y : Nat) : crcS (x ^^^ y) = crcS x ^^^ crcS y := by
  have hm : (x ^^^ y) % 2 = (x + y) % 2 := by
    have h : (x ^^^ y) % 2 ^ 1 = (x % 2 ^ 1) ^^^ (y % 2 ^ 1) := Nat.xor_mod_two_pow
    rw [Nat.pow_one] at h
    rw [h, Nat.add_mod]
    rcases Nat.mod_two_eq_zero_or_one x with a | a <;> rcases Nat.mod_two_eq_zero_or_one y with b | b <;> rw [a, b] <;> rfl
  have hd : (x ^^^ y) / 2 = x / 2 ^^^ y / 2 := Nat.xor_div_two
  unfold crcS
  rw [hm, hd]
  by_cases a : x % 2 = 1
  · by_cases b : y % 2 = 1
    · rw [if_neg (by omega), if_pos a, if_pos b]
      have e : x / 2 ^^^ crcP ^^^ (y / 2 ^^^ crcP) = x / 2 ^^^ y / 2 ^^^ (crcP ^^^ crcP) := by ac_rfl
      rw [e, Nat.xor_self, Nat.xor_zero]
    · rw [if_pos (by omega), if_pos a, if_neg b]
      ac_rfl
  · by_cases b : y % 2 = 1
    · rw [if_pos (by omega), if_neg a, if_pos b]
      ac_rfl
    · rw [if_neg (by omega), if_neg a, if_neg b]
theorem crcS_two (z : Nat) : crcS (2 * z) = z := by
  unfold crcS
  rw [if_neg (by omega)]
  omega
theorem crcS_lt (x : Nat) (h : x < 4294967296) : crcS x < 4294967296 := by
  unfold crcS
  split
  · exact Nat.xor_lt_two_pow (n := 32) (by omega) (by unfold crcP; omega)
  · omega
theorem crcI_xor : ∀ (n x y : Nat), crcI n (x ^^^ y) = crcI n x ^^^ crcI n y
  | 0, _, _ => rfl
  | n + 1, x, y => by rw [crcI, crcS_xor, crcI_xor n]; rfl
theorem crcI_lt : ∀ (n x : Nat), x < 4294967296 → crcI n x < 4294967296
  | 0, _, h => h
  | n + 1, x, h => crcI_lt n _ (crcS_lt x h)
theorem crcI_shift : ∀ (n z : Nat), crcI n (2 ^ n * z) = z
  | 0, z => by simp [crcI]
  | n + 1, z => by
    rw [crcI, Nat.pow_succ, Nat.mul_comm (2 ^ n) 2, Nat.mul_assoc, crcS_two, crcI_shift n z]
theorem xor_split (x : Nat) : x = 256 * (x / 256) ^^^ x % 256 := by
  apply Nat.eq_of_testBit_eq
  intro i
  have h := Nat.testBit_two_pow_mul_add (x / 256) (show x % 2 ^ 8 < 2 ^ 8 from Nat.mod_lt _ (by omega)) i
  have e : 2 ^ 8 * (x / 256) + x % 2 ^ 8 = x := by omega
  rw [e] at h
  rw [h, Nat.testBit_xor, show (256 : Nat) = 2 ^ 8 from rfl, Nat.testBit_two_pow_mul, Nat.testBit_mod_two_pow]
  by_cases hi : i < 8
  · simp [hi, Nat.not_le.2 hi]
  · simp [hi, Nat.not_lt.1 hi]
theorem crc_byte (x : Nat) : crcI 8 x = x / 256 ^^^ crcI 8 (x % 256) := by
  have h := congrArg (crcI 8) (xor_split x)
  rw [crcI_xor, show (256 : Nat) * (x / 256) = 2 ^ 8 * (x / 256) from rfl, crcI_shift] at h
  exact h

theorem crc_step (r b : Nat) (hb : b < 256) : crcI 8 (r ^^^ b) = r / 256 ^^^ crcI 8 (r % 256 ^^^ b) := by
  have h1 : (r ^^^ b) / 2 ^ 8 = r / 2 ^ 8 ^^^ b / 2 ^ 8 := Nat.xor_div_two_pow
  have h2 : (r ^^^ b) % 2 ^ 8 = r % 2 ^ 8 ^^^ b % 2 ^ 8 := Nat.xor_mod_two_pow
  have e : (2 : Nat) ^ 8 = 256 := rfl
  rw [e] at h1 h2
  rw [crc_byte, h1, h2, Nat.div_eq_of_lt hb, Nat.mod_eq_of_lt hb, Nat.xor_zero]
theorem line_loop (n : Nat) : ∀ (i x k : Nat), i + n = 8 → n < k → x < 4294967296 → tally_line.l0 k (x : Int) (i : Int) = some ((crcI n x : Nat) : Int) := by
  induction n with
  | zero =>
    intro i x k hi hk _
    obtain ⟨k, rfl⟩ : ∃ m, k = m + 1 := ⟨k - 1, by omega⟩
    rw [tally_line.l0, if_neg (by omega)]
    rfl
  | succ n ih =>
    intro i x k hi hk hx
    obtain ⟨k, rfl⟩ : ∃ m, k = m + 1 := ⟨k - 1, by omega⟩
    have e1 : wrap64 ((i : Int) + 1) = ((i + 1 : Nat) : Int) := by unfold wrap64; omega
    have e2 : Go.bits .and .u32 (x : Int) 1 = ((x % 2 : Nat) : Int) := by
      have := u32_and_nat x 1 hx (by omega)
      rw [Nat.and_one_is_mod] at this
      exact this
    have e3 : (x : Int) / 2 = ((x / 2 : Nat) : Int) := by omega
    have e4 : Go.bits .xor .u32 ((x / 2 : Nat) : Int) 2197175160 = ((x / 2 ^^^ crcP : Nat) : Int) := u32_xor_nat (x / 2) 2197175160 (by omega) (by omega)
    have hs := crcS_lt x hx
    rw [tally_line.l0, if_pos (by omega), e1, e2, e3, e4]
    by_cases h : x % 2 = 1
    · have e5 : crcS x = x / 2 ^^^ crcP := by unfold crcS; rw [if_pos h]
      rw [if_pos (by omega), crcI, e5]
      rw [e5] at hs
      exact ih (i + 1) _ k (by omega) (by omega) hs
    · have e5 : crcS x = x / 2 := by unfold crcS; rw [if_neg h]
      rw [if_neg (by omega), crcI, e5]
      rw [e5] at hs
      exact ih (i + 1) _ k (by omega) (by omega) hs
theorem line_is (k b : Nat) (hb : b < 256) : tally_line.f (k + 9) (b : Int) = some ((crcI 8 b : Nat) : Int) := by
  unfold tally_line.f
  have e : (b : Int) % 4294967296 = (b : Int) := by omega
  rw [e]
  exact line_loop 8 0 b (k + 9) (by omega) (by omega) (by omega)
/-- bytes fed to a register -/
def crcB (x : Nat) : Nat := crcI 8 x
def crcF (r : Nat) (q : List Int) : Nat := q.foldl (fun r b => crcB (r ^^^ b.toNat)) r
theorem crcF_nil (r : Nat) : crcF r [] = r := List.foldl_nil
theorem crcF_cons (r : Nat) (b : Int) (q : List Int) : crcF r (b :: q) = crcF (crcB (r ^^^ b.toNat)) q := List.foldl_cons ..
def crcM : Nat := 4294967295
theorem crcM_lt : crcM < 4294967296 := by unfold crcM; omega
def crcV (x : Nat) : Nat := crcM ^^^ x
theorem crcV_lt (x : Nat) (h : x < 4294967296) : crcV x < 4294967296 := by
  unfold crcV
  exact Nat.xor_lt_two_pow (n := 32) crcM_lt h
theorem crcV_bits (x : Nat) (h : x < 4294967296) : Go.bits .xor .u32 IntKind.u32.max (x : Int) = ((crcV x : Nat) : Int) := u32_xor_nat crcM x crcM_lt h
theorem xor_twice (m x : Nat) : m ^^^ (m ^^^ x) = x := by rw [← Nat.xor_assoc, Nat.xor_self, Nat.zero_xor]
theorem crcV_is (x : Nat) : crcV x = crcM ^^^ x := by rw [crcV]
theorem crcV_twice (x : Nat) : crcV (crcV x) = x := by rw [crcV_is, crcV_is, xor_twice]
theorem crcF_lt : ∀ (q : List Int) (r : Nat), isBytes q → r < 4294967296 → crcF r q < 4294967296
  | [], r, _, h => by rw [crcF_nil]; exact h
  | b :: q, r, hq, h => by
    have hb := hq b List.mem_cons_self
    rw [crcF_cons]
    exact crcF_lt q _ (fun z hz => hq z (List.mem_cons_of_mem _ hz)) (crcI_lt 8 _ (Nat.xor_lt_two_pow (n := 32) h (by omega)))
theorem crcF_append : ∀ (p q : List Int) (r : Nat), crcF r (p ++ q) = crcF (crcF r p) q
  | [], q, r => by rw [List.nil_append, crcF_nil]
  | b :: p, q, r => by rw [List.cons_append, crcF_cons, crcF_cons, crcF_append p q]
theorem rd_byte (q : List Int) (hq : isBytes q) (i : Nat) (hi : i < q.length) : 0 ≤ rd q i ∧ rd q i < 256 := by
  have := rd_drop q i hi
  have h : rd q i ∈ q.drop i := by rw [this]; exact List.mem_cons_self
  exact hq _ (List.mem_of_mem_drop h)
theorem more_loop (q : List Int) (hq : isBytes q) (hl : q.length < 1000000) (d : Nat) : ∀ (i r k : Nat), i + d = q.length → d + 10 < k → r < 4294967296 →
    tally_More.l0 k (r : Int) q (q.length : Int) (i : Int) = some ((crcV (crcF r (q.drop i)) : Nat) : Int) := by
  induction d with
  | zero =>
    intro i r k hi hk hr
    obtain ⟨k, rfl⟩ : ∃ m, k = m + 1 := ⟨k - 1, by omega⟩
    rw [tally_More.l0, if_neg (by omega), crcV_bits r hr, List.drop_eq_nil_of_le (by omega), crcF_nil]
  | succ d ih =>
    intro i r k hi hk hr
    obtain ⟨k, rfl⟩ : ∃ m, k = m + 9 + 1 := ⟨k - 10, by omega⟩
    have hb := rd_byte q hq i (by omega)
    obtain ⟨b, hbe⟩ := Int.eq_ofNat_of_zero_le hb.1
    have hbn : b < 256 := by omega
    have e1 : wrap64 ((i : Int) + 1) = ((i + 1 : Nat) : Int) := by unfold wrap64; omega
    have e2 : (r : Int) % 256 = ((r % 256 : Nat) : Int) := by omega
    have e3 : (r : Int) / 256 = ((r / 256 : Nat) : Int) := by omega
    have hx : r % 256 ^^^ b < 256 := Nat.xor_lt_two_pow (n := 8) (by omega) (by omega)
    have hc : crcI 8 (r % 256 ^^^ b) < 4294967296 := crcI_lt 8 _ (by omega)
    have hd : r / 256 < 4294967296 := by omega
    have hn : r / 256 ^^^ crcI 8 (r % 256 ^^^ b) < 4294967296 := Nat.xor_lt_two_pow (n := 32) hd hc
    have key := ih (i + 1) (r / 256 ^^^ crcI 8 (r % 256 ^^^ b)) (k + 9) (by omega) (by omega) hn
    have t1 : (i : Int) < (q.length : Int) := by omega
    have t2 : (0 : Int) ≤ (i : Int) := by omega
    have t3 : Go.bits .xor .u8 ((r : Int) % 256) (rd q i) = ((r % 256 ^^^ b : Nat) : Int) := by
      rw [e2, hbe]
      exact u8_xor_nat (r % 256) b (by omega) hbn
    have t4 : q.drop i = (b : Int) :: q.drop (i + 1) := by rw [rd_drop q i (by omega), hbe]
    have t5 := line_is k _ hx
    have t6 : Go.bits .xor .u32 ((r : Int) / 256) ((crcI 8 (r % 256 ^^^ b) : Nat) : Int) = ((r / 256 ^^^ crcI 8 (r % 256 ^^^ b) : Nat) : Int) := by
      rw [e3]
      exact u32_xor_nat _ _ hd hc
    clear ih e2 e3 hx hc hd
    rw [tally_More.l0, if_pos t1, if_pos t2, if_pos t1, t3, t5, Option.bind_some, t6, e1, key, t4, crcF_cons, Int.toNat_natCast, crcB, crc_step r b hbn]
theorem more_is (k s : Nat) (q : List Int) (hq : isBytes q) (hl : q.length < 1000000) (hk : q.length + 10 < k) (hs : s < 4294967296) : tally_More.f k (s : Int) q = some ((crcV (crcF (crcV s) q) : Nat) : Int) := by
  unfold tally_More.f
  rw [crcV_bits s hs]
  exact more_loop q hq hl q.length 0 _ k (by omega) hk (crcV_lt s hs)
theorem sum_is (k : Nat) (q : List Int) (hq : isBytes q) (hl : q.length < 1000000) (hk : q.length + 10 < k) : tally_Sum.f k q = some ((crcV (crcF crcM q) : Nat) : Int) := by
  unfold tally_Sum.f
  have h := more_is k 0 q hq hl hk (by omega)
  have e : crcV 0 = crcM := by unfold crcV; rw [Nat.xor_zero]
  rw [e] at h
  rw [show (0 : Int) = ((0 : Nat) : Int) from rfl, h, Option.bind_some]

theorem wr32 (n : Int) : IntKind.u32.wrap n = n % 4294967296 := by
  simp [IntKind.wrap, IntKind.signed, IntKind.bits]
theorem crcV_sub (x : Nat) (h : x < 4294967296) : ((crcV x : Nat) : Int) = 4294967295 - (x : Int) := by
  rw [← crcV_bits x h]
  show IntKind.u32.wrap ((BitVec.ofInt 32 4294967295 ^^^ BitVec.ofInt 32 (x : Int)).toNat : Int) = _
  have e : BitVec.ofInt 32 4294967295 = BitVec.allOnes 32 := by decide
  have e2 : (BitVec.ofInt 32 (x : Int)).toNat = x := by
    rw [BitVec.toNat_ofInt]
    omega
  rw [e, BitVec.xor_comm, BitVec.xor_allOnes, BitVec.toNat_not, e2, wr32]
  omega
theorem bit_split (c : Nat) : c = c % 2 ^^^ 2 * (c / 2) := by
  apply Nat.eq_of_testBit_eq
  intro i
  rw [Nat.testBit_xor]
  cases i with
  | zero => simp [Nat.testBit_zero]
  | succ i =>
    have h1 : (c % 2).testBit (i + 1) = false := by
      rw [Nat.testBit_succ, show c % 2 / 2 = 0 by omega, Nat.zero_testBit]
    rw [h1, Nat.testBit_succ, Nat.testBit_succ, show 2 * (c / 2) / 2 = c / 2 by omega]
    simp
theorem crcS_feed (r c : Nat) : crcS (r ^^^ c) = crcS (r ^^^ c % 2) ^^^ c / 2 := by
  have h : r ^^^ c = r ^^^ c % 2 ^^^ 2 * (c / 2) := by
    rw [Nat.xor_assoc, ← bit_split]
  rw [h, crcS_xor, crcS_two]
theorem crcS_bit (r o : Nat) (ho : o < 2) : crcS (r ^^^ o) = if r % 2 = o then r / 2 else r / 2 ^^^ crcP := by
  have hm : (r ^^^ o) % 2 = (r + o) % 2 := by
    have h : (r ^^^ o) % 2 ^ 1 = (r % 2 ^ 1) ^^^ (o % 2 ^ 1) := Nat.xor_mod_two_pow
    rw [Nat.pow_one] at h
    rw [h, Nat.add_mod]
    rcases Nat.mod_two_eq_zero_or_one r with a | a <;> rcases Nat.mod_two_eq_zero_or_one o with b | b <;> rw [a, b] <;> rfl
  have hd : (r ^^^ o) / 2 = r / 2 := by
    have : (r ^^^ o) / 2 = r / 2 ^^^ o / 2 := Nat.xor_div_two
    rw [this, show o / 2 = 0 by omega, Nat.xor_zero]
  unfold crcS
  rw [hm, hd]
  by_cases h : r % 2 = o
  · rw [if_neg (by omega), if_pos h]
  · rw [if_pos (by omega), if_neg h]
theorem shr8 (b j : Nat) (hj : j ≤ 8) : (shr .u8 (b : Int) (j : Int)) % 2 = ((b / 2 ^ j % 2 : Nat) : Int) := by
  unfold shr
  have e : min ((j : Nat) : Int).toNat IntKind.u8.bits = j := by
    have : IntKind.u8.bits = 8 := rfl
    omega
  rw [e, show ((2 : Int) ^ j) = ((2 ^ j : Nat) : Int) by simp]
  omega
theorem ref_bits (q : List Int) (hl : q.length < 1000000) (i b : Nat) (hi : i < q.length) (hb : rd q i = (b : Int)) (hbn : b < 256) (n : Nat) : ∀ (j r k : Nat), j + n = 8 → r < 4294967296 →
    milestoneref01_Sum.l0 (k + n) q (r : Int) ((8 * i + j : Nat) : Int) = milestoneref01_Sum.l0 k q ((crcI n (r ^^^ b / 2 ^ j) : Nat) : Int) ((8 * (i + 1) : Nat) : Int) := by
  induction n with
  | zero =>
    intro j r k hj hr
    have e : j = 8 := by omega
    subst e
    rw [show b / 2 ^ 8 = 0 from Nat.div_eq_of_lt hbn, Nat.xor_zero]
    rfl
  | succ n ih =>
    intro j r k hj hr
    have t1 : ((8 * i + j : Nat) : Int) < ((8 * q.length : Nat) : Int) := by omega
    have t2 : (i : Int) < (q.length : Int) := by omega
    have t3 : (0 : Int) ≤ (i : Int) := by omega
    have t4 : (0 : Int) ≤ (j : Int) := by omega
    have t5 : j + 1 + n = 8 := by omega
    have t6 : r / 2 < 4294967296 := by omega
    have t9 : j ≤ 8 := by omega
    have w1 : wrap64 (8 * (q.length : Int)) = ((8 * q.length : Nat) : Int) := by unfold wrap64; omega
    have w2 : wrap64 (Int.tdiv ((8 * i + j : Nat) : Int) 8) = (i : Int) := by
      rw [Int.tdiv_eq_ediv_of_nonneg (by omega)]
      unfold wrap64
      omega
    have w3 : Int.tmod ((8 * i + j : Nat) : Int) 8 = (j : Int) := by
      rw [Int.tmod_eq_emod_of_nonneg (by omega)]
      omega
    have w4 : wrap64 (((8 * i + j : Nat) : Int) + 1) = ((8 * i + (j + 1) : Nat) : Int) := by unfold wrap64; omega
    have w5 : Int.tmod (r : Int) 2 = ((r % 2 : Nat) : Int) := by
      rw [Int.tmod_eq_emod_of_nonneg (by omega)]
      omega
    have w6 : (Int.tdiv (r : Int) 2) % 4294967296 = ((r / 2 : Nat) : Int) := by
      rw [Int.tdiv_eq_ediv_of_nonneg (by omega)]
      omega
    have w7 := shr8 b j t9
    have t7 : b / 2 ^ j % 2 < 2 := Nat.mod_lt _ Nat.two_pos
    have t8 : b / 2 ^ j % 2 < 2 ^ 32 := Nat.lt_trans t7 (by decide)
    have w8 : Go.bits .xor .u32 ((r / 2 : Nat) : Int) 2197175160 = ((r / 2 ^^^ crcP : Nat) : Int) := u32_xor_nat (r / 2) 2197175160 t6 (by decide)
    have hs := crcS_lt (r ^^^ b / 2 ^ j % 2) (Nat.xor_lt_two_pow (n := 32) hr t8)
    have hf := crcS_feed r (b / 2 ^ j)
    have hd : b / 2 ^ j / 2 = b / 2 ^ (j + 1) := by rw [Nat.div_div_eq_div_mul, Nat.pow_succ]
    have hc := crcS_bit r (b / 2 ^ j % 2) t7
    have key := ih (j + 1) (crcS (r ^^^ b / 2 ^ j % 2)) k t5 hs
    rw [crcI, hf, hd, ← key, ← Nat.add_assoc, milestoneref01_Sum.l0, w1, if_pos t1, w2, if_pos t3, if_pos t2, w3, if_pos t4, hb, w7, w5, w6, w8, w4]
    by_cases h : r % 2 = b / 2 ^ j % 2
    · rw [if_pos (by rw [h]), hc, if_pos h]
    · have h2 : ¬ ((r % 2 : Nat) : Int) = ((b / 2 ^ j % 2 : Nat) : Int) := fun e => h (Int.natCast_inj.1 e)
      rw [if_neg h2, hc, if_neg h]
theorem ref_loop (q : List Int) (hq : isBytes q) (hl : q.length < 1000000) (d : Nat) : ∀ (i r k : Nat), i + d = q.length → r < 4294967296 →
    milestoneref01_Sum.l0 (k + 1 + 8 * d) q (r : Int) ((8 * i : Nat) : Int) = some ((crcV (crcF r (q.drop i)) : Nat) : Int) := by
  induction d with
  | zero =>
    intro i r k hi hr
    have w1 : wrap64 (8 * (q.length : Int)) = ((8 * q.length : Nat) : Int) := by unfold wrap64; omega
    have hv := crcV_sub r hr
    rw [milestoneref01_Sum.l0, w1, if_neg (by omega), List.drop_eq_nil_of_le (by omega), crcF_nil, hv]
    refine congrArg some ?_
    omega
  | succ d ih =>
    intro i r k hi hr
    have hb := rd_byte q hq i (by omega)
    obtain ⟨b, hbe⟩ := Int.eq_ofNat_of_zero_le hb.1
    have hbn : b < 256 := by omega
    have h1 := ref_bits q hl i b (by omega) hbe hbn 8 0 r (k + 1 + 8 * d) rfl hr
    have hn : crcI 8 (r ^^^ b) < 4294967296 := crcI_lt 8 _ (Nat.xor_lt_two_pow (n := 32) hr (by omega))
    have key := ih (i + 1) (crcI 8 (r ^^^ b)) k (by omega) hn
    rw [Nat.pow_zero, Nat.div_one, show 8 * i + 0 = 8 * i from rfl] at h1
    rw [show k + 1 + 8 * (d + 1) = k + 1 + 8 * d + 8 by omega, h1, key, rd_drop q i (by omega), hbe, crcF_cons, Int.toNat_natCast, crcB]
theorem refsum_is (k : Nat) (q : List Int) (hq : isBytes q) (hl : q.length < 1000000) : milestoneref01_Sum.f (k + 1 + 8 * q.length) q = some ((crcV (crcF crcM q) : Nat) : Int) := by
  unfold milestoneref01_Sum.f
  exact ref_loop q hq hl q.length 0 crcM k (by omega) crcM_lt

/-! ## bursts -/
def crcN : List Int → Nat
  | [] => 0
  | b :: q => b.toNat ^^^ 256 * crcN q
theorem crcI_add : ∀ (m n x : Nat), crcI (m + n) x = crcI n (crcI m x)
  | 0, n, x => by rw [Nat.zero_add]; rfl
  | m + 1, n, x => by rw [show m + 1 + n = (m + n) + 1 by omega, crcI, crcI_add m n, crcI]
theorem mul_xor (n a b : Nat) : 2 ^ n * (a ^^^ b) = 2 ^ n * a ^^^ 2 ^ n * b := by
  apply Nat.eq_of_testBit_eq
  intro i
  rw [Nat.testBit_xor, Nat.testBit_two_pow_mul, Nat.testBit_two_pow_mul, Nat.testBit_two_pow_mul, Nat.testBit_xor]
  by_cases h : n ≤ i <;> simp [h]
theorem crcF_num : ∀ (q : List Int) (r : Nat), crcF r q = crcI (8 * q.length) (r ^^^ crcN q)
  | [], r => by
    rw [crcF_nil, crcN, Nat.xor_zero]
    rfl
  | b :: q, r => by
    have h : r ^^^ (b.toNat ^^^ 256 * crcN q) = (r ^^^ b.toNat) ^^^ 2 ^ 8 * crcN q := by rw [Nat.xor_assoc]
    rw [crcF_cons, crcF_num q, crcN, List.length_cons, show 8 * (q.length + 1) = 8 + 8 * q.length by omega, crcI_add, h, crcI_xor 8, crcI_shift, crcB]
theorem crcN_set : ∀ (q : List Int) (j : Nat) (v : Int) (e : Nat), j < q.length → v.toNat = (rd q (j : Nat)).toNat ^^^ e → crcN (q.set j v) = crcN q ^^^ 2 ^ (8 * j) * e
  | [], j, v, e, h, _ => by simp at h
  | b :: q, 0, v, e, _, hv => by
    have hb : rd (b :: q) ((0 : Nat) : Int) = b := rfl
    rw [hb] at hv
    rw [List.set_cons_zero, crcN, crcN, hv, Nat.mul_zero, Nat.pow_zero, Nat.one_mul]
    ac_rfl
  | b :: q, j + 1, v, e, h, hv => by
    have hb : rd (b :: q) ((j + 1 : Nat) : Int) = rd q (j : Nat) := rfl
    rw [hb] at hv
    have ih := crcN_set q j v e (by simpa using h) hv
    rw [List.set_cons_succ, crcN, crcN, ih, show (256 : Nat) = 2 ^ 8 from rfl, mul_xor, ← Nat.mul_assoc, ← Nat.pow_add, show 8 + 8 * j = 8 * (j + 1) by omega]
    ac_rfl
theorem xor_zero_eq {a b : Nat} (h : a ^^^ b = 0) : a = b := by
  have e : a ^^^ b ^^^ b = 0 ^^^ b := by rw [h]
  rw [Nat.xor_assoc, Nat.xor_self, Nat.xor_zero, Nat.zero_xor] at e
  exact e
theorem crcS_ne (x : Nat) (h : x < 4294967296) (hx : x ≠ 0) : crcS x ≠ 0 := by
  unfold crcS
  split
  · intro e
    have := xor_zero_eq e
    unfold crcP at this
    omega
  · omega
theorem crcI_ne : ∀ (n x : Nat), x < 4294967296 → x ≠ 0 → crcI n x ≠ 0
  | 0, _, _, h => h
  | n + 1, x, h, hx => crcI_ne n _ (crcS_lt x h) (crcS_ne x h hx)
/-- sums of two that differ by a burst -/
theorem burst (p q : List Int) (k t : Nat) (hl : q.length = p.length) (hk : k ≤ 8 * p.length) (ht : t < 4294967296) (hN : crcN q = crcN p ^^^ 2 ^ k * t) : (crcV (crcF crcM q) = crcV (crcF crcM p)) ↔ t = 0 := by
  have e : crcF crcM q = crcF crcM p ^^^ crcI (8 * p.length - k) t := by
    rw [crcF_num, crcF_num, hl, hN, ← Nat.xor_assoc, crcI_xor _ (crcM ^^^ crcN p)]
    have h : crcI (8 * p.length) (2 ^ k * t) = crcI (8 * p.length - k) t := by
      have : 8 * p.length = k + (8 * p.length - k) := by omega
      rw [this, crcI_add, crcI_shift, ← this]
    rw [h]
  constructor
  · intro h
    have h2 := congrArg crcV h
    rw [crcV_twice, crcV_twice, e] at h2
    apply Classical.byContradiction
    intro hx
    apply crcI_ne (8 * p.length - k) t ht hx
    have h3 := congrArg (fun z => crcF crcM p ^^^ z) h2
    simp only [xor_twice, Nat.xor_self] at h3
    exact h3
  · intro h
    rw [e, h]
    have z : ∀ n, crcI n 0 = 0 := fun n => by
      have := crcI_shift n 0
      rwa [Nat.mul_zero] at this
    rw [z, Nat.xor_zero]

/-! ## frames -/
def t4 (s : Nat) : List Int := [((s % 256 : Nat) : Int), ((s / 256 % 256 : Nat) : Int), ((s / 65536 % 256 : Nat) : Int), ((s / 16777216 % 256 : Nat) : Int)]
def sumN (q : List Int) : Nat := crcV (crcF crcM q)
theorem sumN_lt (q : List Int) (hq : isBytes q) : sumN q < 4294967296 := crcV_lt _ (crcF_lt q crcM hq crcM_lt)
theorem t4_bytes (s : Nat) : isBytes (t4 s) := by
  intro x hx
  unfold t4 at hx
  simp only [List.mem_cons, List.not_mem_nil, or_false] at hx
  omega
theorem t4_length (s : Nat) : (t4 s).length = 4 := rfl
theorem isBytes_append {p q : List Int} (hp : isBytes p) (hq : isBytes q) : isBytes (p ++ q) := fun x hx => (List.mem_append.1 hx).elim (hp x) (hq x)
theorem isBytes_one {b : Int} (h : 0 ≤ b ∧ b < 256) : isBytes [b] := fun x hx => by rw [List.mem_singleton.1 hx]; exact h
theorem pack_step (k s i : Nat) (hi : i < 4) (out : List Int) (hl : out.length < 1000000) :
    frame_Pack.l0 (k + 1) out (s : Int) (i : Int) = frame_Pack.l0 k (out ++ [((s / 256 ^ i % 256 : Nat) : Int)]) (s : Int) ((i + 1 : Nat) : Int) := by
  have e1 : Aside0 (wrap64 (8 * (i : Int)) = ((8 * i : Nat) : Int)) := ⟨by unfold wrap64; omega⟩
  have e2 : Aside0 (wrap64 ((i : Int) + 1) = ((i + 1 : Nat) : Int)) := ⟨by unfold wrap64; omega⟩
  have e3 : (shr .u32 (s : Int) ((8 * i : Nat) : Int)) % 256 = ((s / 256 ^ i % 256 : Nat) : Int) := by
    unfold shr
    have e : min ((8 * i : Nat) : Int).toNat IntKind.u32.bits = 8 * i := by
      have : IntKind.u32.bits = 32 := rfl
      omega
    rw [e, show ((2 : Int) ^ (8 * i)) = ((2 ^ (8 * i) : Nat) : Int) by simp, ← Int.natCast_ediv, Nat.pow_mul, show (2 : Nat) ^ 8 = 256 from rfl]
    omega
  have h1 : (i : Int) < 4 := by omega
  have h2 : (0 : Int) ≤ ((8 * i : Nat) : Int) := Int.natCast_nonneg _
  have h3 : out.length < 140737488355328 := by omega
  rw [frame_Pack.l0, if_pos h1, e1.out, if_pos h2, if_pos h3, e3, e2.out]
theorem pack_tail (k s : Nat) (out : List Int) (hl : out.length < 100000) : frame_Pack.l0 (k + 5) out (s : Int) 0 = some (out ++ t4 s) := by
  have s0 := pack_step (k + 4) s 0 (by omega) out (by omega)
  have s1 := pack_step (k + 3) s 1 (by omega) (out ++ [((s / 256 ^ 0 % 256 : Nat) : Int)]) (by simp; omega)
  have s2 := pack_step (k + 2) s 2 (by omega) (out ++ [((s / 256 ^ 0 % 256 : Nat) : Int)] ++ [((s / 256 ^ 1 % 256 : Nat) : Int)]) (by simp; omega)
  have s3 := pack_step (k + 1) s 3 (by omega) (out ++ [((s / 256 ^ 0 % 256 : Nat) : Int)] ++ [((s / 256 ^ 1 % 256 : Nat) : Int)] ++ [((s / 256 ^ 2 % 256 : Nat) : Int)]) (by simp; omega)
  have z0 : ((0 : Nat) : Int) = 0 := rfl
  rw [z0] at s0
  have n4 : ¬ (((3 + 1 : Nat) : Int) < 4) := by omega
  rw [show k + 5 = k + 4 + 1 from rfl, s0, show k + 4 = k + 3 + 1 from rfl, s1, show k + 3 = k + 2 + 1 from rfl, s2, show k + 2 = k + 1 + 1 from rfl, s3, frame_Pack.l0, if_neg n4]
  refine congrArg some ?_
  unfold t4
  simp
def headL (s : Nat) (kind : Int) (p : List Int) : List Int := cb s p.length ++ [kind] ++ p
def packL (s : Nat) (kind : Int) (p : List Int) : List Int := headL s kind p ++ t4 (sumN (headL s kind p))
theorem cb_length (s n : Nat) (h : Takes s n) : (cb s n).length = s := by
  unfold cb
  rw [List.length_cons, tl_length]
  have := h.1
  omega
theorem headL_length (s : Nat) (kind : Int) (p : List Int) (h : Takes s p.length) : (headL s kind p).length = s + 1 + p.length := by
  unfold headL
  rw [List.length_append, List.length_append, cb_length s _ h]
  rfl
theorem headL_bytes (s : Nat) (kind : Int) (p : List Int) (h : Takes s p.length) (hk : 0 ≤ kind ∧ kind < 256) (hp : isBytes p) : isBytes (headL s kind p) := isBytes_append (isBytes_append (cb_bytes s _ h) (isBytes_one hk)) hp
theorem packL_bytes (s : Nat) (kind : Int) (p : List Int) (h : Takes s p.length) (hk : 0 ≤ kind ∧ kind < 256) (hp : isBytes p) : isBytes (packL s kind p) := isBytes_append (headL_bytes s kind p h hk hp) (t4_bytes _)
theorem packL_length (s : Nat) (kind : Int) (p : List Int) (h : Takes s p.length) : (packL s kind p).length = s + 1 + p.length + 4 := by
  unfold packL
  rw [List.length_append, headL_length s kind p h, t4_length]
theorem pack_is (K : Nat) (kind : Int) (p : List Int) (hk : 0 ≤ kind ∧ kind < 256) (hp : isBytes p) (hl : p.length < 10000) (hK : p.length + 60 < K) : ∃ s, Takes s p.length ∧ frame_Pack.f K kind p = some (packL s kind p) := by
  obtain ⟨k, rfl⟩ : ∃ k, K = k + 11 := ⟨K - 11, by omega⟩
  obtain ⟨s, hs, _, hput⟩ := put_is k p.length (by omega)
  have h9 := hs.2.1
  refine ⟨s, hs, ?_⟩
  have e1 : Aside0 (IntKind.u64.wrap (p.length : Int) = (p.length : Int)) := ⟨by rw [wr64]; omega⟩
  have hb := headL_bytes s kind p hs hk hp
  have hll := headL_length s kind p hs
  have hc := cb_length s p.length hs
  have hsum := sum_is (k + 11) (headL s kind p) hb (by omega) (by omega)
  have ht := pack_tail (k + 6) (sumN (headL s kind p)) (headL s kind p) (by omega)
  have g1 : (cb s p.length).length < 140737488355328 := by omega
  have g2 : (cb s p.length ++ [kind]).length + p.length < 140737488355328 := by rw [List.length_append, hc]; simp; omega
  unfold frame_Pack.f
  rw [e1.out, hput [] (by simp), Option.bind_some, List.nil_append, if_pos g1, Option.bind_some, if_pos g2, Option.bind_some]
  show ((tally_Sum.f (k + 11) (headL s kind p)).bind fun t155 => frame_Pack.l0 (k + 11) (headL s kind p) t155 0) = _
  rw [hsum, Option.bind_some]
  exact ht

theorem tail_is (K : Nat) (q : List Int) (hq : isBytes q) (hl : q.length < 100000) (hK : 8 * q.length + 1 < K) : milestoneref01_Tail.f K q = some (t4 (sumN q)) := by
  obtain ⟨k, rfl⟩ : ∃ k, K = k + 1 + 8 * q.length := ⟨K - 1 - 8 * q.length, by omega⟩
  have hs := refsum_is k q hq (by omega)
  have hlt := sumN_lt q hq
  unfold milestoneref01_Tail.f
  rw [hs, Option.bind_some]
  refine congrArg some ?_
  show [_, _, _, _] = t4 (sumN q)
  unfold t4
  rw [show crcV (crcF crcM q) = sumN q from rfl]
  generalize sumN q = s at hlt ⊢
  have e1 : (Int.tmod (s : Int) 256) % 256 = ((s % 256 : Nat) : Int) := by rw [Int.tmod_eq_emod_of_nonneg (Int.natCast_nonneg _)]; omega
  have e2 : (Int.tdiv (s : Int) 256) % 256 = ((s / 256 % 256 : Nat) : Int) := by rw [Int.tdiv_eq_ediv_of_nonneg (Int.natCast_nonneg _)]; omega
  have e3 : (Int.tdiv (s : Int) 65536) % 256 = ((s / 65536 % 256 : Nat) : Int) := by rw [Int.tdiv_eq_ediv_of_nonneg (Int.natCast_nonneg _)]; omega
  have e4 : (Int.tdiv (s : Int) 16777216) % 256 = ((s / 16777216 % 256 : Nat) : Int) := by rw [Int.tdiv_eq_ediv_of_nonneg (Int.natCast_nonneg _)]; omega
  rw [e1, e2, e3, e4]
theorem rpack_is (K s : Nat) (kind : Int) (p : List Int) (hk : 0 ≤ kind ∧ kind < 256) (hp : isBytes p) (hl : p.length < 10000) (hs : Takes s p.length) (hK : 8 * p.length + 300 < K) : milestoneref05_Pack.f K kind p = some (packL s kind p) := by
  obtain ⟨k, rfl⟩ : ∃ k, K = k + 90 := ⟨K - 90, by omega⟩
  have h9 := hs.2.1
  have e1 : Aside0 (IntKind.u64.wrap (p.length : Int) = (p.length : Int)) := ⟨by rw [wr64]; omega⟩
  have hb := headL_bytes s kind p hs hk hp
  have hll := headL_length s kind p hs
  have hc := cb_length s p.length hs
  have ht := tail_is (k + 90) (headL s kind p) hb (by omega) (by omega)
  have hcoin := coin_is k s p.length hs (by omega)
  have g1 : (cb s p.length).length < 140737488355328 := by omega
  have g2 : (cb s p.length ++ [kind]).length + p.length < 140737488355328 := by rw [List.length_append, hc]; simp; omega
  have g3 : (headL s kind p).length + (t4 (sumN (headL s kind p))).length < 140737488355328 := by rw [hll, t4_length]; omega
  unfold milestoneref05_Pack.f
  rw [e1.out, hcoin, Option.bind_some, if_pos g1, Option.bind_some, if_pos g2, Option.bind_some]
  show ((milestoneref01_Tail.f (k + 90) (headL s kind p)).bind fun t186 => (if (headL s kind p).length + t186.length < 140737488355328 then (some (headL s kind p ++ t186)) else (none))) = _
  rw [ht, Option.bind_some, if_pos g3]
  rfl
/-- four bytes as a number, the lowest first -/
def j4 (t : List Int) : Nat := (rd t 0).toNat + 256 * (rd t 1).toNat + 65536 * (rd t 2).toNat + 16777216 * (rd t 3).toNat
theorem j4_iff (t : List Int) (ht : isBytes t) (hl : t.length = 4) (s : Nat) (hs : s < 4294967296) : j4 t = s ↔ t = t4 s := by
  match t, hl with
  | [a, b, c, d], _ =>
    have ha := ht a (by simp)
    have hb := ht b (by simp)
    have hc := ht c (by simp)
    have hd := ht d (by simp)
    have e : j4 [a, b, c, d] = a.toNat + 256 * b.toNat + 65536 * c.toNat + 16777216 * d.toNat := rfl
    rw [e]
    unfold t4
    constructor
    · intro h
      have h1 : a = ((s % 256 : Nat) : Int) := by omega
      have h2 : b = ((s / 256 % 256 : Nat) : Int) := by omega
      have h3 : c = ((s / 65536 % 256 : Nat) : Int) := by omega
      have h4 : d = ((s / 16777216 % 256 : Nat) : Int) := by omega
      rw [h1, h2, h3, h4]
    · intro h
      injection h with h1 h
      injection h with h2 h
      injection h with h3 h
      injection h with h4 h
      omega
theorem rd_drop_add (q : List Int) (at_ j : Nat) : rd q ((at_ + j : Nat) : Int) = rd (q.drop at_) (j : Nat) := by
  unfold rd
  rw [Int.toNat_natCast, Int.toNat_natCast, List.getD_eq_getElem?_getD, List.getD_eq_getElem?_getD, List.getElem?_drop]
theorem or_add (x y m : Nat) (hx : x < 2 ^ m) : x ||| 2 ^ m * y = 2 ^ m * y + x := by
  rw [Nat.or_comm]
  exact (Nat.two_pow_add_eq_or_of_lt hx y).symm
theorem one_step (k at_ body end_ i acc : Nat) (q : List Int) (b : Nat) (hi : i < 4) (hq : end_ + 4 ≤ q.length) (hl : q.length < 1000000) (hb : rd q ((end_ + i : Nat) : Int) = (b : Int)) (hbn : b < 256) (ha : acc < 256 ^ i) :
    frame_One.l0 (k + 1) q (at_ : Int) (body : Int) (end_ : Int) (acc : Int) (i : Int) = frame_One.l0 k q (at_ : Int) (body : Int) (end_ : Int) ((256 ^ i * b + acc : Nat) : Int) ((i + 1 : Nat) : Int) := by
  have e1 : Aside0 (wrap64 (8 * (i : Int)) = ((8 * i : Nat) : Int)) := ⟨by unfold wrap64; omega⟩
  have e2 : Aside0 (wrap64 ((i : Int) + 1) = ((i + 1 : Nat) : Int)) := ⟨by unfold wrap64; omega⟩
  have e3 : Aside0 (wrap64 ((end_ : Int) + (i : Int)) = ((end_ + i : Nat) : Int)) := ⟨by unfold wrap64; omega⟩
  have hp : 256 ^ i ≤ 16777216 := by
    have : 256 ^ i ≤ 256 ^ 3 := Nat.pow_le_pow_right (by omega) (by omega)
    omega
  have hbp : b * 256 ^ i < 4294967296 := by
    have : b * 256 ^ i ≤ 255 * 16777216 := Nat.mul_le_mul (by omega) hp
    omega
  have e4 : shl .u32 ((b : Int) % 4294967296) ((8 * i : Nat) : Int) = ((256 ^ i * b : Nat) : Int) := by
    unfold shl
    have e : min ((8 * i : Nat) : Int).toNat IntKind.u32.bits = 8 * i := by
      have : IntKind.u32.bits = 32 := rfl
      omega
    have ep : (2 : Nat) ^ (8 * i) = 256 ^ i := by rw [Nat.pow_mul]
    have em : (b : Int) * 2 ^ (8 * i) = ((b * 256 ^ i : Nat) : Int) := by
      rw [← ep]
      simp
    rw [e, show (b : Int) % 4294967296 = (b : Int) by omega, em, wr32, Nat.mul_comm (256 ^ i) b]
    generalize b * 256 ^ i = z at hbp ⊢
    omega
  have e5 : Go.bits .or .u32 (acc : Int) ((256 ^ i * b : Nat) : Int) = ((256 ^ i * b + acc : Nat) : Int) := by
    have h := u32_or_nat acc (256 ^ i * b) (Nat.lt_of_lt_of_le ha (Nat.le_trans hp (by omega))) (by rw [Nat.mul_comm]; exact hbp)
    rw [h]
    have h2 := or_add acc b (8 * i) (by rw [Nat.pow_mul]; exact ha)
    rw [Nat.pow_mul] at h2
    rw [show (2 : Nat) ^ 8 = 256 from rfl] at h2
    rw [h2]
  have h1 : (i : Int) < 4 := by omega
  have h2 : (0 : Int) ≤ ((8 * i : Nat) : Int) := Int.natCast_nonneg _
  have h3 : (0 : Int) ≤ ((end_ + i : Nat) : Int) := Int.natCast_nonneg _
  have h4 : ((end_ + i : Nat) : Int) < (q.length : Int) := by omega
  rw [frame_One.l0, if_pos h1, e3.out, if_pos h3, if_pos h4, e1.out, if_pos h2, hb, e4, e5, e2.out]

/-- the frame that begins at a place -/
theorem one_at (K at_ s : Nat) (q : List Int) (kind : Int) (p t rest : List Int) (hq : isBytes q) (hql : q.length < 100000) (hs : Takes s p.length) (hdrop : q.drop at_ = headL s kind p ++ (t ++ rest)) (ht : t.length = 4) (hpl : p.length < 1000000) (hK : p.length + 200 < K) :
    frame_One.f K q (at_ : Int) = if t = t4 (sumN (headL s kind p)) then some (kind, p, (at_ : Int), ((at_ + s + 1 + p.length + 4 : Nat) : Int), 0) else some (0, [], 0, 0, 4) := by
  obtain ⟨k, rfl⟩ : ∃ k, K = k + 26 := ⟨K - 26, by omega⟩
  have h9 := hs.2.1
  have h1s := hs.1
  have hall : isBytes (q.drop at_) := fun x hx => hq x (List.mem_of_mem_drop hx)
  rw [hdrop] at hall
  have hhb : isBytes (headL s kind p) := fun x hx => hall x (List.mem_append_left _ hx)
  have htb : isBytes t := fun x hx => hall x (List.mem_append_right _ (List.mem_append_left _ hx))
  have hlen : (q.drop at_).length = s + 1 + p.length + 4 + rest.length := by
    rw [hdrop, List.length_append, List.length_append, headL_length s kind p hs, ht]
    omega
  have hlen2 := hlen
  rw [List.length_drop] at hlen2
  have hat : at_ + (s + 1 + p.length + 4) ≤ q.length := by omega
  have hget : coin_Get.f (k + 25) (q.drop at_) = some ((p.length : Int), (s : Int), 0) := by
    rw [hdrop]
    unfold headL
    rw [List.append_assoc, List.append_assoc]
    refine get_put k s p.length hs (by omega) _ ?_ ?_
    · intro x hx
      apply hall x
      unfold headL
      rw [List.append_assoc, List.append_assoc]
      exact List.mem_append_right _ hx
    · have := hlen
      rw [hdrop] at this
      unfold headL at this
      rw [List.append_assoc, List.append_assoc, List.length_append] at this
      omega
  have w1 : Aside0 (wrap64 ((at_ : Int) + (s : Int)) = ((at_ + s : Nat) : Int)) := ⟨by unfold wrap64; omega⟩
  have w2 : Aside0 (wrap64 (((at_ + s : Nat) : Int) + 1) = ((at_ + s + 1 : Nat) : Int)) := ⟨by unfold wrap64; omega⟩
  have w3 : Aside0 (wrap64 (p.length : Int) = (p.length : Int)) := ⟨by unfold wrap64; omega⟩
  have w4 : Aside0 (wrap64 (((at_ + s + 1 : Nat) : Int) + (p.length : Int)) = ((at_ + s + 1 + p.length : Nat) : Int)) := ⟨by unfold wrap64; omega⟩
  have w5 : Aside0 (wrap64 (((at_ + s + 1 + p.length : Nat) : Int) + 4) = ((at_ + s + 1 + p.length + 4 : Nat) : Int)) := ⟨by unfold wrap64; omega⟩
  have w6 : Aside0 (wrap64 (((at_ + s + 1 : Nat) : Int) - 1) = ((at_ + s : Nat) : Int)) := ⟨by unfold wrap64; omega⟩
  have c0 : ¬ ((at_ : Int) < 0) := by omega
  have c1 : decide ((at_ : Int) > (q.length : Int)) = false := decide_eq_false (by omega)
  have c2 : (0 : Int) ≤ (at_ : Int) := Int.natCast_nonneg _
  have c3 : (at_ : Int) ≤ (q.length : Int) := by omega
  have c4 : ¬ ((p.length : Int) > 1048576) := by omega
  have c5 : ¬ (((at_ + s + 1 + p.length + 4 : Nat) : Int) > (q.length : Int)) := by omega
  -- the sum's bytes
  have rt : ∀ j, j < 4 → rd q ((at_ + s + 1 + p.length + j : Nat) : Int) = rd t (j : Nat) := by
    intro j hj
    rw [show at_ + s + 1 + p.length + j = at_ + (s + 1 + p.length + j) by omega, rd_drop_add, hdrop]
    unfold rd
    rw [Int.toNat_natCast, Int.toNat_natCast, List.getD_eq_getElem?_getD, List.getD_eq_getElem?_getD, List.getElem?_append_right (by rw [headL_length s kind p hs]; omega), headL_length s kind p hs, show s + 1 + p.length + j - (s + 1 + p.length) = j by omega, List.getElem?_append_left (by omega)]
  have by_ : ∀ j, j < 4 → ∃ b : Nat, rd t (j : Nat) = (b : Int) ∧ b < 256 := by
    intro j hj
    have hr := rd_byte t htb j (by omega)
    exact ⟨(rd t (j : Nat)).toNat, by omega, by omega⟩
  obtain ⟨b0, r0, l0⟩ := by_ 0 (by omega)
  obtain ⟨b1, r1, l1⟩ := by_ 1 (by omega)
  obtain ⟨b2, r2, l2⟩ := by_ 2 (by omega)
  obtain ⟨b3, r3, l3⟩ := by_ 3 (by omega)
  have f0 := one_step (k + 24) at_ (at_ + s + 1) (at_ + s + 1 + p.length) 0 0 q b0 (by omega) (by omega) (by omega) ((rt 0 (by omega)).trans r0) l0 (by omega)
  have f1 := one_step (k + 23) at_ (at_ + s + 1) (at_ + s + 1 + p.length) 1 (256 ^ 0 * b0 + 0) q b1 (by omega) (by omega) (by omega) ((rt 1 (by omega)).trans r1) l1 (by omega)
  have f2 := one_step (k + 22) at_ (at_ + s + 1) (at_ + s + 1 + p.length) 2 (256 ^ 1 * b1 + (256 ^ 0 * b0 + 0)) q b2 (by omega) (by omega) (by omega) ((rt 2 (by omega)).trans r2) l2 (by omega)
  have f3 := one_step (k + 21) at_ (at_ + s + 1) (at_ + s + 1 + p.length) 3 (256 ^ 2 * b2 + (256 ^ 1 * b1 + (256 ^ 0 * b0 + 0))) q b3 (by omega) (by omega) (by omega) ((rt 3 (by omega)).trans r3) l3 (by omega)
  have hj : 256 ^ 3 * b3 + (256 ^ 2 * b2 + (256 ^ 1 * b1 + (256 ^ 0 * b0 + 0))) = j4 t := by
    unfold j4
    rw [show rd t 0 = rd t ((0 : Nat) : Int) from rfl, show rd t 1 = rd t ((1 : Nat) : Int) from rfl, show rd t 2 = rd t ((2 : Nat) : Int) from rfl, show rd t 3 = rd t ((3 : Nat) : Int) from rfl, r0, r1, r2, r3]
    omega
  rw [hj] at f3
  have z0 : ((0 : Nat) : Int) = 0 := rfl
  rw [z0] at f0
  -- the rest
  have hsl : (q.take (at_ + s + 1 + p.length)).drop at_ = headL s kind p := by
    rw [List.drop_take, hdrop, show at_ + s + 1 + p.length - at_ = (headL s kind p).length by rw [headL_length s kind p hs]; omega, List.take_left]
  have hbody : (q.take (at_ + s + 1 + p.length)).drop (at_ + s + 1) = p := by
    rw [show at_ + s + 1 = at_ + (s + 1) by omega, ← List.drop_drop, show at_ + (s + 1) + p.length = at_ + s + 1 + p.length by omega, hsl]
    unfold headL
    rw [List.drop_left' (by rw [List.length_append, cb_length s _ hs]; rfl)]
  have hkind : rd q ((at_ + s : Nat) : Int) = kind := by
    rw [rd_drop_add, hdrop]
    unfold rd headL
    rw [Int.toNat_natCast, List.append_assoc, List.append_assoc, List.getD_eq_getElem?_getD, List.getElem?_append_right (by rw [cb_length s _ hs]; omega), cb_length s _ hs, Nat.sub_self]
    rfl
  have hsum := sum_is (k + 20) (headL s kind p) hhb (by rw [headL_length s kind p hs]; omega) (by rw [headL_length s kind p hs]; omega)
  have hiff := j4_iff t htb ht (sumN (headL s kind p)) (sumN_lt _ hhb)
  have d1 : (at_ : Int) ≤ ((at_ + s + 1 + p.length : Nat) : Int) := by omega
  have d2 : ((at_ + s + 1 + p.length : Nat) : Int) ≤ (q.length : Int) := by omega
  have d3 : (0 : Int) ≤ ((at_ + s : Nat) : Int) := Int.natCast_nonneg _
  have d4 : ((at_ + s : Nat) : Int) < (q.length : Int) := by omega
  have d5 : (0 : Int) ≤ ((at_ + s + 1 : Nat) : Int) := Int.natCast_nonneg _
  have d6 : ((at_ + s + 1 : Nat) : Int) ≤ ((at_ + s + 1 + p.length : Nat) : Int) := by omega
  have d7 : ([] : List Int).length + p.length < 140737488355328 := by simp; omega
  have n4 : ¬ (((3 + 1 : Nat) : Int) < 4) := by omega
  have main : frame_One.l0 (k + 25) q (at_ : Int) ((at_ + s + 1 : Nat) : Int) ((at_ + s + 1 + p.length : Nat) : Int) 0 0 = if t = t4 (sumN (headL s kind p)) then some (kind, p, (at_ : Int), ((at_ + s + 1 + p.length + 4 : Nat) : Int), 0) else some (0, [], 0, 0, 4) := by
    rw [show k + 25 = k + 24 + 1 from rfl, f0, show k + 24 = k + 23 + 1 from rfl, f1, show k + 23 = k + 22 + 1 from rfl, f2, show k + 22 = k + 21 + 1 from rfl, f3, show k + 21 = (k + 20) + 1 from rfl, frame_One.l0, if_neg n4, if_pos c2, if_pos d1, if_pos d2, Int.toNat_natCast, Int.toNat_natCast, hsl, hsum, Option.bind_some]
    by_cases he : t = t4 (sumN (headL s kind p))
    · have e : ((j4 t : Nat) : Int) = ((crcV (crcF crcM (headL s kind p)) : Nat) : Int) := by rw [hiff.2 he]; rfl
      rw [if_pos e, if_pos he, w6.out, if_pos d3, if_pos d4, if_pos d5, if_pos d6, Int.toNat_natCast, hbody, if_pos d7, hkind, w5.out, List.nil_append]
    · have e : ¬ ((j4 t : Nat) : Int) = ((crcV (crcF crcM (headL s kind p)) : Nat) : Int) := fun z => he (hiff.1 (Int.natCast_inj.1 z))
      rw [if_neg e, if_neg he]
  unfold frame_One.f
  rw [if_neg c0, c1, frame_One.j0, if_neg (by decide), if_pos c2, if_pos c3, Int.toNat_natCast, hget, Option.bind_some, if_pos rfl, if_neg c4, w1.out, w2.out, w3.out, w4.out, w5.out, if_neg c5]
  exact main

/-- of any bytes: the number ahead, or none -/
theorem get_any (k : Nat) (b : List Int) (hb : isBytes b) (hl : b.length < 1000000) :
    (∃ (s n : Nat) (rest : List Int), Takes s n ∧ n < 18446744073709551616 ∧ b = cb s n ++ rest ∧ coin_Get.f (k + 25) b = some ((n : Int), (s : Int), 0)) ∨
    (∃ e : Int, (e = 4 ∨ e = 5) ∧ coin_Get.f (k + 25) b = some (0, 0, e)) := by
  match b, hb, hl with
  | [], _, _ =>
    refine .inr ⟨5, .inr rfl, ?_⟩
    unfold coin_Get.f
    rw [if_pos (by simp)]
  | x :: q, hb, hl =>
    have hx := hb x List.mem_cons_self
    have hq : isBytes q := fun z hz => hb z (List.mem_cons_of_mem _ hz)
    obtain ⟨c, rfl⟩ := Int.eq_ofNat_of_zero_le hx.1
    have hl' : q.length < 1000000 := by simp at hl; omega
    obtain ⟨K, h, h1, h9, hk9, hk8, hcase⟩ := get_is k c q (by omega) hq (by omega)
    rcases hcase with ⟨hs, hg⟩ | ⟨hle, s, hT, hg⟩
    · exact .inr ⟨5, .inr rfl, hg⟩
    · by_cases hsK : s = K
      · subst hsK
        rw [if_pos rfl] at hg
        have hql : (q.take (s - 1)).length = s - 1 := by rw [List.length_take]; omega
        have hqb : isBytes (q.take (s - 1)) := fun z hz => hq z (List.mem_of_mem_take hz)
        have htl := tl_foldv (q.take (s - 1)) h hqb
        rw [hql] at htl
        refine .inl ⟨s, foldv h (q.take (s - 1)), q.drop (s - 1), hT, ?_, ?_, hg⟩
        · by_cases hs9 : s = 9
          · obtain ⟨_, h0⟩ := hk9 hs9
            have := foldv_lt (q.take (s - 1)) h 1 hqb (by omega)
            rw [hql, hs9] at this
            subst hs9
            omega
          · obtain ⟨hh, _⟩ := hk8 (by omega)
            have := foldv_lt (q.take (s - 1)) h (2 ^ (8 - s)) hqb hh
            rw [hql] at this
            have e : 2 ^ (8 - s) * 256 ^ (s - 1) ≤ 2 ^ 64 := by
              rw [show (256 : Nat) = 2 ^ 8 from rfl, ← Nat.pow_mul, ← Nat.pow_add]
              exact Nat.pow_le_pow_right (by omega) (by omega)
            exact Nat.lt_of_lt_of_le this e
        · unfold cb
          rw [htl.1, List.cons_append, List.take_append_drop]
          refine congrArg (fun z => z :: q) ?_
          unfold hd1
          by_cases hs9 : s = 9
          · rw [if_pos hs9, (hk9 hs9).1]; rfl
          · rw [if_neg hs9, htl.2, ← (hk8 (by omega)).2]
      · rw [if_neg hsK] at hg
        exact .inr ⟨4, .inl rfl, hg⟩

/-- any bytes: a frame begins there, or none does -/
theorem one_any (K at_ : Nat) (q : List Int) (hq : isBytes q) (hql : q.length < 100000) (hat : at_ ≤ q.length) (hK : q.length + 300 < K) :
    (∃ e : Int, e ≠ 0 ∧ frame_One.f K q (at_ : Int) = some (0, [], 0, 0, e)) ∨
    (∃ (s : Nat) (kind : Int) (p t rest : List Int), Takes s p.length ∧ p.length < 10000000 ∧ q.drop at_ = headL s kind p ++ (t ++ rest) ∧ t.length = 4 ∧ t = t4 (sumN (headL s kind p)) ∧
      frame_One.f K q (at_ : Int) = some (kind, p, (at_ : Int), ((at_ + s + 1 + p.length + 4 : Nat) : Int), 0)) := by
  obtain ⟨k, rfl⟩ : ∃ k, K = k + 26 := ⟨K - 26, by omega⟩
  have hall : isBytes (q.drop at_) := fun x hx => hq x (List.mem_of_mem_drop hx)
  have hdl : (q.drop at_).length = q.length - at_ := List.length_drop
  have c0 : ¬ ((at_ : Int) < 0) := by omega
  have c1 : decide ((at_ : Int) > (q.length : Int)) = false := decide_eq_false (by omega)
  have c2 : (0 : Int) ≤ (at_ : Int) := Int.natCast_nonneg _
  have c3 : (at_ : Int) ≤ (q.length : Int) := by omega
  rcases get_any k (q.drop at_) hall (by omega) with ⟨s, n, rest, hs, hn, hb, hget⟩ | ⟨e, he, hget⟩
  · have h9 := hs.2.1
    have hc := cb_length s n hs
    have hrl : (q.drop at_).length = s + rest.length := by rw [hb, List.length_append, hc]
    by_cases hbig : n > 1048576
    · refine .inl ⟨6, by omega, ?_⟩
      have c4 : ((n : Nat) : Int) > 1048576 := by omega
      unfold frame_One.f
      rw [if_neg c0, c1, frame_One.j0, if_neg (by decide), if_pos c2, if_pos c3, Int.toNat_natCast, hget, Option.bind_some, if_pos rfl, if_pos c4]
    · have w1 : Aside0 (wrap64 ((at_ : Int) + (s : Int)) = ((at_ + s : Nat) : Int)) := ⟨by unfold wrap64; omega⟩
      have w2 : Aside0 (wrap64 (((at_ + s : Nat) : Int) + 1) = ((at_ + s + 1 : Nat) : Int)) := ⟨by unfold wrap64; omega⟩
      have w3 : Aside0 (wrap64 (n : Int) = (n : Int)) := ⟨by unfold wrap64; omega⟩
      have w4 : Aside0 (wrap64 (((at_ + s + 1 : Nat) : Int) + (n : Int)) = ((at_ + s + 1 + n : Nat) : Int)) := ⟨by unfold wrap64; omega⟩
      have w5 : Aside0 (wrap64 (((at_ + s + 1 + n : Nat) : Int) + 4) = ((at_ + s + 1 + n + 4 : Nat) : Int)) := ⟨by unfold wrap64; omega⟩
      by_cases hshort : at_ + s + 1 + n + 4 > q.length
      · refine .inl ⟨5, by omega, ?_⟩
        have c4 : ¬ ((n : Int) > 1048576) := by omega
        have c5 : (((at_ + s + 1 + n + 4 : Nat) : Int) > (q.length : Int)) := by omega
        unfold frame_One.f
        rw [if_neg c0, c1, frame_One.j0, if_neg (by decide), if_pos c2, if_pos c3, Int.toNat_natCast, hget, Option.bind_some, if_pos rfl, if_neg c4, w1.out, w2.out, w3.out, w4.out, w5.out, if_pos c5]
      · match rest, hb, hrl with
        | [], _, hrl => simp at hrl; omega
        | kind :: r2, hb, hrl =>
          have hr2 : r2.length + 1 + s = q.length - at_ := by simp at hrl; omega
          have hpl : (r2.take n).length = n := by rw [List.length_take]; omega
          have htl : ((r2.drop n).take 4).length = 4 := by rw [List.length_take, List.length_drop]; omega
          have hT : Takes s (r2.take n).length := by rw [hpl]; exact hs
          have hdrop : q.drop at_ = headL s kind (r2.take n) ++ ((r2.drop n).take 4 ++ (r2.drop n).drop 4) := by
            rw [List.take_append_drop, hb]
            unfold headL
            rw [hpl, List.append_assoc, List.append_assoc, List.take_append_drop]
            rfl
          have h1 := one_at (k + 26) at_ s q kind (r2.take n) ((r2.drop n).take 4) ((r2.drop n).drop 4) hq hql hT hdrop htl (by omega) (by omega)
          by_cases he : (r2.drop n).take 4 = t4 (sumN (headL s kind (r2.take n)))
          · rw [if_pos he] at h1
            exact .inr ⟨s, kind, r2.take n, (r2.drop n).take 4, (r2.drop n).drop 4, hT, by omega, hdrop, htl, he, h1⟩
          · rw [if_neg he] at h1
            exact .inl ⟨4, by omega, h1⟩
  · refine .inl ⟨e, by omega, ?_⟩
    have c4 : ¬ e = 0 := by omega
    unfold frame_One.f
    rw [if_neg c0, c1, frame_One.j0, if_neg (by decide), if_pos c2, if_pos c3, Int.toNat_natCast, hget, Option.bind_some, if_neg c4]
theorem one_arg (K : Nat) (q : List Int) (a : Int) (h : a < 0 ∨ a > (q.length : Int)) : frame_One.f (K + 1) q a = some (0, [], 0, 0, 1) := by
  unfold frame_One.f
  by_cases h0 : a < 0
  · rw [if_pos h0, frame_One.j0, if_pos rfl]
  · rw [if_neg h0, decide_eq_true (by omega), frame_One.j0, if_pos rfl]
theorem takes_mono (s t a b : Nat) (hs : Takes s a) (ht : Takes t b) (h : a ≤ b) : s ≤ t := by
  apply Classical.byContradiction
  intro hlt
  have h1 := ht.1
  have h2 := hs.2.1
  have ha := hs.2.2 t h1 (by omega)
  have hb := (ht.2.2 t h1 (by omega)).1 (Nat.le_refl _)
  have := ha.2 (by omega)
  omega
/-- numbers that end alike are alike -/
theorem same_end (s t a b : Nat) (hs : Takes s a) (ht : Takes t b) (h : s + a = t + b) : s = t ∧ a = b := by
  rcases Nat.lt_trichotomy a b with hl | he | hl
  · have := takes_mono s t a b hs ht (by omega)
    omega
  · exact ⟨by omega, he⟩
  · have := takes_mono t s b a ht hs (by omega)
    omega

theorem awake_60 : milestonelaw06_awake.f 60 = some true := by decide +kernel
theorem awake_is (k : Nat) (h : 60 ≤ k) : milestonelaw06_awake.f k = some true := by
  obtain ⟨d, rfl⟩ : ∃ d, k = 60 + d := ⟨k - 60, by omega⟩
  clear h
  induction d with
  | zero => exact awake_60
  | succ d ih => exact milestonelaw06_awake.mono (60 + d) _ ih

/-! ## the reference's Take is Get, on any bytes -/
def leadOk (c K : Nat) : Bool := (List.range 9).all fun i => !(decide (1 ≤ i) && decide (i < K)) || decide (128 ≤ (c * 2 ^ (i - 1)) % 256)
def leadAll : Bool := (List.range 256).all fun c => (List.range 9).all fun K =>
  !(decide (1 ≤ K) && decide (256 - 2 ^ (9 - K) ≤ c) && decide (c < 256 - 2 ^ (9 - K) + 2 ^ (8 - K))) || (leadOk c K && decide ((c * 2 ^ (K - 1)) % 256 < 128))
theorem lead_all2 : leadAll = true := by decide +kernel
theorem lead_255 : leadOk 255 9 = true := by decide +kernel
theorem lead_use (c K : Nat) (hc : c < 256) (h1 : 1 ≤ K) (h9 : K ≤ 9) (hk9 : K = 9 → c = 255) (hk8 : K ≤ 8 → ∃ h, h < 2 ^ (8 - K) ∧ c = 256 - 2 ^ (9 - K) + h) :
    (∀ i, 1 ≤ i → i < K → 128 ≤ (c * 2 ^ (i - 1)) % 256) ∧ (K < 9 → (c * 2 ^ (K - 1)) % 256 < 128) := by
  have use : leadOk c K = true → ∀ i, 1 ≤ i → i < K → 128 ≤ (c * 2 ^ (i - 1)) % 256 := by
    intro h i hi hik
    have := List.all_eq_true.1 h i (List.mem_range.2 (by omega))
    rw [decide_eq_true hi, decide_eq_true hik] at this
    exact of_decide_eq_true (by simpa using this)
  by_cases h : K = 9
  · subst h
    rw [hk9 rfl] at use ⊢
    exact ⟨use lead_255, fun hx => absurd hx (by omega)⟩
  · obtain ⟨g, hg, hcg⟩ := hk8 (by omega)
    have h2 := List.all_eq_true.1 (List.all_eq_true.1 lead_all2 c (List.mem_range.2 hc)) K (List.mem_range.2 (by omega))
    rw [decide_eq_true h1, decide_eq_true (show 256 - 2 ^ (9 - K) ≤ c by omega), decide_eq_true (show c < 256 - 2 ^ (9 - K) + 2 ^ (8 - K) by omega)] at h2
    simp only [Bool.and_true, Bool.not_true, Bool.false_or, Bool.and_eq_true, decide_eq_true_eq] at h2
    exact ⟨use h2.1, fun _ => h2.2⟩
theorem wrN (n : Nat) (h : n < 100000000) : wrap64 ((n : Int) + 1) = ((n + 1 : Nat) : Int) := by unfold wrap64; omega
theorem take_lead (x0 : List Int) (c K : Nat) (h9 : K ≤ 9) (H1 : ∀ i, 1 ≤ i → i < K → 128 ≤ (c * 2 ^ (i - 1)) % 256) (H2 : K < 9 → (c * 2 ^ (K - 1)) % 256 < 128) (k d : Nat) : ∀ i, 1 ≤ i → i + d = K →
    milestoneref01_Take.l0 (k + d + 1) x0 (i : Int) (((c * 2 ^ (i - 1)) % 256 : Nat) : Int) = milestoneref01_Take.j1 k x0 (K : Int) := by
  induction d with
  | zero =>
    intro i h1 hi
    have : i = K := by omega
    subst this
    rw [milestoneref01_Take.l0]
    by_cases h : i = 9
    · rw [if_neg (by omega)]
    · have := H2 (by omega)
      rw [if_pos (by omega), if_neg (by omega)]
  | succ d ih =>
    intro i h1 hi
    have hb := H1 i h1 (by omega)
    have e : ((((c * 2 ^ (i - 1)) % 256 : Nat) : Int) * 2) % 256 = (((c * 2 ^ (i + 1 - 1)) % 256 : Nat) : Int) := by
      obtain ⟨j, rfl⟩ : ∃ j, i = j + 1 := ⟨i - 1, by omega⟩
      rw [show j + 1 + 1 - 1 = j + 1 from rfl, show j + 1 - 1 = j from rfl, Nat.pow_succ, ← Nat.mul_assoc]
      generalize c * 2 ^ j = y
      omega
    rw [show k + (d + 1) + 1 = (k + d + 1) + 1 from rfl, milestoneref01_Take.l0, if_pos (by omega), if_pos (by omega), wrN i (by omega), e]
    exact ih (i + 1) (by omega) (by omega)
theorem take_strip (x0 : List Int) (c K : Nat) (hc : c < 256) (h1 : 1 ≤ K) (h9 : K ≤ 9) (hlo : 256 - 2 ^ (9 - K) ≤ c) (k d : Nat) : ∀ i, 1 ≤ i → i + d = K →
    milestoneref01_Take.l1 (k + d + 1) x0 (K : Int) ((c - (256 - 2 ^ (9 - i)) : Nat) : Int) ((2 ^ (8 - i) / (if i = 9 then 2 else 1) : Nat) : Int) (i : Int) = milestoneref01_Take.j3 k x0 (K : Int) ((c - (256 - 2 ^ (9 - K)) : Nat) : Int) := by
  induction d with
  | zero =>
    intro i hi1 hi
    have : i = K := by omega
    subst this
    rw [milestoneref01_Take.l1, if_neg (by omega)]
  | succ d ih =>
    intro i hi1 hi
    have hp : 0 < 2 ^ (8 - i) := Nat.two_pow_pos _
    have p1 : 2 ^ (9 - i) = 2 * 2 ^ (8 - i) := by rw [show 9 - i = (8 - i) + 1 by omega, Nat.pow_succ]; omega
    have p2 : 2 ^ (9 - K) ≤ 2 ^ (8 - i) := Nat.pow_le_pow_right (by omega) (by omega)
    have p3 : 2 ^ (8 - i) ≤ 128 := Nat.pow_le_pow_right (n := 2) (by omega) (show 8 - i ≤ 7 by omega)
    have p4 : 2 ^ (9 - (i + 1)) = 2 ^ (8 - i) := by rw [show 9 - (i + 1) = 8 - i by omega]
    have p5 : 2 ^ (8 - i) / 2 = 2 ^ (8 - (i + 1)) / (if i + 1 = 9 then 2 else 1) := by
      by_cases h : i = 8
      · subst h; rfl
      · rw [if_neg (by omega), Nat.div_one, show 8 - i = 8 - (i + 1) + 1 by omega, Nat.pow_succ]
        omega
    have e0 : (2 ^ (8 - i) / (if i = 9 then 2 else 1) : Nat) = 2 ^ (8 - i) := by rw [if_neg (by omega), Nat.div_one]
    rw [e0]
    have e1 : IntKind.u64.wrap (((c - (256 - 2 ^ (9 - i)) : Nat) : Int) - ((2 ^ (8 - i) : Nat) : Int)) = ((c - (256 - 2 ^ (9 - (i + 1))) : Nat) : Int) := by
      rw [wr64, p4, p1] at *
      generalize 2 ^ (8 - i) = x at *
      generalize 2 ^ (9 - K) = y at *
      omega
    have e2 : IntKind.u64.wrap (Int.tdiv ((2 ^ (8 - i) : Nat) : Int) 2) = ((2 ^ (8 - (i + 1)) / (if i + 1 = 9 then 2 else 1) : Nat) : Int) := by
      rw [← p5, show Int.tdiv ((2 ^ (8 - i) : Nat) : Int) 2 = ((2 ^ (8 - i) / 2 : Nat) : Int) from rfl, wr64]
      generalize 2 ^ (8 - i) = x at p3
      omega
    rw [show k + (d + 1) + 1 = (k + d + 1) + 1 from rfl, milestoneref01_Take.l1, if_pos (by omega), if_pos (by exact Int.ofNat_lt.2 hp), e1, e2, wrN i (by omega)]
    exact ih (i + 1) (by omega) (by omega)
theorem take_rd (q : List Int) (j : Nat) (h : j < q.length) : q.take (j + 1) = q.take j ++ [rd q (j : Nat)] := by
  rw [List.take_add, rd_drop q j h]
  rfl
theorem foldv_append (q r : List Int) : ∀ v, foldv v (q ++ r) = foldv (foldv v q) r := by
  induction q with
  | nil => intro v; rfl
  | cons x q ih => intro v; rw [List.cons_append, foldv, foldv, ih]
theorem bytes_toList (a b : List Int) (ha : isBytes a) (hb : isBytes b) : (strOfNums a).toList = (strOfNums b).toList ↔ a = b := by
  rw [str_list, str_list]
  constructor
  · intro h
    have h2 := congrArg (List.map fun z : UInt8 => (z.toNat : Int)) h
    rw [List.map_map, List.map_map] at h2
    have id_ : ∀ l : List Int, isBytes l → l.map ((fun z : UInt8 => (z.toNat : Int)) ∘ fun n : Int => UInt8.ofNat n.toNat) = l := by
      intro l hl
      refine (List.map_congr_left (g := id) fun n hn => ?_).trans (List.map_id l)
      have := hl n hn
      show ((UInt8.ofNat n.toNat).toNat : Int) = n
      rw [UInt8.toNat_ofNat']
      omega
    rwa [id_ a ha, id_ b hb] at h2
  · rintro rfl; rfl
/-- the bytes behind the first one -/
theorem take_fold (x : Int) (q : List Int) (hq : isBytes q) (hql : q.length < 1000000) (K : Nat) (h1 : 1 ≤ K) (h9 : K ≤ 9) (hK : K ≤ q.length + 1) (h : Nat) (hh : h < 2 ^ (64 - 8 * (K - 1))) (k s : Nat) (d : Nat) : ∀ (i : Nat), 1 ≤ i → i + d = K →
    milestoneref01_Take.l2 (k + d + 1) (x :: q) (K : Int) ((foldv h (q.take (i - 1)) : Nat) : Int) (i : Int) = milestoneref01_Take.l2 (k + 1) (x :: q) (K : Int) ((foldv h (q.take (K - 1)) : Nat) : Int) (K : Int) := by
  induction d with
  | zero =>
    intro i hi1 hi
    have : i = K := by omega
    subst this
    rfl
  | succ d ih =>
    intro i hi1 hi
    obtain ⟨j, rfl⟩ : ∃ j, i = j + 1 := ⟨i - 1, by omega⟩
    have hj : j < q.length := by omega
    have hlt : foldv h (q.take (j + 1)) < 18446744073709551616 := by
      have := foldv_lt (q.take (j + 1)) h (2 ^ (64 - 8 * (K - 1))) (fun z hz => hq z (List.mem_of_mem_take hz)) hh
      rw [List.length_take, Nat.min_eq_left (by omega)] at this
      refine Nat.lt_of_lt_of_le this ?_
      rw [show (256 : Nat) = 2 ^ 8 from rfl, ← Nat.pow_mul, ← Nat.pow_add, show (18446744073709551616 : Nat) = 2 ^ 64 from rfl]
      exact Nat.pow_le_pow_right (by omega) (by omega)
    have hrd : rd (x :: q) ((j + 1 : Nat) : Int) = rd q (j : Nat) := rfl
    have hb := rd_byte q hq j hj
    have htk : q.take (j + 1) = q.take j ++ [rd q (j : Nat)] := take_rd q j hj
    have hf : foldv h (q.take (j + 1)) = foldv h (q.take j) * 256 + (rd q (j : Nat)).toNat := by rw [htk, foldv_append]; rfl
    have hw : IntKind.u64.wrap (IntKind.u64.wrap (((foldv h (q.take (j + 1 - 1)) : Nat) : Int) * 256) + IntKind.u64.wrap (rd q (j : Nat))) = ((foldv h (q.take (j + 1)) : Nat) : Int) := by
      rw [wr64, wr64, wr64, show j + 1 - 1 = j from rfl]
      rw [hf] at hlt ⊢
      omega
    rw [show k + (d + 1) + 1 = (k + d + 1) + 1 from rfl, milestoneref01_Take.l2, if_pos (by omega), if_pos (by omega), if_pos (by rw [List.length_cons]; omega), hrd, hw, wrN (j + 1) (by omega)]
    exact ih (j + 2) (by omega) (by omega)
theorem take_any (k : Nat) (b : List Int) (hb : isBytes b) (hl : b.length < 1000000) :
    ∃ r, coin_Get.f (k + 25) b = some r ∧ milestoneref01_Take.f (k + 150) b = some r := by
  match b, hb, hl with
  | [], _, _ =>
    refine ⟨(0, 0, 5), ?_, ?_⟩
    · unfold coin_Get.f; rw [if_pos (by simp)]
    · unfold milestoneref01_Take.f; rw [if_pos (by simp)]
  | x :: q, hb, hl =>
    have hx := hb x List.mem_cons_self
    have hq : isBytes q := fun z hz => hb z (List.mem_cons_of_mem _ hz)
    obtain ⟨c, rfl⟩ := Int.eq_ofNat_of_zero_le hx.1
    have hl' : q.length < 1000000 := by simp at hl; omega
    have hc : c < 256 := by omega
    obtain ⟨K, h, h1, h9, hk9, hk8, hcase⟩ := get_is k c q hc hq (by omega)
    have hlead := lead_use c K hc h1 h9 (fun e => (hk9 e).1) (fun e => ⟨h, hk8 e⟩)
    have hlen : (((c : Int) :: q).length : Int) = ((q.length + 1 : Nat) : Int) := rfl
    have start_1 : milestoneref01_Take.f (k + 150) ((c : Int) :: q) = milestoneref01_Take.j1 (k + 149 - (K - 1)) ((c : Int) :: q) (K : Int) := by
      unfold milestoneref01_Take.f
      rw [hlen, if_neg (by omega), if_pos (by omega)]
      have := take_lead ((c : Int) :: q) c K h9 hlead.1 hlead.2 (k + 149 - (K - 1)) (K - 1) 1 (Nat.le_refl _) (by omega)
      rw [show k + 149 - (K - 1) + (K - 1) + 1 = k + 150 by omega, show (c * 2 ^ (1 - 1)) % 256 = c by simp; omega] at this
      exact this
    obtain ⟨z, hz⟩ : ∃ z, k + 149 - (K - 1) = z + 120 := ⟨k + 29 - (K - 1), by omega⟩
    rw [start_1, hz, show z + 120 = (z + 119) + 1 from rfl, milestoneref01_Take.j1, hlen]
    rcases hcase with ⟨hs, hg⟩ | ⟨hle, s, hT, hg⟩
    · rw [if_pos (by omega)]
      exact ⟨_, hg, rfl⟩
    · have hlo : 256 - 2 ^ (9 - K) ≤ c ∧ c - (256 - 2 ^ (9 - K)) = h := by
        by_cases e9 : K = 9
        · subst e9
          rw [(hk9 rfl).1, (hk9 rfl).2]
          exact ⟨by decide, by decide⟩
        · have := hk8 (by omega)
          omega
      have hh : h < 2 ^ (64 - 8 * (K - 1)) := by
        by_cases e9 : K = 9
        · rw [(hk9 e9).2]; exact Nat.two_pow_pos _
        · exact Nat.lt_of_lt_of_le (hk8 (by omega)).1 (Nat.pow_le_pow_right (by omega) (by omega))
      have hv : foldv h (q.take (K - 1)) < 18446744073709551616 := by
        have := foldv_lt (q.take (K - 1)) h (2 ^ (64 - 8 * (K - 1))) (fun z hz => hq z (List.mem_of_mem_take hz)) hh
        rw [List.length_take, Nat.min_eq_left (by omega)] at this
        refine Nat.lt_of_lt_of_le this ?_
        rw [show (256 : Nat) = 2 ^ 8 from rfl, ← Nat.pow_mul, ← Nat.pow_add, show (18446744073709551616 : Nat) = 2 ^ 64 from rfl]
        exact Nat.pow_le_pow_right (by omega) (by omega)
      have hql : (q.take (K - 1)).length = K - 1 := by rw [List.length_take]; omega
      have hqb : isBytes (q.take (K - 1)) := fun z hz => hq z (List.mem_of_mem_take hz)
      have hstrip := take_strip ((c : Int) :: q) c K hc h1 h9 hlo.1 (z + 119 - K) (K - 1) 1 (Nat.le_refl _) (by omega)
      rw [hlo.2, show z + 119 - K + (K - 1) + 1 = z + 119 by omega, show c - (256 - 2 ^ (9 - 1)) = c from rfl] at hstrip
      have hfold := take_fold (c : Int) q hq hl' K h1 h9 hle h hh (z + 118 - K - K) s (K - 1) 1 (Nat.le_refl _) (by omega)
      rw [show z + 118 - K - K + (K - 1) + 1 = z + 118 - K by omega] at hfold
      have hcoin := coin_is (z + 118 - K - K - 90) s _ hT hv
      rw [show z + 118 - K - K - 90 + 90 = z + 118 - K - K by omega] at hcoin
      have hcw : IntKind.u64.wrap (rd ((c : Int) :: q) 0) = (c : Int) := by
        show IntKind.u64.wrap (c : Int) = _
        rw [wr64]
        omega
      have hstr : ((strOfNums (cb s (foldv h (q.take (K - 1))))).toList = (strOfNums (((c : Int) :: q).take K)).toList) ↔ s = K := by
        rw [bytes_toList _ _ (cb_bytes s _ hT) (fun z hz => hb z (List.mem_of_mem_take hz))]
        constructor
        · intro e
          have := congrArg List.length e
          rw [cb_length s _ hT, List.length_take, List.length_cons] at this
          omega
        · intro e
          subst e
          have htl := tl_foldv (q.take (s - 1)) h hqb
          rw [hql] at htl
          obtain ⟨t, rfl⟩ : ∃ t, s = t + 1 := ⟨s - 1, by omega⟩
          rw [List.take_succ_cons]
          unfold cb
          rw [show t + 1 - 1 = t from rfl] at htl ⊢
          rw [htl.1]
          refine congrArg (fun z => z :: q.take t) ?_
          unfold hd1
          by_cases hs9 : t + 1 = 9
          · rw [if_pos hs9, (hk9 hs9).1]; rfl
          · rw [if_neg hs9, show t + 1 - 1 = t from rfl, htl.2, ← (hk8 (by omega)).2]
      refine ⟨if s = K then (((foldv h (q.take (K - 1)) : Nat) : Int), (K : Int), 0) else (0, 0, 4), hg.trans (apply_ite some _ _ _).symm, ?_⟩
      rw [if_neg (by omega), if_pos (by omega), hcw]
      refine hstrip.trans ?_
      rw [show z + 119 - K = (z + 118 - K) + 1 by omega, milestoneref01_Take.j3]
      refine hfold.trans ?_
      rw [milestoneref01_Take.l2, if_neg (by omega), hcoin, Option.bind_some, if_pos (by omega), if_pos (by rw [hlen]; omega), Int.toNat_natCast]
      by_cases hsK : s = K
      · rw [if_pos hsK, if_pos (hstr.2 hsK)]
      · rw [if_neg hsK, if_neg (fun e => hsK (hstr.1 e))]

/-! ## the reference's One is frame.One -/
theorem t4_str (a b : List Int) (ha : isBytes a) (hb : isBytes b) (P Q : Option (Int × Int × Int)) : (if (strOfNums a).toList = (strOfNums b).toList then P else Q) = if a = b then P else Q := by
  by_cases h : a = b
  · rw [if_pos h, if_pos ((bytes_toList a b ha hb).2 h)]
  · rw [if_neg h, if_neg (fun e => h ((bytes_toList a b ha hb).1 e))]
theorem ones (k at_ : Nat) (q : List Int) (hq : isBytes q) (hql : q.length < 100000) (hat : at_ ≤ q.length) (hk : 8 * q.length + 300 < k) :
    (∃ e : Int, e ≠ 0 ∧ frame_One.f (k + 26) q (at_ : Int) = some (0, [], 0, 0, e) ∧ milestoneref05_One.f (k + 150) q (at_ : Int) = some (0, 0, e)) ∨
    (∃ (s : Nat) (kind : Int) (p t rest : List Int), 1 ≤ s ∧ p.length < 10000000 ∧ q.drop at_ = headL s kind p ++ (t ++ rest) ∧ (headL s kind p).length = s + 1 + p.length ∧ t.length = 4 ∧
      frame_One.f (k + 26) q (at_ : Int) = some (kind, p, (at_ : Int), ((at_ + s + 1 + p.length + 4 : Nat) : Int), 0) ∧ milestoneref05_One.f (k + 150) q (at_ : Int) = some (((at_ + s + 1 : Nat) : Int), ((at_ + s + 1 + p.length : Nat) : Int), 0)) := by
  have hall : isBytes (q.drop at_) := fun x hx => hq x (List.mem_of_mem_drop hx)
  have hdl : (q.drop at_).length = q.length - at_ := List.length_drop
  have c0 : ¬ ((at_ : Int) < 0) := by omega
  have c1 : decide ((at_ : Int) > (q.length : Int)) = false := decide_eq_false (by omega)
  have c2 : (0 : Int) ≤ (at_ : Int) := Int.natCast_nonneg _
  have c3 : (at_ : Int) ≤ (q.length : Int) := by omega
  obtain ⟨r, hr, htake⟩ := take_any k (q.drop at_) hall (by omega)
  rcases get_any k (q.drop at_) hall (by omega) with ⟨s, n, rest, hs, hn, hb, hget⟩ | ⟨e, he, hget⟩
  · have h9 := hs.2.1
    have h1 := hs.1
    rw [Option.some.inj (hr.symm.trans hget)] at htake
    have hc := cb_length s n hs
    have hrl : (q.drop at_).length = s + rest.length := by rw [hb, List.length_append, hc]
    by_cases hbig : n > 1048576
    · have c4 : ((n : Nat) : Int) > 1048576 := by omega
      refine .inl ⟨6, by omega, ?_, ?_⟩
      · unfold frame_One.f
        rw [if_neg c0, c1, frame_One.j0, if_neg (by decide), if_pos c2, if_pos c3, Int.toNat_natCast, hget, Option.bind_some, if_pos rfl, if_pos c4]
      · unfold milestoneref05_One.f
        rw [if_pos c2, if_pos c3, Int.toNat_natCast, htake, Option.bind_some, if_pos rfl, if_pos c4]
    · have w1 : Aside0 (wrap64 ((at_ : Int) + (s : Int)) = ((at_ + s : Nat) : Int)) := ⟨by unfold wrap64; omega⟩
      have w2 : Aside0 (wrap64 (((at_ + s : Nat) : Int) + 1) = ((at_ + s + 1 : Nat) : Int)) := ⟨by unfold wrap64; omega⟩
      have w3 : Aside0 (wrap64 (n : Int) = (n : Int)) := ⟨by unfold wrap64; omega⟩
      have w4 : Aside0 (wrap64 (((at_ + s + 1 : Nat) : Int) + (n : Int)) = ((at_ + s + 1 + n : Nat) : Int)) := ⟨by unfold wrap64; omega⟩
      have w5 : Aside0 (wrap64 (((at_ + s + 1 + n : Nat) : Int) + 4) = ((at_ + s + 1 + n + 4 : Nat) : Int)) := ⟨by unfold wrap64; omega⟩
      have c4 : ¬ ((n : Int) > 1048576) := by omega
      by_cases hshort : at_ + s + 1 + n + 4 > q.length
      · have c5 : (((at_ + s + 1 + n + 4 : Nat) : Int) > (q.length : Int)) := by omega
        refine .inl ⟨5, by omega, ?_, ?_⟩
        · unfold frame_One.f
          rw [if_neg c0, c1, frame_One.j0, if_neg (by decide), if_pos c2, if_pos c3, Int.toNat_natCast, hget, Option.bind_some, if_pos rfl, if_neg c4, w1.out, w2.out, w3.out, w4.out, w5.out, if_pos c5]
        · unfold milestoneref05_One.f
          rw [if_pos c2, if_pos c3, Int.toNat_natCast, htake, Option.bind_some, if_pos rfl, if_neg c4, w1.out, w2.out, w3.out, w4.out, w5.out, if_pos c5]
      · match rest, hb, hrl with
        | [], _, hrl => simp at hrl; omega
        | kind :: r2, hb, hrl =>
          have hr2 : r2.length + 1 + s = q.length - at_ := by simp at hrl; omega
          have hpl : (r2.take n).length = n := by rw [List.length_take]; omega
          have htl : ((r2.drop n).take 4).length = 4 := by rw [List.length_take, List.length_drop]; omega
          have hT : Takes s (r2.take n).length := by rw [hpl]; exact hs
          have hdrop : q.drop at_ = headL s kind (r2.take n) ++ ((r2.drop n).take 4 ++ (r2.drop n).drop 4) := by
            rw [List.take_append_drop, hb]
            unfold headL
            rw [hpl, List.append_assoc, List.append_assoc, List.take_append_drop]
            rfl
          have hone := one_at (k + 26) at_ s q kind (r2.take n) ((r2.drop n).take 4) ((r2.drop n).drop 4) hq hql hT hdrop htl (by omega) (by omega)
          have hhl : (headL s kind (r2.take n)).length = s + 1 + n := by rw [headL_length s kind _ hT, hpl]
          have hcut1 : (q.take (at_ + s + 1 + n)).drop at_ = headL s kind (r2.take n) := by
            rw [List.drop_take, hdrop, show at_ + s + 1 + n - at_ = (headL s kind (r2.take n)).length by omega]
            exact List.take_left' rfl
          have hcut2 : (q.take (at_ + s + 1 + n + 4)).drop (at_ + s + 1 + n) = (r2.drop n).take 4 := by
            rw [List.drop_take, show at_ + s + 1 + n + 4 - (at_ + s + 1 + n) = 4 by omega, show at_ + s + 1 + n = at_ + (headL s kind (r2.take n)).length by omega, ← List.drop_drop, hdrop, List.drop_left' rfl]
            rw [List.take_left' htl]
          have hhb : isBytes (headL s kind (r2.take n)) := fun z hz => hall z (by rw [hdrop]; exact List.mem_append_left _ hz)
          have htb : isBytes ((r2.drop n).take 4) := fun z hz => hall z (by rw [hdrop]; exact List.mem_append_right _ (List.mem_append_left _ hz))
          have htail := tail_is (k + 150) _ hhb (by omega) (by omega)
          have c5 : ¬ (((at_ + s + 1 + n + 4 : Nat) : Int) > (q.length : Int)) := by omega
          have href : milestoneref05_One.f (k + 150) q (at_ : Int) = if t4 (sumN (headL s kind (r2.take n))) = (r2.drop n).take 4 then some (((at_ + s + 1 : Nat) : Int), ((at_ + s + 1 + n : Nat) : Int), 0) else some (0, 0, 4) := by
            unfold milestoneref05_One.f
            rw [if_pos c2, if_pos c3, Int.toNat_natCast, htake, Option.bind_some, if_pos rfl, if_neg c4, w1.out, w2.out, w3.out, w4.out, w5.out, if_neg c5, if_pos (by omega), if_pos (by omega), Int.toNat_natCast, hcut1, htail, Option.bind_some, if_pos (by omega), if_pos (by omega), if_pos (by omega), Int.toNat_natCast, hcut2]
            exact t4_str _ _ (t4_bytes _) htb _ _
          by_cases he : (r2.drop n).take 4 = t4 (sumN (headL s kind (r2.take n)))
          · rw [if_pos he] at hone
            rw [if_pos he.symm] at href
            refine .inr ⟨s, kind, r2.take n, (r2.drop n).take 4, (r2.drop n).drop 4, h1, by omega, hdrop, by rw [hhl, hpl], htl, hone, ?_⟩
            rw [hpl]
            exact href
          · rw [if_neg he] at hone
            rw [if_neg (fun e => he e.symm)] at href
            exact .inl ⟨4, by omega, hone, href⟩
  · rw [Option.some.inj (hr.symm.trans hget)] at htake
    have c4 : ¬ e = 0 := by omega
    refine .inl ⟨e, by omega, ?_, ?_⟩
    · unfold frame_One.f
      rw [if_neg c0, c1, frame_One.j0, if_neg (by decide), if_pos c2, if_pos c3, Int.toNat_natCast, hget, Option.bind_some, if_neg c4]
    · unfold milestoneref05_One.f
      rw [if_pos c2, if_pos c3, Int.toNat_natCast, htake, Option.bind_some, if_neg c4]

/-! ## the scan, round by round -/
theorem lift {α : Type} {f : Nat → Option α} (mono : ∀ k, LeO (f k) (f (k + 1))) {k K : Nat} (h : k ≤ K) {r : α} (e : f k = some r) : f K = some r := by
  obtain ⟨d, rfl⟩ : ∃ d, K = k + d := ⟨K - k, by omega⟩
  clear h
  induction d with
  | zero => exact e
  | succ d ih => exact mono _ _ ih
theorem rd52 (acc more : List S52) (x : S52) : rd_T52 (acc ++ x :: more) (acc.length : Int) = x := by
  unfold rd_T52
  rw [Int.toNat_natCast, List.getD_eq_getElem?_getD, List.getElem?_append_right (Nat.le_refl _), Nat.sub_self]
  rfl
theorem scan_both (q : List Int) (hq : isBytes q) (hql : q.length < 90000) (d : Nat) : ∀ o, o ≤ q.length → q.length - o ≤ d →
    ∃ (more : List S52) (a : Nat) (e : Int), (∀ K (acc : List S52), acc.length ≤ o → 8 * q.length + 500 + d < K → frame_Scan.l0 K q acc (o : Int) = some (acc ++ more, (a : Int), e)) ∧
      (∀ K (acc : List S52), acc.length ≤ o → 8 * q.length + 500 + d < K → milestonelaw06_FrameScans.l1 K q (acc ++ more) (a : Int) e (o : Int) (acc.length : Int) = some true) := by
  induction d with
  | zero =>
    intro o ho hd
    have : o = q.length := by omega
    refine ⟨[], o, 0, fun K acc _ hK => ?_, fun K acc _ hK => ?_⟩
    · obtain ⟨k, rfl⟩ : ∃ k, K = k + 1 := ⟨K - 1, by omega⟩
      rw [frame_Scan.l0, if_neg (by omega), List.append_nil]
    · obtain ⟨k, rfl⟩ : ∃ k, K = k + 1 := ⟨K - 1, by omega⟩
      rw [milestonelaw06_FrameScans.l1, if_neg (by omega), if_pos rfl, if_pos (by omega), List.append_nil]
      simp
  | succ d ih =>
    intro o ho hd
    by_cases hend : o = q.length
    · refine ⟨[], o, 0, fun K acc _ hK => ?_, fun K acc _ hK => ?_⟩
      · obtain ⟨k, rfl⟩ : ∃ k, K = k + 1 := ⟨K - 1, by omega⟩
        rw [frame_Scan.l0, if_neg (by omega), List.append_nil]
      · obtain ⟨k, rfl⟩ : ∃ k, K = k + 1 := ⟨K - 1, by omega⟩
        rw [milestonelaw06_FrameScans.l1, if_neg (by omega), if_pos rfl, if_pos (by omega), List.append_nil]
        simp
    · rcases ones (8 * q.length + 301) o q hq (by omega) ho (by omega) with ⟨e, he, h1, h2⟩ | ⟨s, kind, p, t, rest, hs1, hpl, hdrop, hhl, htl, h1, h2⟩
      · refine ⟨[], o, e, fun K acc _ hK => ?_, fun K acc _ hK => ?_⟩
        · obtain ⟨k, rfl⟩ : ∃ k, K = k + 1 := ⟨K - 1, by omega⟩
          rw [frame_Scan.l0, if_pos (by omega), lift (frame_One.mono q o) (by omega) h1, Option.bind_some, if_neg he, List.append_nil]
        · obtain ⟨k, rfl⟩ : ∃ k, K = k + 1 := ⟨K - 1, by omega⟩
          rw [milestonelaw06_FrameScans.l1, if_pos (by omega), lift (milestoneref05_One.mono q o) (by omega) h2, Option.bind_some, if_neg he, if_pos rfl, if_pos rfl, List.append_nil]
          simp
      · have hdl : (q.drop o).length = q.length - o := List.length_drop
        rw [hdrop, List.length_append, List.length_append, hhl, htl] at hdl
        obtain ⟨more, a, e, g1, g2⟩ := ih (o + s + 1 + p.length + 4) (by omega) (by omega)
        have hcb : (cb s p.length).length = s := by
          unfold headL at hhl
          rw [List.length_append, List.length_append, List.length_singleton] at hhl
          omega
        have hd2 : q.drop o = cb s p.length ++ (kind :: (p ++ (t ++ rest))) := by
          rw [hdrop]
          unfold headL
          simp
        have hkind : rd q ((o + s : Nat) : Int) = kind := by
          rw [rd_drop_add, hd2]
          unfold rd
          rw [Int.toNat_natCast, List.getD_eq_getElem?_getD, List.getElem?_append_right (by omega), hcb, Nat.sub_self]
          rfl
        have hp : (q.take (o + s + 1 + p.length)).drop (o + s + 1) = p := by
          rw [List.drop_take, show o + s + 1 + p.length - (o + s + 1) = p.length by omega, show o + s + 1 = o + (s + 1) by omega, ← List.drop_drop, hd2, ← List.drop_drop, List.drop_left' hcb]
          show (p ++ (t ++ rest)).take p.length = p
          exact List.take_left' rfl
        refine ⟨⟨kind, p, (o : Int), ((o + s + 1 + p.length + 4 : Nat) : Int)⟩ :: more, a, e, fun K acc hacc hK => ?_, fun K acc hacc hK => ?_⟩
        · obtain ⟨k, rfl⟩ : ∃ k, K = k + 1 := ⟨K - 1, by omega⟩
          have := g1 k (acc ++ [⟨kind, p, (o : Int), ((o + s + 1 + p.length + 4 : Nat) : Int)⟩]) (by rw [List.length_append, List.length_singleton]; omega) (by omega)
          rw [List.append_assoc] at this
          rw [frame_Scan.l0, if_pos (by omega), lift (frame_One.mono q o) (by omega) h1, Option.bind_some, if_pos rfl, if_pos (by omega)]
          exact this
        · obtain ⟨k, rfl⟩ : ∃ k, K = k + 1 := ⟨K - 1, by omega⟩
          have := g2 k (acc ++ [⟨kind, p, (o : Int), ((o + s + 1 + p.length + 4 : Nat) : Int)⟩]) (by rw [List.length_append, List.length_singleton]; omega) (by omega)
          rw [List.append_assoc, List.length_append, List.length_singleton] at this
          have hlen : (acc ++ (⟨kind, p, (o : Int), ((o + s + 1 + p.length + 4 : Nat) : Int)⟩ : S52) :: more).length = acc.length + more.length + 1 := by
            rw [List.length_append, List.length_cons]; omega
          have w1 : Aside0 (wrap64 (((o + s + 1 : Nat) : Int) - 1) = ((o + s : Nat) : Int)) := ⟨by unfold wrap64; omega⟩
          have w2 : Aside0 (wrap64 (((o + s + 1 + p.length : Nat) : Int) + 4) = ((o + s + 1 + p.length + 4 : Nat) : Int)) := ⟨by unfold wrap64; omega⟩
          have w3 : Aside0 (wrap64 ((acc.length : Int) + 1) = ((acc.length + 1 : Nat) : Int)) := ⟨by unfold wrap64; omega⟩
          have f0 : (0 : Int) ≤ ((o + s + 1 : Nat) : Int) := Int.natCast_nonneg _
          have f1 : ((o + s + 1 : Nat) : Int) ≤ ((o + s + 1 + p.length : Nat) : Int) := by omega
          have f2 : ((o + s + 1 + p.length : Nat) : Int) ≤ (q.length : Int) := by omega
          rw [milestonelaw06_FrameScans.l1, if_pos (by omega), lift (milestoneref05_One.mono q o) (by omega) h2, Option.bind_some, if_pos rfl, if_neg (by omega), if_pos (by omega), if_pos (by omega), if_pos f0, if_pos f1, if_pos f2, rd52, Int.toNat_natCast, Int.toNat_natCast, hp, if_pos rfl, w1.out, if_pos (by omega), if_pos (by omega), hkind, if_pos rfl, if_pos rfl, w2.out, if_pos rfl, w3.out]
          exact this

theorem rdL1_at (l r : List (List Int)) (j : Nat) (x : List Int) (h : l.drop j = x :: r) : rd_L1 l (j : Int) = x := by
  unfold rd_L1
  have e : l[j]? = (l.drop j)[0]? := by rw [List.getElem?_drop, Nat.add_zero]
  rw [Int.toNat_natCast, List.getD_eq_getElem?_getD, e, h]
  rfl
theorem short_loop (l r : List (List Int)) : ∀ (j k : Nat), l.drop j = r → j + r.length = l.length → l.length ≤ 9223372036854775807 → r.length < k →
    milestonelaw06_short.l0 k l (j : Int) = some (decide ((∀ x ∈ r, x.length ≤ 200) ∧ l.length ≤ 12)) := by
  induction r with
  | nil =>
    intro j k h1 h2 h3 hk
    obtain ⟨k, rfl⟩ : ∃ z, k = z + 1 := ⟨k - 1, by omega⟩
    rw [List.length_nil] at h2
    rw [milestonelaw06_short.l0, if_neg (by omega)]
    refine congrArg some (decide_eq_decide.2 ⟨fun h => ⟨fun x hx => (by cases hx), by omega⟩, fun h => by omega⟩)
  | cons x r ih =>
    intro j k h1 h2 h3 hk
    obtain ⟨k, rfl⟩ : ∃ z, k = z + 1 := ⟨k - 1, by omega⟩
    rw [List.length_cons] at h2 hk
    have hw : wrap64 ((j : Int) + 1) = ((j + 1 : Nat) : Int) := by unfold wrap64; omega
    have hd : l.drop (j + 1) = r := by rw [← List.drop_drop, h1]; rfl
    rw [milestonelaw06_short.l0, if_pos (by omega), if_pos (by omega), rdL1_at l r j x h1, hw]
    by_cases hx : x.length ≤ 200
    · rw [if_neg (by omega), ih (j + 1) k hd (by omega) h3 (by omega)]
      refine congrArg some (decide_eq_decide.2 ⟨fun h => ⟨fun y hy => ?_, h.2⟩, fun h => ⟨fun y hy => h.1 y (List.mem_cons_of_mem _ hy), h.2⟩⟩)
      rcases List.mem_cons.1 hy with rfl | hy
      · exact hx
      · exact h.1 y hy
    · rw [if_pos (by omega)]
      refine congrArg some (decide_eq_false (fun h => hx (h.1 x List.mem_cons_self))).symm
def sz (n : Nat) : Nat := if n < 128 then 1 else 2
theorem takes_sz (n : Nat) (h : n < 16384) : Takes (sz n) n := by
  unfold Takes sz
  refine ⟨by split <;> omega, by split <;> omega, fun i h1 h8 => ?_⟩
  rcases (by omega : i = 1 ∨ i = 2 ∨ i = 3 ∨ i = 4 ∨ i = 5 ∨ i = 6 ∨ i = 7 ∨ i = 8) with r | r | r | r | r | r | r | r <;> subst r <;> split <;> simp <;> omega
theorem sz_le (n : Nat) : 1 ≤ sz n ∧ sz n ≤ 2 := by unfold sz; split <;> omega
theorem u8_of (x : Int) (h : (Lit.int .u8 x).wf = true) : 0 ≤ x ∧ x < 256 := by simp [Lit.wf, IntKind.signed, IntKind.bits, IntKind.min, IntKind.max] at h; omega
def fr (i : Nat) (x : List Int) : List Int := packL (sz x.length) (i : Int) x
def cat : Nat → List (List Int) → List Int
  | _, [] => []
  | i, x :: r => fr i x ++ cat (i + 1) r
def Small (r : List (List Int)) : Prop := ∀ x ∈ r, isBytes x ∧ x.length ≤ 200
theorem fr_len (i : Nat) (x : List Int) (h : x.length ≤ 200) : (fr i x).length = sz x.length + 1 + x.length + 4 := packL_length _ _ _ (takes_sz _ (by omega))
theorem fr_bounds (i : Nat) (x : List Int) (h : x.length ≤ 200) : 6 ≤ (fr i x).length ∧ (fr i x).length ≤ 207 := by
  rw [fr_len i x h]; have := sz_le x.length; omega
theorem cat_len (r : List (List Int)) : ∀ i, Small r → (cat i r).length ≤ 207 * r.length := by
  induction r with
  | nil => intro i _; simp [cat]
  | cons x r ih =>
    intro i h
    have := (fr_bounds i x (h x List.mem_cons_self).2).2
    have := ih (i + 1) (fun y hy => h y (List.mem_cons_of_mem _ hy))
    rw [cat, List.length_append, List.length_cons]
    omega
theorem fr_bytes (i : Nat) (x : List Int) (hi : i < 256) (hx : isBytes x) (h : x.length ≤ 200) : isBytes (fr i x) := packL_bytes _ _ _ (takes_sz _ (by omega)) ⟨by omega, by omega⟩ hx
theorem cat_bytes (r : List (List Int)) : ∀ i, Small r → i + r.length ≤ 12 → isBytes (cat i r) := by
  induction r with
  | nil => intro i _ _ x hx; cases hx
  | cons x r ih =>
    intro i h hi
    rw [List.length_cons] at hi
    have hx := h x List.mem_cons_self
    exact isBytes_append (fr_bytes i x (by omega) hx.1 hx.2) (ih (i + 1) (fun y hy => h y (List.mem_cons_of_mem _ hy)) (by omega))
theorem l0_scans (l : List (List Int)) (J : List Int) (P : List Int) (hJ : J.length ≤ 100)
    (hfin : ∀ k, 40000 ≤ k → milestonelaw06_FrameScans.l0 k l J P (l.length : Int) = some true) (r : List (List Int)) :
    ∀ (j k : Nat) (p : List Int), l.drop j = r → j + r.length = l.length → l.length ≤ 12 → Small r → p.length ≤ 207 * j → p ++ cat j r = P → 40000 + r.length ≤ k →
    milestonelaw06_FrameScans.l0 k l J p (j : Int) = some true := by
  induction r with
  | nil =>
    intro j k p h1 h2 h3 hs hp hP hk
    rw [cat, List.append_nil] at hP
    rw [List.length_nil] at h2
    subst hP
    rw [show j = l.length by omega]
    exact hfin k (by omega)
  | cons x r ih =>
    intro j k p h1 h2 h3 hs hp hP hk
    obtain ⟨k, rfl⟩ : ∃ z, k = z + 1 := ⟨k - 1, by omega⟩
    rw [List.length_cons] at h2 hk
    have hd : l.drop (j + 1) = r := by rw [← List.drop_drop, h1]; rfl
    obtain ⟨hx, hxl⟩ := hs x List.mem_cons_self
    have hpk := rpack_is k (sz x.length) (j : Int) x ⟨by omega, by omega⟩ hx (by omega) (takes_sz _ (by omega)) (by omega)
    have hb := fr_bounds j x hxl
    rw [milestonelaw06_FrameScans.l0, if_pos (by omega), if_pos (by omega), rdL1_at l r j x h1, show ((j : Nat) : Int) % 256 = (j : Int) by omega, hpk, Option.bind_some]
    show (if p.length + (fr j x).length < _ then _ else _) = _
    rw [if_pos (by omega), wrN j (by omega)]
    refine ih (j + 1) k (p ++ fr j x) hd (by omega) h3 (fun y hy => hs y (List.mem_cons_of_mem _ hy)) (by rw [List.length_append]; omega) ?_ (by omega)
    rw [List.append_assoc]; exact hP
theorem fin_scans (l : List (List Int)) (J : List Int) (hJ : isBytes J) (hJl : J.length ≤ 100) (hl : l.length ≤ 12) (hs : Small l) (k : Nat) (hk : 40000 ≤ k) :
    milestonelaw06_FrameScans.l0 k l J (cat 0 l) (l.length : Int) = some true := by
  obtain ⟨k, rfl⟩ : ∃ z, k = z + 1 := ⟨k - 1, by omega⟩
  have hcl := cat_len l 0 hs
  have hqb : isBytes (cat 0 l ++ J) := isBytes_append (cat_bytes l 0 hs (by omega)) hJ
  have hql : (cat 0 l ++ J).length ≤ 2600 := by rw [List.length_append]; omega
  obtain ⟨more, a, e, g1, g2⟩ := scan_both (cat 0 l ++ J) hqb (by omega) (cat 0 l ++ J).length 0 (by omega) (by omega)
  have h1 := g1 k [] (by simp) (by omega)
  have h2 := g2 k [] (by simp) (by omega)
  rw [milestonelaw06_FrameScans.l0, if_neg (by omega), if_pos (by omega), Option.bind_some]
  unfold frame_Scan.f
  rw [show ((0 : Nat) : Int) = 0 from rfl] at h1
  rw [h1, Option.bind_some]
  exact h2
theorem FrameScans : milestonelaw06_FrameScans.Pure := by
  intro l J hl hb hJ1 hJ2 hJ
  have hmax : l.length ≤ 9223372036854775807 := hl
  refine ⟨41000 + l.length, ?_⟩
  unfold milestonelaw06_FrameScans.f milestonelaw06_short.f
  have hsh := short_loop l l 0 (41000 + l.length) rfl (by omega) hmax (by omega)
  rw [show ((0 : Nat) : Int) = 0 from rfl] at hsh
  have haw : ∀ k, 60 ≤ k → milestonelaw06_awake.f k = some true := awake_is
  have hj : milestonelaw06_FrameScans.j0 (41000 + l.length) l J true = some true := by
    rw [show 41000 + l.length = (40999 + l.length) + 1 by omega, milestonelaw06_FrameScans.j0, if_pos rfl, haw _ (by omega), Option.bind_some]
  rw [haw _ (by omega), Option.bind_some, if_pos rfl, hsh, Option.bind_some]
  by_cases hS : (∀ x ∈ l, x.length ≤ 200) ∧ l.length ≤ 12
  · rw [decide_eq_true hS, if_pos rfl]
    by_cases h100 : (J.length : Int) > 100
    · rw [decide_eq_true h100]; exact hj
    · rw [decide_eq_false h100, show 41000 + l.length = (40999 + l.length) + 1 by omega, milestonelaw06_FrameScans.j0, if_neg (by decide)]
      have hs : Small l := fun x hx => ⟨fun y hy => u8_of _ ((hb x hx).2 y hy), hS.1 x hx⟩
      exact l0_scans l J (cat 0 l) (by omega) (fin_scans l J (fun y hy => u8_of _ (hJ y hy)) (by omega) hS.2 hs) l 0 (40999 + l.length) [] rfl (by omega) hS.2 hs (by simp) rfl (by omega)
  · rw [decide_eq_false hS, if_neg (by decide)]
    exact hj

end Go.Proofs.Ytllcighpfikpkaa.Pure
