/- ChangeBytes: changes that follow one another are told as the reference tells them, and read again as they were.
For every input; no condition is added to the given statement. -/
import Derived.Test.YtllcighpfikpkaaQChangeBytesx12
import Derived.Laws.BitsAllLaws
import Derived.OpenShut
import Derived.Lib.Bytes
namespace Go.Proofs.Ytllcighpfikpkaa.Pure
open Go.RowKit Go.Proofs.Ytllcighpfikpkaa.QChangeBytes Go.Proofs.YtllcighpfikpkaaW.PrintWords Go.Proofs.YtllcighpfikpkaaW.PrintLast Go.Proofs.YtllcighpfikpkaaW.PrintMore
set_option linter.unusedSimpArgs false
set_option linter.unusedVariables false

abbrev T8 : ByteArray := (⟨#[0, 1, 2, 2, 3, 3, 3, 3, 4, 4, 4, 4, 4, 4, 4, 4, 5, 5, 5, 5, 5, 5, 5, 5, 5, 5, 5, 5, 5, 5, 5, 5, 6, 6, 6, 6, 6, 6, 6, 6, 6, 6, 6, 6, 6, 6, 6, 6, 6, 6, 6, 6, 6, 6, 6, 6, 6, 6, 6, 6, 6, 6, 6, 6, 7, 7, 7, 7, 7, 7, 7, 7, 7, 7, 7, 7, 7, 7, 7, 7, 7, 7, 7, 7, 7, 7, 7, 7, 7, 7, 7, 7, 7, 7, 7, 7, 7, 7, 7, 7, 7, 7, 7, 7, 7, 7, 7, 7, 7, 7, 7, 7, 7, 7, 7, 7, 7, 7, 7, 7, 7, 7, 7, 7, 7, 7, 7, 7, 8, 8, 8, 8, 8, 8, 8, 8, 8, 8, 8, 8, 8, 8, 8, 8, 8, 8, 8, 8, 8, 8, 8, 8, 8, 8, 8, 8, 8, 8, 8, 8, 8, 8, 8, 8, 8, 8, 8, 8, 8, 8, 8, 8, 8, 8, 8, 8, 8, 8, 8, 8, 8, 8, 8, 8, 8, 8, 8, 8, 8, 8, 8, 8, 8, 8, 8, 8, 8, 8, 8, 8, 8, 8, 8, 8, 8, 8, 8, 8, 8, 8, 8, 8, 8, 8, 8, 8, 8, 8, 8, 8, 8, 8, 8, 8, 8, 8, 8, 8, 8, 8, 8, 8, 8, 8, 8, 8, 8, 8, 8, 8, 8, 8, 8, 8, 8, 8, 8, 8, 8, 8, 8, 8, 8, 8, 8, 8]⟩ : ByteArray)
theorem t8_all : ((List.range 256).all fun i => (List.range 9).all fun j => (decide (i < 2 ^ j)) == decide (bt T8 (i : Int) ≤ (j : Int))) = true := by decide +kernel
theorem t8_bd : ((List.range 256).all fun i => decide (0 ≤ bt T8 (i : Int) ∧ bt T8 (i : Int) ≤ 8)) = true := by decide +kernel
theorem t8 (i : Nat) (h : i < 256) : ∃ L : Nat, bt T8 (i : Int) = (L : Int) ∧ L ≤ 8 ∧ ∀ j, j ≤ 8 → (i < 2 ^ j ↔ L ≤ j) := by
  have h1 : ((List.range 9).all fun j => (decide (i < 2 ^ j)) == decide (bt T8 (i : Int) ≤ (j : Int))) = true := List.all_eq_true.1 t8_all i (List.mem_range.2 h)
  have h2 : 0 ≤ bt T8 (i : Int) ∧ bt T8 (i : Int) ≤ 8 := of_decide_eq_true (List.all_eq_true.1 t8_bd i (List.mem_range.2 h))
  refine ⟨(bt T8 (i : Int)).toNat, by omega, by omega, fun j hj => ?_⟩
  have h3 : ((decide (i < 2 ^ j)) == decide (bt T8 (i : Int) ≤ (j : Int))) = true := List.all_eq_true.1 h1 j (List.mem_range.2 (by omega))
  rw [beq_iff_eq, decide_eq_decide] at h3
  omega
theorem up (c B w n L : Nat) (hB : 2 ^ c = B) (hc : B ≤ n) (h : ∀ j, j ≤ w → (n / B < 2 ^ j ↔ L ≤ j)) : ∀ j, j ≤ w + c → (n < 2 ^ j ↔ L + c ≤ j) := by
  intro j hj
  subst hB
  by_cases hcj : c ≤ j
  · obtain ⟨d, rfl⟩ : ∃ d, j = d + c := ⟨j - c, by omega⟩
    have := h d (by omega)
    rw [Nat.div_lt_iff_lt_mul (Nat.two_pow_pos c), ← Nat.pow_add] at this
    omega
  · have : 2 ^ j ≤ 2 ^ c := Nat.pow_le_pow_right (by omega) (by omega)
    omega
theorem wide (w n L : Nat) (hn : n < 2 ^ w) (hL : L ≤ w) (h : ∀ j, j ≤ w → (n < 2 ^ j ↔ L ≤ j)) : ∀ j, (n < 2 ^ j ↔ L ≤ j) := by
  intro j
  by_cases hj : j ≤ w
  · exact h j hj
  · have : 2 ^ w ≤ 2 ^ j := Nat.pow_le_pow_right (by omega) (by omega)
    omega
theorem len_low (k n : Nat) (c : Int) (hc : 0 ≤ c ∧ c ≤ 32) (hn : n < 4294967296) : ∃ L : Nat, bits_Len64.j0 (k + 1) (n : Int) c = some (c + L) ∧ L ≤ 32 ∧ ∀ j, (n < 2 ^ j ↔ L ≤ j) := by
  rw [bits_Len64.j0]
  by_cases a : n ≥ 65536
  · rw [if_pos (by omega)]
    by_cases b : n / 65536 ≥ 256
    · obtain ⟨L, hL, h8, hj⟩ := t8 (n / 65536 / 256) (by omega)
      have e : ((n : Int) / 65536 / 256) % 256 = ((n / 65536 / 256 : Nat) : Int) := by omega
      rw [if_pos (by omega), if_pos (by omega), if_pos (by omega), e, hL]
      refine ⟨L + 8 + 16, ?_, by omega, wide 32 n _ (by omega) (by omega) (up 16 65536 16 n (L + 8) rfl (by omega) (up 8 256 8 (n / 65536) L rfl (by omega) hj))⟩
      refine congrArg some ?_
      unfold wrap64
      omega
    · obtain ⟨L, hL, h8, hj⟩ := t8 (n / 65536) (by omega)
      have e : ((n : Int) / 65536) % 256 = ((n / 65536 : Nat) : Int) := by omega
      rw [if_neg (by omega), if_pos (by omega), if_pos (by omega), e, hL]
      refine ⟨L + 16, ?_, by omega, wide 24 n _ (by omega) (by omega) (up 16 65536 8 n L rfl (by omega) hj)⟩
      refine congrArg some ?_
      unfold wrap64
      omega
  · rw [if_neg (by omega)]
    by_cases b : n ≥ 256
    · obtain ⟨L, hL, h8, hj⟩ := t8 (n / 256) (by omega)
      have e : ((n : Int) / 256) % 256 = ((n / 256 : Nat) : Int) := by omega
      rw [if_pos (by omega), if_pos (by omega), if_pos (by omega), e, hL]
      refine ⟨L + 8, ?_, by omega, wide 16 n _ (by omega) (by omega) (up 8 256 8 n L rfl (by omega) hj)⟩
      refine congrArg some ?_
      unfold wrap64
      omega
    · obtain ⟨L, hL, h8, hj⟩ := t8 n (by omega)
      have e : (n : Int) % 256 = (n : Int) := by omega
      rw [if_neg (by omega), if_pos (by omega), if_pos (by omega), e, hL]
      refine ⟨L, ?_, by omega, wide 8 n _ (by omega) (by omega) hj⟩
      refine congrArg some ?_
      unfold wrap64
      omega
theorem len_is (k n : Nat) (hn : n < 18446744073709551616) : ∃ L : Nat, bits_Len64.f (k + 1) (n : Int) = some (L : Int) ∧ L ≤ 64 ∧ ∀ j, (n < 2 ^ j ↔ L ≤ j) := by
  unfold bits_Len64.f
  by_cases a : n ≥ 4294967296
  · obtain ⟨L, hL, h32, hj⟩ := len_low k (n / 4294967296) 32 (by omega) (by omega)
    have e : (n : Int) / 4294967296 = ((n / 4294967296 : Nat) : Int) := by omega
    rw [if_pos (by omega), e, hL]
    refine ⟨L + 32, ?_, by omega, wide 64 n _ (by omega) (by omega) (up 32 4294967296 32 n L rfl (by omega) (fun j _ => hj j))⟩
    refine congrArg some ?_
    omega
  · obtain ⟨L, hL, h32, hj⟩ := len_low k n 0 (by omega) (by omega)
    rw [if_neg (by omega), hL]
    exact ⟨L, congrArg some (by omega), by omega, hj⟩

theorem size_is (k n : Nat) (hn : n < 18446744073709551616) : ∃ s : Nat, coin_Size.f (k + 1) (n : Int) = some (s : Int) ∧ 1 ≤ s ∧ s ≤ 9 ∧ ∀ i, 1 ≤ i → i ≤ 8 → (s ≤ i ↔ n < 2 ^ (7 * i)) := by
  obtain ⟨L, hL, h64, hj⟩ := len_is k n hn
  refine ⟨max 1 (min 9 ((L + 6) / 7)), ?_, by omega, by omega, fun i h1 h8 => ?_⟩
  · unfold coin_Size.f
    rw [hL, Option.bind_some]
    refine congrArg some ?_
    have e : wrap64 (Int.tdiv (wrap64 ((L : Int) + 6)) 7) = (((L + 6) / 7 : Nat) : Int) := by
      have : wrap64 ((L : Int) + 6) = ((L + 6 : Nat) : Int) := by unfold wrap64; omega
      rw [this, Int.tdiv_eq_ediv_of_nonneg (by omega)]
      unfold wrap64
      omega
    rw [e]
    unfold mx mn
    (repeat' split) <;> omega
  · rw [hj]
    omega
def tl (n : Nat) : Nat → List Int
  | 0 => []
  | i + 1 => ((n / 256 ^ i % 256 : Nat) : Int) :: tl n i
def hd1 (s n : Nat) : Int := if s = 9 then 255 else ((256 - 2 ^ (9 - s) + n / 256 ^ (s - 1) : Nat) : Int)
def cb (s n : Nat) : List Int := hd1 s n :: tl n (s - 1)
/-- how many bytes n takes -/
def Takes (s n : Nat) : Prop := 1 ≤ s ∧ s ≤ 9 ∧ ∀ i, 1 ≤ i → i ≤ 8 → (s ≤ i ↔ n < 2 ^ (7 * i))
theorem tl_length (n : Nat) : ∀ i, (tl n i).length = i
  | 0 => rfl
  | i + 1 => by simp [tl, tl_length n i]
theorem shr_is (n i : Nat) (hi : i ≤ 8) : (shr .u64 (n : Int) ((8 * i : Nat) : Int)) % 256 = ((n / 256 ^ i % 256 : Nat) : Int) := by
  unfold shr
  have e : min ((8 * i : Nat) : Int).toNat IntKind.u64.bits = 8 * i := by
    have : IntKind.u64.bits = 64 := rfl
    omega
  have e2 : (2 : Int) ^ (8 * i) = ((256 ^ i : Nat) : Int) := by
    rw [show (256 : Nat) = 2 ^ 8 from rfl, ← Nat.pow_mul]
    simp
  rw [e, e2]
  omega
theorem put_loop (n : Nat) : ∀ i : Nat, i ≤ 8 → ∀ (k : Nat) (acc : List Int), i < k → acc.length + i < 140737488355328 → coin_Put.l0 k acc (n : Int) ((i : Int) - 1) = some (acc ++ tl n i) := by
  intro i
  induction i with
  | zero =>
    intro _ k acc hk _
    obtain ⟨k, rfl⟩ : ∃ m, k = m + 1 := ⟨k - 1, by omega⟩
    rw [coin_Put.l0, if_neg (by omega), tl, List.append_nil]
  | succ i ih =>
    intro hi k acc hk hl
    obtain ⟨k, rfl⟩ : ∃ m, k = m + 1 := ⟨k - 1, by omega⟩
    have e1 : wrap64 (8 * (((i + 1 : Nat) : Int) - 1)) = ((8 * i : Nat) : Int) := by unfold wrap64; omega
    have e2 : wrap64 (((i + 1 : Nat) : Int) - 1 - 1) = (i : Int) - 1 := by unfold wrap64; omega
    rw [coin_Put.l0, if_pos (by omega), e1, e2, if_pos (by omega), if_pos (by omega), shr_is n i (by omega)]
    rw [ih (by omega) k (acc ++ [((n / 256 ^ i % 256 : Nat) : Int)]) (by omega) (by simp; omega), tl, List.append_assoc]
    rfl
theorem lead_all : ((List.range 8).all fun q => (List.range 128).all fun h => (!decide (h < 2 ^ (7 - q))) || decide (bits .or .u8 (shl .u8 255 ((8 - q : Nat) : Int)) (h : Int) = ((256 - 2 ^ (8 - q) + h : Nat) : Int))) = true := by decide +kernel
theorem lead_is (q h : Nat) (hq : q < 8) (hh : h < 2 ^ (7 - q)) : bits .or .u8 (shl .u8 255 ((8 - q : Nat) : Int)) (h : Int) = ((256 - 2 ^ (8 - q) + h : Nat) : Int) := by
  have h7 : 2 ^ (7 - q) ≤ 2 ^ 7 := Nat.pow_le_pow_right (by omega) (by omega)
  have h1 : ((List.range 128).all fun h => (!decide (h < 2 ^ (7 - q))) || decide (bits .or .u8 (shl .u8 255 ((8 - q : Nat) : Int)) (h : Int) = ((256 - 2 ^ (8 - q) + h : Nat) : Int))) = true := List.all_eq_true.1 lead_all q (List.mem_range.2 hq)
  have h2 : ((!decide (h < 2 ^ (7 - q))) || decide (bits .or .u8 (shl .u8 255 ((8 - q : Nat) : Int)) (h : Int) = ((256 - 2 ^ (8 - q) + h : Nat) : Int))) = true := List.all_eq_true.1 h1 h (List.mem_range.2 (by omega))
  rw [decide_eq_true hh, Bool.not_true, Bool.false_or] at h2
  exact of_decide_eq_true h2
theorem high_small (s n : Nat) (h1 : 1 ≤ s) (h8 : s ≤ 8) (hn : n < 2 ^ (7 * s)) : n / 256 ^ (s - 1) < 2 ^ (8 - s) := by
  apply Nat.div_lt_of_lt_mul
  rw [show (256 : Nat) = 2 ^ 8 from rfl, ← Nat.pow_mul, ← Nat.pow_add]
  rwa [show 8 * (s - 1) + (8 - s) = 7 * s by omega]
theorem put_of (k s n : Nat) (p : List Int) (hs : Takes s n) (hz : coin_Size.f (k + 11) (n : Int) = some (s : Int)) (hp : p.length + 9 < 140737488355328) : coin_Put.f (k + 11) p (n : Int) = some (p ++ cb s n) := by
  obtain ⟨h1, h9, hs⟩ := hs
  have e3 : wrap64 ((s : Int) - 2) = ((s - 1 : Nat) : Int) - 1 := by unfold wrap64; omega
  unfold coin_Put.f
  rw [hz, Option.bind_some]
  by_cases h : s = 9
  · rw [if_pos (by omega), if_pos (by omega), coin_Put.j0, e3, put_loop n (s - 1) (by omega) _ _ (by omega) (by simp; omega), List.append_assoc]
    unfold cb hd1
    rw [if_pos h]
    rfl
  · have hn := (hs s h1 (by omega)).1 (Nat.le_refl _)
    have e1 : wrap64 (9 - (s : Int)) = ((8 - (s - 1) : Nat) : Int) := by unfold wrap64; omega
    have e2 : wrap64 (8 * (wrap64 ((s : Int) - 1))) = ((8 * (s - 1) : Nat) : Int) := by unfold wrap64; omega
    have hh := high_small s n h1 (by omega) hn
    have hb : n / 256 ^ (s - 1) < 2 ^ (7 - (s - 1)) := by rwa [show 7 - (s - 1) = 8 - s by omega]
    have h7 : 2 ^ (7 - (s - 1)) ≤ 2 ^ 7 := Nat.pow_le_pow_right (by omega) (by omega)
    rw [if_neg (by omega), e1, e2, if_pos (by omega), if_pos (by omega), if_pos (by omega), shr_is n (s - 1) (by omega), Nat.mod_eq_of_lt (by omega), lead_is (s - 1) _ (by omega) hb, coin_Put.j0, e3, put_loop n (s - 1) (by omega) _ _ (by omega) (by simp; omega), List.append_assoc]
    unfold cb hd1
    rw [if_neg h, show 8 - (s - 1) = 9 - s by omega]
    rfl
theorem put_is (k n : Nat) (hn : n < 18446744073709551616) : ∃ s, Takes s n ∧ coin_Size.f (k + 11) (n : Int) = some (s : Int) ∧ ∀ p : List Int, p.length + 9 < 140737488355328 → coin_Put.f (k + 11) p (n : Int) = some (p ++ cb s n) := by
  obtain ⟨s, hz, h1, h9, hs⟩ := size_is (k + 10) n hn
  exact ⟨s, ⟨h1, h9, hs⟩, hz, fun p hp => put_of k s n p ⟨h1, h9, hs⟩ hz hp⟩
def isBytes (l : List Int) : Prop := ∀ x ∈ l, 0 ≤ x ∧ x < 256
theorem tl_bytes (n : Nat) : ∀ i, isBytes (tl n i)
  | 0 => by intro x hx; simp [tl] at hx
  | i + 1 => by
    intro x hx
    rw [tl, List.mem_cons] at hx
    rcases hx with rfl | hx
    · omega
    · exact tl_bytes n i x hx
theorem hd1_bytes (s n : Nat) (h : Takes s n) : 0 ≤ hd1 s n ∧ hd1 s n < 256 := by
  obtain ⟨h1, h9, hs⟩ := h
  unfold hd1
  by_cases h : s = 9
  · rw [if_pos h]; omega
  · rw [if_neg h]
    have hh := high_small s n h1 (by omega) ((hs s h1 (by omega)).1 (Nat.le_refl _))
    have e : 2 ^ (9 - s) = 2 * 2 ^ (8 - s) := by rw [show 9 - s = (8 - s) + 1 by omega, Nat.pow_succ]; omega
    have h8 : 2 ^ (8 - s) ≤ 2 ^ 7 := Nat.pow_le_pow_right (by omega) (by omega)
    generalize n / 256 ^ (s - 1) = q at hh ⊢
    omega
theorem cb_bytes (s n : Nat) (h : Takes s n) : isBytes (cb s n) := by
  intro x hx
  rw [cb, List.mem_cons] at hx
  rcases hx with rfl | hx
  · exact hd1_bytes s n h
  · exact tl_bytes n _ x hx
theorem takes_one (s t a : Nat) (hs : Takes s a) (ht : Takes t a) : s = t := by
  obtain ⟨h1, h9, hs⟩ := hs
  obtain ⟨g1, g9, ht⟩ := ht
  by_cases e : s ≤ 8
  · have := (ht s h1 e).2 ((hs s h1 e).1 (Nat.le_refl _))
    by_cases f : t ≤ 8
    · have := (hs t g1 f).2 ((ht t g1 f).1 (Nat.le_refl _))
      omega
    · omega
  · by_cases f : t ≤ 8
    · have := (hs t g1 f).2 ((ht t g1 f).1 (Nat.le_refl _))
      omega
    · omega
theorem wr64 (n : Int) : IntKind.u64.wrap n = n % 18446744073709551616 := by
  simp [IntKind.wrap, IntKind.signed, IntKind.bits]
def lzOk (b : Nat) : Bool :=
  match bits_LeadingZeros8.f (Go.bits .xor .u8 IntKind.u8.max (b : Int)) with
  | some t => decide (0 ≤ t ∧ t ≤ 8) && (decide (t = 8) || (decide (0 ≤ Go.bits .and .u8 (b : Int) (shr .u8 255 (t + 1))) && decide ((Go.bits .and .u8 (b : Int) (shr .u8 255 (t + 1))).toNat < 2 ^ (7 - t.toNat)) && decide (b = 256 - 2 ^ (8 - t.toNat) + (Go.bits .and .u8 (b : Int) (shr .u8 255 (t + 1))).toNat))) && (!decide (t = 8) || decide (b = 255))
  | none => false
theorem lz_all : ((List.range 256).all lzOk) = true := by decide +kernel
theorem lz_is (b : Nat) (hb : b < 256) : ∃ K : Nat, 1 ≤ K ∧ K ≤ 9 ∧ bits_LeadingZeros8.f (Go.bits .xor .u8 IntKind.u8.max (b : Int)) = some ((K : Int) - 1) ∧ (K = 9 → b = 255) ∧
    (K ≤ 8 → ∃ h : Nat, Go.bits .and .u8 (b : Int) (shr .u8 255 (K : Int)) = (h : Int) ∧ h < 2 ^ (8 - K) ∧ b = 256 - 2 ^ (9 - K) + h) := by
  have h : lzOk b = true := List.all_eq_true.1 lz_all b (List.mem_range.2 hb)
  unfold lzOk at h
  cases e : bits_LeadingZeros8.f (Go.bits .xor .u8 IntKind.u8.max (b : Int)) with
  | none => rw [e] at h; simp at h
  | some t =>
    rw [e] at h
    simp only [Bool.and_eq_true, Bool.or_eq_true, decide_eq_true_eq, Bool.not_eq_true', decide_eq_false_iff_not] at h
    obtain ⟨⟨⟨h0, h8⟩, h1⟩, h2⟩ := h
    refine ⟨(t + 1).toNat, by omega, by omega, by refine congrArg some ?_; omega, fun h => ?_, fun h => ?_⟩
    · rcases h2 with h2 | h2
      · omega
      · exact h2
    · rcases h1 with h1 | ⟨⟨h1, h3⟩, h4⟩
      · omega
      · have e1 : (((t + 1).toNat : Nat) : Int) = t + 1 := by omega
        rw [e1]
        refine ⟨(Go.bits .and .u8 (b : Int) (shr .u8 255 (t + 1))).toNat, by omega, ?_, ?_⟩
        · rwa [show 8 - (t + 1).toNat = 7 - t.toNat by omega]
        · rwa [show 9 - (t + 1).toNat = 8 - t.toNat by omega]
/-- bytes as one number, behind v -/
def foldv (v : Nat) : List Int → Nat
  | [] => v
  | b :: q => foldv (v * 256 + b.toNat) q
theorem foldv_tl (n : Nat) : ∀ m, foldv (n / 256 ^ m) (tl n m) = n
  | 0 => by simp [tl, foldv]
  | m + 1 => by
    rw [tl, foldv]
    have e : n / 256 ^ (m + 1) * 256 + ((n / 256 ^ m % 256 : Nat) : Int).toNat = n / 256 ^ m := by
      rw [Nat.pow_succ, ← Nat.div_div_eq_div_mul]
      omega
    rw [e, foldv_tl n m]
theorem or_join (x : Nat) (b : Int) (hx : x < 72057594037927936) (h0 : 0 ≤ b) (h1 : b < 256) : Go.bits .or .u64 (IntKind.u64.wrap ((x : Int) * 256)) (IntKind.u64.wrap b) = ((x * 256 + b.toNat : Nat) : Int) := by
  have e1 : IntKind.u64.wrap ((x : Int) * 256) = ((x * 256 : Nat) : Int) := by
    rw [wr64]; omega
  have e2 : IntKind.u64.wrap b = ((b.toNat : Nat) : Int) := by
    rw [wr64]; omega
  rw [e1, e2, u64_or_nat _ _ (by omega) (by omega), nat_join 8 (x * 256) b.toNat (by omega) (by omega)]
theorem rd_drop (q : List Int) (i : Nat) (hi : i < q.length) : q.drop i = rd q i :: q.drop (i + 1) := by
  rw [List.drop_eq_getElem_cons hi]
  congr 1
  unfold rd
  simp [List.getD_eq_getElem?_getD, List.getElem?_eq_getElem hi]
theorem get_loop (q : List Int) (hq : isBytes q) (hl : q.length ≤ 8) (K : Int) (d : Nat) : ∀ (i v k : Nat), i + d = q.length → v < 256 ^ (8 - d) → d + 12 < k →
    ∃ s, Takes s (foldv v (q.drop i)) ∧ coin_Get.l0 k K (v : Int) q (q.length : Int) (i : Int) = if (s : Int) = K then some (((foldv v (q.drop i) : Nat) : Int), K, 0) else some (0, 0, 4) := by
  induction d with
  | zero =>
    intro i v k hi hv hk
    obtain ⟨k, rfl⟩ : ∃ m, k = m + 12 := ⟨k - 12, by omega⟩
    have e : q.drop i = [] := List.drop_eq_nil_of_le (by omega)
    obtain ⟨s, hs, hz, _⟩ := put_is k v (by have : 256 ^ (8 - 0) = 18446744073709551616 := rfl; omega)
    refine ⟨s, by rw [e]; exact hs, ?_⟩
    rw [coin_Get.l0, if_neg (by omega), hz, Option.bind_some, e]
    rfl
  | succ d ih =>
    intro i v k hi hv hk
    obtain ⟨k, rfl⟩ : ∃ m, k = m + 1 := ⟨k - 1, by omega⟩
    have hb := hq (rd q i) (by
      have := rd_drop q i (by omega)
      have h : rd q i ∈ q.drop i := by rw [this]; exact List.mem_cons_self
      exact List.mem_of_mem_drop h)
    have hp : 256 ^ (8 - (d + 1)) ≤ 256 ^ 7 := Nat.pow_le_pow_right (by omega) (by omega)
    have hp2 : 256 ^ 7 = 72057594037927936 := rfl
    have e1 : wrap64 ((i : Int) + 1) = ((i + 1 : Nat) : Int) := by unfold wrap64; omega
    have hv' : v * 256 + (rd q i).toNat < 256 ^ (8 - d) := by
      rw [show 8 - d = (8 - (d + 1)) + 1 by omega, Nat.pow_succ]
      omega
    obtain ⟨s, hs, h⟩ := ih (i + 1) (v * 256 + (rd q i).toNat) k (by omega) hv' (by omega)
    refine ⟨s, ?_, ?_⟩
    · rw [rd_drop q i (by omega), foldv]; exact hs
    · rw [coin_Get.l0, if_pos (by omega), if_pos (by omega), if_pos (by omega), or_join v _ (by omega) hb.1 hb.2, e1, h, rd_drop q i (by omega), foldv]
/-- what is ahead of bytes whose first one is b -/
theorem get_is (k : Nat) (b : Nat) (q : List Int) (hb : b < 256) (hq : isBytes q) (hl : q.length < 140737488355328) : ∃ K h : Nat, 1 ≤ K ∧ K ≤ 9 ∧ (K = 9 → b = 255 ∧ h = 0) ∧ (K ≤ 8 → h < 2 ^ (8 - K) ∧ b = 256 - 2 ^ (9 - K) + h) ∧
    ((q.length + 1 < K ∧ coin_Get.f (k + 25) ((b : Int) :: q) = some (0, 0, 5)) ∨
      (K ≤ q.length + 1 ∧ ∃ s, Takes s (foldv h (q.take (K - 1))) ∧ coin_Get.f (k + 25) ((b : Int) :: q) = if s = K then some (((foldv h (q.take (K - 1)) : Nat) : Int), (K : Int), 0) else some (0, 0, 4))) := by
  obtain ⟨K, h1, h9, hz, hk9, hk8⟩ := lz_is b hb
  have r0 : rd ((b : Int) :: q) 0 = (b : Int) := rfl
  have e1 : wrap64 ((K : Int) - 1 + 1) = (K : Int) := by unfold wrap64; omega
  have hlen : ((((b : Int) :: q).length : Nat) : Int) = ((q.length + 1 : Nat) : Int) := rfl
  have tail : ∀ h : Nat, h < 256 ^ (8 - (K - 1)) → K ≤ q.length + 1 → ∃ s, Takes s (foldv h (q.take (K - 1))) ∧ coin_Get.j0 (k + 25) ((b : Int) :: q) (K : Int) (h : Int) = if s = K then some (((foldv h (q.take (K - 1)) : Nat) : Int), (K : Int), 0) else some (0, 0, 4) := by
    intro h hh hK
    have ed : ((((b : Int) :: q).take ((K : Nat) : Int).toNat).drop 1) = q.take (K - 1) := by
      rw [Int.toNat_natCast]
      obtain ⟨K, rfl⟩ : ∃ m, K = m + 1 := ⟨K - 1, by omega⟩
      rfl
    have ll : (q.take (K - 1)).length = K - 1 := by rw [List.length_take]; omega
    obtain ⟨s, hs, h2⟩ := get_loop (q.take (K - 1)) (fun z hz => hq z (List.mem_of_mem_take hz)) (by omega) (K : Int) (K - 1) 0 h (k + 24) (by omega) hh (by omega)
    refine ⟨s, by simpa using hs, ?_⟩
    have h2' : coin_Get.l0 (k + 24) (K : Int) (h : Int) (q.take (K - 1)) ((q.take (K - 1)).length : Int) 0 = if (s : Int) = (K : Int) then some (((foldv h ((q.take (K - 1)).drop 0) : Nat) : Int), (K : Int), 0) else some (0, 0, 4) := h2
    rw [coin_Get.j0, if_pos (by omega), if_pos (by omega), ed, h2', List.drop_zero]
    by_cases e : s = K
    · rw [if_pos (by omega), if_pos e]
    · rw [if_neg (by omega), if_neg e]
  by_cases h8 : K ≤ 8
  · obtain ⟨h, he, hh, hbe⟩ := hk8 h8
    refine ⟨K, h, h1, h9, fun e => by omega, fun _ => ⟨hh, hbe⟩, ?_⟩
    by_cases hK : q.length + 1 < K
    · refine .inl ⟨hK, ?_⟩
      unfold coin_Get.f
      rw [if_neg (by omega), if_pos (by omega), r0, hz, Option.bind_some, e1, if_pos (by omega)]
    · refine .inr ⟨by omega, ?_⟩
      have hh2 : h < 256 ^ (8 - (K - 1)) := by
        have a : 2 ^ (8 - K) ≤ 2 ^ (8 * (8 - (K - 1))) := Nat.pow_le_pow_right (by omega) (by omega)
        rw [show (256 : Nat) = 2 ^ 8 from rfl, ← Nat.pow_mul]
        omega
      have hh3 : 2 ^ (8 - K) ≤ 2 ^ 8 := Nat.pow_le_pow_right (by omega) (by omega)
      obtain ⟨s, hs, h2⟩ := tail h hh2 (by omega)
      refine ⟨s, hs, ?_⟩
      unfold coin_Get.f
      rw [if_neg (by omega), if_pos (by omega), r0, hz, Option.bind_some, e1, if_neg (by omega), if_pos (by omega), if_pos (by omega), he, wr64, show ((h : Int) % 18446744073709551616) = (h : Int) by omega, h2]
  · have hK9 : K = 9 := by omega
    refine ⟨K, 0, h1, h9, fun e => ⟨hk9 e, rfl⟩, fun e => by omega, ?_⟩
    by_cases hK : q.length + 1 < K
    · refine .inl ⟨hK, ?_⟩
      unfold coin_Get.f
      rw [if_neg (by omega), if_pos (by omega), r0, hz, Option.bind_some, e1, if_pos (by omega)]
    · refine .inr ⟨by omega, ?_⟩
      obtain ⟨s, hs, h2⟩ := tail 0 (Nat.pow_pos (by omega)) (by omega)
      refine ⟨s, hs, ?_⟩
      unfold coin_Get.f
      rw [if_neg (by omega), if_pos (by omega), r0, hz, Option.bind_some, e1, if_neg (by omega), if_neg (by omega)]
      exact h2
/-- a number's bytes, and others behind them, tell the number -/
theorem get_put (k s n : Nat) (hs : Takes s n) (hn : n < 18446744073709551616) (rest : List Int) (hr : isBytes rest) (hl : rest.length < 1000000) : coin_Get.f (k + 25) (cb s n ++ rest) = some ((n : Int), (s : Int), 0) := by
  have hb := hd1_bytes s n hs
  obtain ⟨b, hbe⟩ := Int.eq_ofNat_of_zero_le hb.1
  have hbn : b < 256 := by omega
  have el : cb s n ++ rest = (b : Int) :: (tl n (s - 1) ++ rest) := by
    rw [cb, hbe]; rfl
  have hq : isBytes (tl n (s - 1) ++ rest) := by
    intro z hz
    rcases List.mem_append.1 hz with hz | hz
    · exact tl_bytes n _ z hz
    · exact hr z hz
  obtain ⟨h1, h9, hs'⟩ := hs
  obtain ⟨K, h, g1, g9, gk9, gk8, hg⟩ := get_is k b (tl n (s - 1) ++ rest) hbn hq (by rw [List.length_append, tl_length]; omega)
  have hKs : K = s ∧ h = n / 256 ^ (s - 1) := by
    unfold hd1 at hbe
    by_cases e9 : s = 9
    · rw [if_pos e9] at hbe
      have : K = 9 := by
        rcases Nat.lt_or_ge K 9 with hlt | hge
        · obtain ⟨a1, a2⟩ := gk8 (by omega)
          have : 2 ^ (9 - K) = 2 * 2 ^ (8 - K) := by rw [show 9 - K = (8 - K) + 1 by omega, Nat.pow_succ]; omega
          have : 2 ^ (8 - K) ≤ 2 ^ 7 := Nat.pow_le_pow_right (by omega) (by omega)
          omega
        · omega
      subst e9
      refine ⟨this, ?_⟩
      rw [(gk9 this).2, Nat.div_eq_of_lt]
      exact hn
    · rw [if_neg e9] at hbe
      have hh := high_small s n h1 (by omega) ((hs' s h1 (by omega)).1 (Nat.le_refl _))
      generalize n / 256 ^ (s - 1) = x at hbe hh ⊢
      have p1 : 2 ^ (9 - s) = 2 * 2 ^ (8 - s) := by rw [show 9 - s = (8 - s) + 1 by omega, Nat.pow_succ]; omega
      have p2 : 2 ^ (8 - s) ≤ 2 ^ 7 := Nat.pow_le_pow_right (by omega) (by omega)
      have p3 : 0 < 2 ^ (8 - s) := Nat.two_pow_pos _
      rcases Nat.lt_or_ge K 9 with hlt | hge
      · obtain ⟨a1, a2⟩ := gk8 (by omega)
        have q1 : 2 ^ (9 - K) = 2 * 2 ^ (8 - K) := by rw [show 9 - K = (8 - K) + 1 by omega, Nat.pow_succ]; omega
        have q2 : 2 ^ (8 - K) ≤ 2 ^ 7 := Nat.pow_le_pow_right (by omega) (by omega)
        rcases Nat.lt_trichotomy K s with h | h | h
        · have : 2 ^ (9 - s) ≤ 2 ^ (8 - K) := Nat.pow_le_pow_right (by omega) (by omega)
          omega
        · subst h
          omega
        · have : 2 ^ (9 - K) ≤ 2 ^ (8 - s) := Nat.pow_le_pow_right (by omega) (by omega)
          omega
      · have := (gk9 (by omega)).1
        omega
  obtain ⟨rfl, rfl⟩ := hKs
  have et : (tl n (K - 1) ++ rest).take (K - 1) = tl n (K - 1) := by
    rw [List.take_append_of_le_length (by rw [tl_length]; exact Nat.le_refl _), List.take_of_length_le (by rw [tl_length]; exact Nat.le_refl _)]
  rw [et, foldv_tl] at hg
  rw [el]
  rcases hg with ⟨hg, _⟩ | ⟨_, t, ht, hg⟩
  · rw [List.length_append, tl_length] at hg
    omega
  · rw [hg, if_pos (takes_one t K n ht ⟨h1, h9, hs'⟩)]
theorem refbits_loop (d : Nat) : ∀ (n k : Nat) (c : Nat), n < 2 ^ d → d < k → c + d ≤ 1000 → d ≤ 64 → ∃ L : Nat, ga_bits.l0 k (n : Int) (c : Int) = some ((c + L : Nat) : Int) ∧ L ≤ d ∧ ∀ j, (n < 2 ^ j ↔ L ≤ j) := by
  induction d with
  | zero =>
    intro n k c hn hk _ _
    obtain ⟨k, rfl⟩ : ∃ m, k = m + 1 := ⟨k - 1, by omega⟩
    have h0 : n = 0 := by omega
    subst h0
    refine ⟨0, ?_, by omega, fun j => ?_⟩
    · rw [ga_bits.l0, if_neg (by omega)]; rfl
    · have := Nat.two_pow_pos j
      omega
  | succ d ih =>
    intro n k c hn hk hc h64
    obtain ⟨k, rfl⟩ : ∃ m, k = m + 1 := ⟨k - 1, by omega⟩
    have hp : 2 ^ (d + 1) ≤ 2 ^ 64 := Nat.pow_le_pow_right (by omega) (by omega)
    by_cases h0 : n = 0
    · subst h0
      refine ⟨0, ?_, by omega, fun j => ?_⟩
      · rw [ga_bits.l0, if_neg (by omega)]; rfl
      · have := Nat.two_pow_pos j
        omega
    · obtain ⟨L, hL, hd, hj⟩ := ih (n / 2) k (c + 1) (by rw [Nat.pow_succ] at hn; omega) (by omega) (by omega) (by omega)
      have e1 : IntKind.u64.wrap (Int.tdiv (n : Int) 2) = ((n / 2 : Nat) : Int) := by
        rw [Int.tdiv_eq_ediv_of_nonneg (by omega), wr64]; omega
      have e2 : wrap64 ((c : Int) + 1) = ((c + 1 : Nat) : Int) := by unfold wrap64; omega
      refine ⟨L + 1, ?_, by omega, fun j => ?_⟩
      · rw [ga_bits.l0, if_pos (by omega), e1, e2, hL]
        refine congrArg some ?_
        omega
      · cases j with
        | zero => omega
        | succ j =>
          have := hj j
          rw [Nat.pow_succ]
          omega
theorem refbits_is (n k : Nat) (hn : n < 18446744073709551616) (hk : 64 < k) : ∃ L : Nat, ga_bits.f k (n : Int) = some (L : Int) ∧ L ≤ 64 ∧ ∀ j, (n < 2 ^ j ↔ L ≤ j) := by
  obtain ⟨L, hL, h⟩ := refbits_loop 64 n k 0 (by have : 2 ^ 64 = 18446744073709551616 := rfl; omega) hk (by omega) (by omega)
  refine ⟨L, ?_, h⟩
  unfold ga_bits.f
  rw [show (0 : Int) = ((0 : Nat) : Int) from rfl, hL]
  refine congrArg some ?_
  omega
theorem ref_up (s n : Nat) (hs : Takes s n) (hn : n < 18446744073709551616) (d : Nat) : ∀ (i k : Nat), 1 ≤ i → i + d = s → ga_Coin.l0 (k + 66 + d + 1) (n : Int) (i : Int) = ga_Coin.j1 (k + 66) (n : Int) (s : Int) := by
  obtain ⟨h1, h9, hs⟩ := hs
  induction d with
  | zero =>
    intro i k hi hd
    have e : i = s := by omega
    subst e
    rw [ga_Coin.l0]
    by_cases h : i < 9
    · obtain ⟨L, hL, hl, hj⟩ := refbits_is n (k + 66 + 0) hn (by omega)
      have e7 : wrap64 (7 * (i : Int)) = ((7 * i : Nat) : Int) := by unfold wrap64; omega
      have := (hj (7 * i)).1 ((hs i h1 (by omega)).1 (Nat.le_refl _))
      rw [if_pos (by omega), hL, Option.bind_some, e7, if_neg (by omega)]
    · rw [if_neg (by omega)]
  | succ d ih =>
    intro i k hi hd
    obtain ⟨L, hL, hl, hj⟩ := refbits_is n (k + 66 + (d + 1)) hn (by omega)
    have e7 : wrap64 (7 * (i : Int)) = ((7 * i : Nat) : Int) := by unfold wrap64; omega
    have e1 : wrap64 ((i : Int) + 1) = ((i + 1 : Nat) : Int) := by unfold wrap64; omega
    have h3 : ¬ n < 2 ^ (7 * i) := fun h => by have := (hs i hi (by omega)).2 h; omega
    have := hj (7 * i)
    rw [ga_Coin.l0, if_pos (by omega), hL, Option.bind_some, e7, if_pos (by omega), e1]
    exact ih (i + 1) k (by omega) (by omega)
theorem ref_nine (n : Nat) : ∀ i : Nat, i ≤ 8 → ∀ (k : Nat) (acc : List Int), i < k → acc.length + i < 140737488355328 → ga_Coin.l1 k (n : Int) acc ((i : Int) - 1) = some (acc ++ tl n i) := by
  intro i
  induction i with
  | zero =>
    intro _ k acc hk _
    obtain ⟨k, rfl⟩ : ∃ m, k = m + 1 := ⟨k - 1, by omega⟩
    rw [ga_Coin.l1, if_neg (by omega), tl, List.append_nil]
  | succ i ih =>
    intro hi k acc hk hl
    obtain ⟨k, rfl⟩ : ∃ m, k = m + 1 := ⟨k - 1, by omega⟩
    have e1 : wrap64 (8 * (((i + 1 : Nat) : Int) - 1)) = ((8 * i : Nat) : Int) := by unfold wrap64; omega
    have e2 : wrap64 (((i + 1 : Nat) : Int) - 1 - 1) = (i : Int) - 1 := by unfold wrap64; omega
    rw [ga_Coin.l1, if_pos (by omega), e1, e2, if_pos (by omega), if_pos (by omega), shr_is n i (by omega)]
    rw [ih (by omega) k (acc ++ [((n / 256 ^ i % 256 : Nat) : Int)]) (by omega) (by simp; omega), tl, List.append_assoc]
    rfl
theorem tl_last (n : Nat) : ∀ i, tl n (i + 1) = tl (n / 256) i ++ [((n % 256 : Nat) : Int)]
  | 0 => by simp [tl]
  | i + 1 => by
    rw [tl, tl_last n i, tl, Nat.div_div_eq_div_mul, Nat.pow_succ, Nat.mul_comm]
    rfl
theorem ref_fill (s : Nat) (hs : s ≤ 8) : ∀ (i m k : Nat) (out : List Int), i ≤ s → out.length = s → m < 18446744073709551616 → ga_Coin.l2 (k + i + 1) (m : Int) (s : Int) out ((i : Int) - 1) = ga_Coin.l3 k (s : Int) (tl m i ++ out.drop i) 128 1 := by
  intro i
  induction i with
  | zero =>
    intro m k out _ _ _
    rw [ga_Coin.l2, if_neg (by omega), tl, List.nil_append, List.drop_zero]
  | succ i ih =>
    intro m k out hi hl hm
    have e1 : IntKind.u64.wrap (Int.tdiv (m : Int) 256) = ((m / 256 : Nat) : Int) := by
      rw [Int.tdiv_eq_ediv_of_nonneg (by omega), wr64]; omega
    have e2 : wrap64 (((i + 1 : Nat) : Int) - 1 - 1) = (i : Int) - 1 := by unfold wrap64; omega
    have e3 : (Int.tmod (m : Int) 256) % 256 = ((m % 256 : Nat) : Int) := by
      rw [Int.tmod_eq_emod_of_nonneg (by omega)]; omega
    have e4 : (((i + 1 : Nat) : Int) - 1).toNat = i := by omega
    rw [show k + (i + 1) + 1 = (k + i + 1) + 1 by omega, ga_Coin.l2, if_pos (by omega), if_pos (by omega), if_pos (by omega), e1, e2, e3, e4, ih (m / 256) k _ (by omega) (by rw [List.length_set]; exact hl) (by omega), tl_last, List.append_assoc]
    congr 2
    rw [List.drop_eq_getElem_cons (by rw [List.length_set]; omega), List.getElem_set_self]
    have : (out.set i ((m % 256 : Nat) : Int)).drop (i + 1) = out.drop (i + 1) := by
      rw [List.drop_set_of_lt (by omega)]
    rw [this]
    rfl
theorem ref_lead (s : Nat) (hs : s ≤ 8) (rest : List Int) (d : Nat) : ∀ (j k h : Nat), 1 ≤ j → j + d = s → h + (2 ^ (9 - j) - 2 ^ (9 - s)) < 256 →
    ga_Coin.l3 (k + d + 1) (s : Int) ((h : Int) :: rest) ((2 ^ (8 - j) : Nat) : Int) (j : Int) = some (((h + (2 ^ (9 - j) - 2 ^ (9 - s)) : Nat) : Int) :: rest) := by
  induction d with
  | zero =>
    intro j k h hj hd hh
    have e : j = s := by omega
    subst e
    rw [ga_Coin.l3, if_neg (by omega), Nat.sub_self, Nat.add_zero]
  | succ d ih =>
    intro j k h hj hd hh
    have hjs : (j : Int) < (s : Int) := by omega
    have hkd : k + (d + 1) + 1 = (k + d + 1) + 1 := by omega
    have hjd : j + 1 + d = s := by omega
    have p1 : 2 ^ (9 - j) = 2 * 2 ^ (8 - j) := by rw [show 9 - j = (8 - j) + 1 by omega, Nat.pow_succ]; omega
    have p2 : 2 ^ (9 - s) ≤ 2 ^ (8 - j) := Nat.pow_le_pow_right (by omega) (by omega)
    have p3 : 2 ^ (8 - j) = 2 * 2 ^ (8 - (j + 1)) := by rw [show 8 - j = (8 - (j + 1)) + 1 by omega, Nat.pow_succ]; omega
    have p4 : 9 - (j + 1) = 8 - j := by omega
    have p5 : 2 ^ (8 - j) ≤ 2 ^ 8 := Nat.pow_le_pow_right (by omega) (by omega)
    have hb : h + 2 ^ (8 - j) < 256 := by
      clear ih
      omega
    have e3 : ((h : Int) + ((2 ^ (8 - j) : Nat) : Int)) % 256 = ((h + 2 ^ (8 - j) : Nat) : Int) := by
      clear ih hh p1 p2 p3 p5
      generalize 2 ^ (8 - j) = z at hb ⊢
      omega
    have e1 : wrap64 ((j : Int) + 1) = ((j + 1 : Nat) : Int) := by unfold wrap64; omega
    have e2 : wrap64 (Int.tdiv ((2 ^ (8 - j) : Nat) : Int) 2) = ((2 ^ (8 - (j + 1)) : Nat) : Int) := by
      rw [Int.tdiv_eq_ediv_of_nonneg (by omega)]
      unfold wrap64
      omega
    have r0 : rd ((h : Int) :: rest) 0 = (h : Int) := rfl
    have hl : (((((h : Int) :: rest).length : Nat)) : Int) = ((rest.length + 1 : Nat) : Int) := rfl
    have hl0 : (0 : Int) < (((((h : Int) :: rest).length : Nat)) : Int) := by rw [hl]; omega
    have hset : ((h : Int) :: rest).set (0 : Int).toNat ((h + 2 ^ (8 - j) : Nat) : Int) = ((h + 2 ^ (8 - j) : Nat) : Int) :: rest := rfl
    have hlast : h + 2 ^ (8 - j) + (2 ^ (8 - j) - 2 ^ (9 - s)) = h + (2 ^ (9 - j) - 2 ^ (9 - s)) := by
      clear ih e1 e2 e3 hset r0 hl hl0
      omega
    have hlt : h + 2 ^ (8 - j) + (2 ^ (9 - (j + 1)) - 2 ^ (9 - s)) < 256 := by
      rw [p4, hlast]; exact hh
    have key := ih (j + 1) k (h + 2 ^ (8 - j)) (Nat.le_add_left 1 j) hjd hlt
    rw [hkd, ga_Coin.l3, if_pos hjs, if_pos hl0, r0, e1, e2, e3, hset, key, p4, hlast]
theorem coin_is (k s n : Nat) (hs : Takes s n) (hn : n < 18446744073709551616) : ga_Coin.f (k + 90) (n : Int) = some (cb s n) := by
  obtain ⟨h1, h9, hs'⟩ := hs
  unfold ga_Coin.f
  rw [show k + 90 = (k + 23 - (s - 1)) + 66 + (s - 1) + 1 by omega, show (1 : Int) = ((1 : Nat) : Int) from rfl, ref_up s n ⟨h1, h9, hs'⟩ hn (s - 1) 1 _ (by omega) (by omega)]
  by_cases h : s = 9
  · rw [show k + 23 - (s - 1) + 66 = (k + 80) + 1 by omega, ga_Coin.j1, if_pos (by omega), show (7 : Int) = ((8 : Nat) : Int) - 1 from rfl, ref_nine n 8 (by omega) _ _ (by omega) (by simp)]
    unfold cb hd1
    rw [if_pos h, h]
    rfl
  · have hh := high_small s n h1 (by omega) ((hs' s h1 (by omega)).1 (Nat.le_refl _))
    have e1 : wrap64 ((s : Int) - 1) = (s : Int) - 1 := by unfold wrap64; omega
    have p1 : 2 ^ (9 - s) = 2 * 2 ^ (8 - s) := by rw [show 9 - s = (8 - s) + 1 by omega, Nat.pow_succ]; omega
    have p2 : 2 ^ (8 - s) ≤ 2 ^ 7 := Nat.pow_le_pow_right (by omega) (by omega)
    have p3 : 0 < 2 ^ (8 - s) := Nat.two_pow_pos _
    have et : tl n s = ((n / 256 ^ (s - 1) : Nat) : Int) :: tl n (s - 1) := by
      obtain ⟨s, rfl⟩ : ∃ m, s = m + 1 := ⟨s - 1, by omega⟩
      rw [tl, Nat.add_sub_cancel] at *
      rw [Nat.mod_eq_of_lt (by omega)]
    obtain ⟨K, hK⟩ : ∃ K, k + 23 - (s - 1) + 66 = (K + (s - 1) + 1) + s + 1 + 1 := ⟨k + 23 - (s - 1) + 66 - (2 * s + 2), by omega⟩
    rw [hK, ga_Coin.j1, if_neg (by omega), if_pos (by omega), if_pos (by omega), e1, Int.toNat_natCast, ref_fill s (by omega) s n _ _ (by omega) (by simp) hn, List.drop_eq_nil_of_le (by simp), List.append_nil, et]
    have := ref_lead s (by omega) (tl n (s - 1)) (s - 1) 1 K (n / 256 ^ (s - 1)) (by omega) (by omega) (by have : 2 ^ (9 - 1) = 256 := rfl; omega)
    rw [show ((2 ^ (8 - 1) : Nat) : Int) = 128 from rfl, show ((1 : Nat) : Int) = 1 from rfl] at this
    rw [this]
    unfold cb hd1
    rw [if_neg h]
    refine congrArg some (congrArg (· :: _) ?_)
    have : 2 ^ (9 - 1) = 256 := rfl
    omega
theorem isBytes_append {p q : List Int} (hp : isBytes p) (hq : isBytes q) : isBytes (p ++ q) := fun x hx => (List.mem_append.1 hx).elim (hp x) (hq x)
/-- how many bits are left behind the first n -/
def lo (n : Nat) : Nat := 2 ^ (32 - n)
/-- the first n bits -/
def hi (a n : Nat) : Nat := a / lo n
theorem tk_put (s n : Nat) (m : Int) (hs : Takes s n) (hn : n < 18446744073709551616) (hm : (n : Int) ≤ m) (rest : List Int) (hr : isBytes rest) (hl : rest.length < 1000000) (k : Nat) :
    coin_Purse_Take.f (k + 25) (cb s n ++ rest) 0 m = some ((n : Int), rest, 0) := by
  have hc : (cb s n).length = s := by
    have := hs.1
    rw [cb, List.length_cons, tl_length]
    omega
  have hd : (cb s n ++ rest).drop s = rest := by
    have := List.drop_left (l₁ := cb s n) (l₂ := rest)
    rwa [hc] at this
  unfold coin_Purse_Take.f
  rw [if_pos rfl, get_put k s n hs hn rest hr hl, Option.bind_some]
  show (if (0 : Int) = 0 then (if (n : Int) > m then some (0, cb s n ++ rest, 6) else (if 0 ≤ (s : Int) then (if (s : Int) ≤ ((cb s n ++ rest).length : Int) then some ((n : Int), (cb s n ++ rest).drop (s : Int).toNat, 0) else none) else none)) else some (0, cb s n ++ rest, 0)) = _
  rw [if_pos rfl, if_neg (by omega), if_pos (by omega), if_pos (by rw [List.length_append, hc]; omega), Int.toNat_natCast, hd]
def szN (n : Nat) : Nat := if n < 128 then 1 else if n < 16384 then 2 else if n < 2097152 then 3 else if n < 268435456 then 4 else if n < 34359738368 then 5 else if n < 4398046511104 then 6 else if n < 562949953421312 then 7 else if n < 72057594037927936 then 8 else 9
theorem szN_bd (n : Nat) : 1 ≤ szN n ∧ szN n ≤ 9 := by
  unfold szN
  repeat' split
  all_goals omega
theorem takes_sz (n : Nat) : Takes (szN n) n := by
  refine ⟨(szN_bd n).1, (szN_bd n).2, ?_⟩
  intro i h1 h8
  have hi : i = 1 ∨ i = 2 ∨ i = 3 ∨ i = 4 ∨ i = 5 ∨ i = 6 ∨ i = 7 ∨ i = 8 := by omega
  have p1 : (2 : Nat) ^ (7 * 1) = 128 := rfl
  have p2 : (2 : Nat) ^ (7 * 2) = 16384 := rfl
  have p3 : (2 : Nat) ^ (7 * 3) = 2097152 := rfl
  have p4 : (2 : Nat) ^ (7 * 4) = 268435456 := rfl
  have p5 : (2 : Nat) ^ (7 * 5) = 34359738368 := rfl
  have p6 : (2 : Nat) ^ (7 * 6) = 4398046511104 := rfl
  have p7 : (2 : Nat) ^ (7 * 7) = 562949953421312 := rfl
  have p8 : (2 : Nat) ^ (7 * 8) = 72057594037927936 := rfl
  unfold szN
  rcases hi with rfl | rfl | rfl | rfl | rfl | rfl | rfl | rfl
  · rw [p1]; repeat' split
    all_goals omega
  · rw [p2]; repeat' split
    all_goals omega
  · rw [p3]; repeat' split
    all_goals omega
  · rw [p4]; repeat' split
    all_goals omega
  · rw [p5]; repeat' split
    all_goals omega
  · rw [p6]; repeat' split
    all_goals omega
  · rw [p7]; repeat' split
    all_goals omega
  · rw [p8]; repeat' split
    all_goals omega
/-- a number's bytes -/
def C (n : Nat) : List Int := cb (szN n) n
theorem C_len (n : Nat) : (C n).length = szN n := by
  have := (szN_bd n).1
  rw [C, cb, List.length_cons, tl_length]
  omega
theorem C_le (n : Nat) : 1 ≤ (C n).length ∧ (C n).length ≤ 9 := by rw [C_len]; exact szN_bd n
theorem C_bytes (n : Nat) : isBytes (C n) := cb_bytes _ _ (takes_sz n)
theorem put_C (K n : Nat) (hK : 11 ≤ K) (hn : n < 18446744073709551616) (p : List Int) (hp : p.length + 9 < 140737488355328) : coin_Put.f K p (n : Int) = some (p ++ C n) := by
  obtain ⟨k, rfl⟩ : ∃ k, K = k + 11 := ⟨K - 11, by omega⟩
  obtain ⟨s, hs, _, hput⟩ := put_is k n hn
  rw [hput p hp, C, takes_one s (szN n) n hs (takes_sz n)]
theorem coin_C (K n : Nat) (hK : 90 ≤ K) (hn : n < 18446744073709551616) : ga_Coin.f K (n : Int) = some (C n) := by
  obtain ⟨k, rfl⟩ : ∃ k, K = k + 90 := ⟨K - 90, by omega⟩
  exact coin_is k (szN n) n (takes_sz n) hn
theorem put_i (K : Nat) (a : Int) (hK : 11 ≤ K) (ha : 0 ≤ a ∧ a < 18446744073709551616) (p : List Int) (hp : p.length < 1000000000) : coin_Put.f K p a = some (p ++ C a.toNat) := by
  have := put_C K a.toNat hK (by omega) p (by omega)
  rwa [show ((a.toNat : Nat) : Int) = a by omega] at this
theorem wr1 (i : Nat) (h : i < 1000000000) : wrap64 ((i : Int) + 1) = ((i + 1 : Nat) : Int) := by unfold wrap64; omega
def csB : List Int → List Int
  | [] => []
  | a :: l => C a.toNat ++ csB l
theorem rdI_drop (l : List Int) (i : Nat) (hi : i < l.length) : l.drop i = rd l (i : Int) :: l.drop (i + 1) := rd_drop l i hi
theorem coins_loop (l : List Int) (hok : ∀ a ∈ l, 0 ≤ a ∧ a < 18446744073709551616) (hl : l.length < 1000) (d : Nat) : ∀ (i K : Nat) (acc : List Int), i + d = l.length → acc.length + 9 * d < 100000 → d + 92 ≤ K →
    ga_Coins.l0 K l acc (i : Int) = some (acc ++ csB (l.drop i)) := by
  induction d with
  | zero =>
    intro i K acc hi ha hK
    obtain ⟨k, rfl⟩ : ∃ k, K = k + 1 := ⟨K - 1, by omega⟩
    rw [ga_Coins.l0, if_neg (by omega), List.drop_eq_nil_of_le (by omega), csB, List.append_nil]
  | succ d ih =>
    intro i K acc hi ha hK
    obtain ⟨k, rfl⟩ : ∃ k, K = k + 1 := ⟨K - 1, by omega⟩
    have hlt : i < l.length := by omega
    have hd := rdI_drop l i hlt
    have hm : rd l (i : Int) ∈ l := List.mem_of_mem_drop (by rw [hd]; exact List.mem_cons_self)
    have hx := hok _ hm
    have e1 := Aside0.mk (wr1 i (by omega))
    generalize rd l (i : Int) = a at hx hd
    have hc := coin_C k a.toNat (by omega) (by omega)
    rw [show ((a.toNat : Nat) : Int) = a by omega] at hc
    have h9 := (C_le a.toNat).2
    have ha2 : rd l (i : Int) = a := by
      have := rdI_drop l i hlt
      rw [hd] at this
      injection this with h _
      exact h.symm
    rw [ga_Coins.l0, if_pos (by omega), if_pos (by omega), ha2, hc, Option.bind_some, if_pos (by omega), e1.out, ih (i + 1) k _ (by omega) (by rw [List.length_append]; omega) (by omega), hd, csB, List.append_assoc]
theorem coins_is (l : List Int) (hok : ∀ a ∈ l, 0 ≤ a ∧ a < 18446744073709551616) (hl : l.length < 1000) (K : Nat) (hK : 1200 ≤ K) : ga_Coins.f K l = some (csB l) := by
  unfold ga_Coins.f
  have := coins_loop l hok hl l.length 0 K [] (by omega) (by simp; omega) (by omega)
  rwa [List.drop_zero, List.nil_append] at this
theorem u64i (a : Int) (h : 0 ≤ a ∧ a < 18446744073709551616) : IntKind.u64.wrap a = a := by rw [wr64]; omega
theorem take_C (K n : Nat) (m : Int) (hK : 25 ≤ K) (hn : n < 18446744073709551616) (hm : (n : Int) ≤ m) (rest : List Int) (hr : isBytes rest) (hl : rest.length < 1000000) : coin_Purse_Take.f K (C n ++ rest) 0 m = some ((n : Int), rest, 0) := by
  obtain ⟨k, rfl⟩ : ∃ k, K = k + 25 := ⟨K - 25, by omega⟩
  exact tk_put (szN n) n m (takes_sz n) hn hm rest hr hl k
theorem take_i (K : Nat) (a m : Int) (hK : 25 ≤ K) (ha : 0 ≤ a ∧ a < 18446744073709551616) (hm : a ≤ m) (rest : List Int) (hr : isBytes rest) (hl : rest.length < 1000000) : coin_Purse_Take.f K (C a.toNat ++ rest) 0 m = some (a, rest, 0) := by
  have := take_C K a.toNat m hK (by omega) (by omega) rest hr hl
  rwa [show ((a.toNat : Nat) : Int) = a by omega] at this
theorem take_e (K : Nat) (a m : Int) (hK : 25 ≤ K) (ha : 0 ≤ a ∧ a < 18446744073709551616) (hm : a ≤ m) : coin_Purse_Take.f K (C a.toNat) 0 m = some (a, [], 0) := by
  have := take_i K a m hK ha hm [] (fun x hx => by simp at hx) (by simp)
  rwa [List.append_nil] at this
theorem u16i (a : Int) (h : 0 ≤ a ∧ a < 65536) : IntKind.u16.wrap a = a := by
  have : IntKind.u16.wrap a = a % 65536 := rfl
  rw [this]; omega
theorem bytes_app (a b : List Int) (n : Int) (hn : (a.length : Int) = n) (hl : a.length < 100000) : coin_Purse_Bytes.f (a ++ b) 0 n = some (a, b, 0) := by
  subst hn
  unfold coin_Purse_Bytes.f
  rw [if_pos rfl, if_neg (by omega), if_neg (by rw [List.length_append]; omega), if_pos (by omega), Int.toNat_natCast, List.take_left, List.drop_left]
theorem u64_ones (x : Int) (h0 : 0 ≤ x) (h1 : x < 18446744073709551616) : bits .xor .u64 x 18446744073709551615 = 18446744073709551615 - x := by
  show IntKind.u64.wrap ((BitVec.ofInt 64 x ^^^ BitVec.ofInt 64 18446744073709551615).toNat : Int) = _
  have e : BitVec.ofInt 64 18446744073709551615 = BitVec.allOnes 64 := by decide
  have e2 : (BitVec.ofInt 64 x).toNat = x.toNat := by
    rw [BitVec.toNat_ofInt]
    congr 1
    omega
  rw [e, BitVec.xor_allOnes, BitVec.toNat_not, e2, wr64]
  omega

theorem u64_none (x : Int) (h0 : 0 ≤ x) (h1 : x < 18446744073709551616) : bits .xor .u64 x 0 = x := by
  rw [u64_xor x 0 h0 h1 (by omega) (by omega)]
  simp
  omega

theorem i64_ones (x : Int) (h0 : -9223372036854775808 ≤ x) (h1 : x < 9223372036854775808) : bits .xor .i64 x (-1) = -x - 1 := by
  show IntKind.i64.wrap ((BitVec.ofInt 64 x ^^^ BitVec.ofInt 64 (-1)).toNat : Int) = _
  have e : BitVec.ofInt 64 (-1) = BitVec.allOnes 64 := by decide
  have e2 : (BitVec.ofInt 64 x).toNat = (x % 18446744073709551616).toNat := by
    rw [BitVec.toNat_ofInt]
    congr 1
  rw [e, BitVec.xor_allOnes, BitVec.toNat_not, e2, IntKind.wrap_i64]
  omega

theorem i64_none (x : Int) (h0 : -9223372036854775808 ≤ x) (h1 : x < 9223372036854775808) : bits .xor .i64 x 0 = x := by
  show IntKind.i64.wrap ((BitVec.ofInt 64 x ^^^ BitVec.ofInt 64 0).toNat : Int) = _
  have e : BitVec.ofInt 64 0 = 0#64 := by decide
  have e2 : (BitVec.ofInt 64 x).toNat = (x % 18446744073709551616).toNat := by
    rw [BitVec.toNat_ofInt]
    congr 1
  rw [e, BitVec.xor_zero, e2, IntKind.wrap_i64]
  omega

theorem fold_is (n : Int) (h0 : -9223372036854775808 ≤ n) (h1 : n ≤ 9223372036854775807) : coin_Fold.f n = some (if n < 0 then -2 * n - 1 else 2 * n) := by
  unfold coin_Fold.f
  congr 1
  have e1 : IntKind.u64.wrap (wrap64 (n * 2)) = (2 * n) % 18446744073709551616 := by
    rw [wr64]
    unfold wrap64
    omega
  rw [e1]
  split
  · have e2 : IntKind.u64.wrap (n / 9223372036854775808) = 18446744073709551615 := by
      rw [wr64]
      omega
    rw [e2, u64_ones _ (by omega) (by omega)]
    omega
  · have e2 : IntKind.u64.wrap (n / 9223372036854775808) = 0 := by
      rw [wr64]
      omega
    rw [e2, u64_none _ (by omega) (by omega)]
    omega

theorem open_is (m : Int) (h0 : 0 ≤ m) (h1 : m ≤ 18446744073709551615) : coin_Open.f m = some (if m % 2 = 0 then m / 2 else -(m / 2) - 1) := by
  unfold coin_Open.f
  congr 1
  have e1 : bits .and .u64 m 1 = m % 2 := by
    rw [u64_and m 1 h0 (by omega) (by omega) (by omega)]
    have : m.toNat &&& (1 : Int).toNat = m.toNat % 2 := Nat.and_one_is_mod _
    rw [this]
    omega
  rw [e1]
  have e2 : wrap64 (m / 2) = m / 2 := by
    unfold wrap64
    omega
  rw [e2]
  split
  · next h =>
    have e3 : wrap64 (-(wrap64 (m % 2))) = 0 := by
      rw [h]
      unfold wrap64
      omega
    rw [e3, i64_none _ (by omega) (by omega)]
  · next h =>
    have e3 : wrap64 (-(wrap64 (m % 2))) = -1 := by
      have : m % 2 = 1 := by omega
      rw [this]
      unfold wrap64
      omega
    rw [e3, i64_ones _ (by omega) (by omega)]
def octB (n : Int) : Int := (n + 7) / 8
theorem octets_is (n : Int) (h : 0 ≤ n ∧ n < 256) : change_octets.f n = some (octB n) := by
  unfold change_octets.f octB
  refine congrArg some ?_
  have e1 : wrap64 n = n := by unfold wrap64; omega
  have e2 : wrap64 (n + 7) = n + 7 := by unfold wrap64; omega
  rw [e1, e2, Int.tdiv_eq_ediv_of_nonneg (by omega)]
  unfold wrap64
  omega
def octA (a : Int) (i : Nat) : Int := a / 2 ^ (24 - 8 * i) % 256
theorem w24 (i : Nat) (h : i < 4) : wrap64 (24 - (wrap64 (8 * (i : Int)))) = ((24 - 8 * i : Nat) : Int) := by unfold wrap64; omega
theorem octet_is (a : Int) (i : Nat) (h : i < 4) : change_octet.f a (i : Int) = some (octA a i) := by
  unfold change_octet.f octA
  rw [w24 i h, if_pos (by omega)]
  refine congrArg some ?_
  unfold shr
  have e : min (((24 - 8 * i : Nat) : Int)).toNat IntKind.u32.bits = 24 - 8 * i := by
    rw [Int.toNat_natCast]
    exact Nat.min_eq_left (by show _ ≤ 32; omega)
  rw [e]
theorem octA_byte (a : Int) (i : Nat) : 0 ≤ octA a i ∧ octA a i < 256 := by unfold octA; omega
def octs (a : Int) (i d : Nat) : List Int := (List.range' i d).map (octA a)
theorem octs_zero (a : Int) (i : Nat) : octs a i 0 = [] := rfl
theorem octs_succ (a : Int) (i d : Nat) : octs a i (d + 1) = octA a i :: octs a (i + 1) d := rfl
theorem octs_length (a : Int) (i d : Nat) : (octs a i d).length = d := by simp [octs]
theorem octs_bytes (a : Int) (i d : Nat) : isBytes (octs a i d) := by
  intro x hx
  obtain ⟨j, _, rfl⟩ := List.mem_map.1 hx
  exact octA_byte a j
/-- the run of bytes that two addresses begin with alike -/
theorem share_run (k : Nat) (p : List Int) (m s : Nat) (hs : s ≤ m) (hm : m ≤ 4) (n0 t0 : Int) (g0 : Bool) (a0 b0 v0 m0 s0 n1 t1 : Int) (g1 : Bool) (a1 b1 v1 m1 s1 : Int)
    (hsame : ∀ i, i < s → octA a1 i = octA a0 i) (hstop : s = m ∨ octA a1 s ≠ octA a0 s) (d : Nat) : ∀ i, i + d = s →
    change_Encode.l0 (k + d + 1) p (i : Int) (m : Int) n0 t0 g0 a0 b0 v0 m0 s0 n1 t1 g1 a1 b1 v1 m1 s1 = change_Encode.j1 k p (s : Int) n0 t0 g0 a0 b0 v0 m0 s0 n1 t1 g1 a1 b1 v1 m1 s1 := by
  induction d with
  | zero =>
    intro i hi
    obtain rfl : i = s := by omega
    rw [change_Encode.l0]
    by_cases h : i = m
    · rw [if_neg (by omega)]
    · rw [if_pos (by omega), octet_is a1 i (by omega), Option.bind_some, octet_is a0 i (by omega), Option.bind_some, if_neg (by rcases hstop with h2 | h2; exact absurd h2 h; exact h2)]
  | succ d ih =>
    intro i hi
    rw [change_Encode.l0, if_pos (by omega), octet_is a1 i (by omega), Option.bind_some, octet_is a0 i (by omega), Option.bind_some, if_pos (hsame i (by omega)), wr1 i (by omega)]
    exact ih (i + 1) (by omega)
def zg (n : Int) : Int := if n < 0 then -2 * n - 1 else 2 * n
theorem zg_bd (n : Int) (h : -9223372036854775808 ≤ n ∧ n ≤ 9223372036854775807) : 0 ≤ zg n ∧ zg n < 18446744073709551616 := by unfold zg; split <;> omega
def encT (g1 : Bool) (v0 m0 s0 v1 m1 s1 : Int) : List Int := if g1 = true then [] else C (zg (v1 - v0)).toNat ++ C (zg (m1 - m0)).toNat ++ C ((s1 - s0) % 65536).toNat
def small (v m s : Int) : Prop := (0 ≤ v ∧ v < 16) ∧ (0 ≤ m ∧ m < 65536) ∧ (0 ≤ s ∧ s < 65536)
theorem octs_run (k : Nat) (hk : 11 ≤ k) (N : Nat) (hN : N ≤ 4) (n0 t0 : Int) (g0 : Bool) (a0 b0 v0 m0 s0 n1 t1 : Int) (g1 : Bool) (a1 b1 v1 m1 s1 : Int) (hb : 0 ≤ b1 ∧ b1 < 256) (hbN : octB b1 = (N : Int))
    (h0 : small v0 m0 s0) (h1 : small v1 m1 s1) (d : Nat) : ∀ (i : Nat) (p : List Int), i + d = N → p.length + d < 1000 →
    change_Encode.l1 (k + d + 1) p (i : Int) n0 t0 g0 a0 b0 v0 m0 s0 n1 t1 g1 a1 b1 v1 m1 s1 = some (p ++ octs a1 i d ++ encT g1 v0 m0 s0 v1 m1 s1) := by
  induction d with
  | zero =>
    intro i p hi hp
    obtain rfl : i = N := by omega
    rw [change_Encode.l1, octets_is b1 hb, Option.bind_some, hbN, if_neg (by omega), octs_zero, List.append_nil]
    unfold encT
    by_cases h : g1 = true
    · rw [if_pos h, if_pos h, List.append_nil]
    · obtain ⟨⟨v0a, v0b⟩, ⟨m0a, m0b⟩, ⟨s0a, s0b⟩⟩ := h0
      obtain ⟨⟨v1a, v1b⟩, ⟨m1a, m1b⟩, ⟨s1a, s1b⟩⟩ := h1
      have w1 : wrap64 (v1 - v0) = v1 - v0 := by unfold wrap64; omega
      have w2 : wrap64 ((wrap64 m1) - (wrap64 m0)) = m1 - m0 := by unfold wrap64; omega
      have w3 : IntKind.u64.wrap (IntKind.u16.wrap (s1 - s0)) = (s1 - s0) % 65536 := by
        rw [wr64]
        show ((s1 - s0) % 65536) % 18446744073709551616 = _
        omega
      have z1 := zg_bd (v1 - v0) (by omega)
      have z2 := zg_bd (m1 - m0) (by omega)
      have c1 := C_le (zg (v1 - v0)).toNat
      have c2 := C_le (zg (m1 - m0)).toNat
      have f1 : coin_Fold.f (v1 - v0) = some (zg (v1 - v0)) := fold_is _ (by omega) (by omega)
      have f2 : coin_Fold.f (m1 - m0) = some (zg (m1 - m0)) := fold_is _ (by omega) (by omega)
      rw [if_neg h, if_neg h, w1, f1, Option.bind_some, put_i k _ hk z1 _ (by omega), Option.bind_some, w2, f2, Option.bind_some, put_i k _ hk z2 _ (by rw [List.length_append]; omega), Option.bind_some, w3, put_i k _ hk (by omega) _ (by rw [List.length_append, List.length_append]; omega), Option.bind_some]
      simp only [List.append_assoc]
  | succ d ih =>
    intro i p hi hp
    rw [change_Encode.l1, octets_is b1 hb, Option.bind_some, hbN, if_pos (by omega), octet_is a1 i (by omega), Option.bind_some, if_pos (by omega), wr1 i (by omega)]
    have := ih (i + 1) (p ++ [octA a1 i]) (by omega) (by rw [List.length_append, List.length_singleton]; omega)
    rw [octs_succ]
    refine this.trans ?_
    simp only [List.append_assoc, List.singleton_append]
def Sh (a0 a1 : Int) (m s : Nat) : Prop := s ≤ m ∧ (∀ i, i < s → octA a1 i = octA a0 i) ∧ (s = m ∨ octA a1 s ≠ octA a0 s)
theorem sh_any (a0 a1 : Int) (m : Nat) : ∃ s, Sh a0 a1 m s := by
  induction m with
  | zero => exact ⟨0, Nat.le_refl _, fun i h => absurd h (Nat.not_lt_zero _), .inl rfl⟩
  | succ m ih =>
    obtain ⟨s, h1, h2, h3⟩ := ih
    by_cases h : s = m
    · by_cases e : octA a1 m = octA a0 m
      · refine ⟨m + 1, Nat.le_refl _, fun i hi => ?_, .inl rfl⟩
        by_cases h4 : i = m
        · rw [h4]; exact e
        · exact h2 i (by omega)
      · exact ⟨s, by omega, h2, .inr (by rw [h]; exact e)⟩
    · exact ⟨s, by omega, h2, .inr (h3.resolve_left h)⟩
def headB (b s : Nat) (g : Bool) : Int := ((16 * b + 2 * s + (if g = true then 1 else 0) : Nat) : Int)
def headOk (b s : Nat) : Bool :=
  decide (Go.bits .or .u64 (IntKind.u64.wrap ((IntKind.u64.wrap (b : Int)) * 16)) (IntKind.u64.wrap ((IntKind.u64.wrap (s : Int)) * 2)) = headB b s false)
  && decide (Go.bits .or .u64 (Go.bits .or .u64 (IntKind.u64.wrap ((IntKind.u64.wrap (b : Int)) * 16)) (IntKind.u64.wrap ((IntKind.u64.wrap (s : Int)) * 2))) 1 = headB b s true)
  && decide (wrap64 (Go.bits .and .u64 (headB b s false / 2) 7) = (s : Int)) && decide (wrap64 (Go.bits .and .u64 (headB b s true / 2) 7) = (s : Int))
  && decide ((headB b s false / 16) % 256 = (b : Int)) && decide ((headB b s true / 16) % 256 = (b : Int))
  && ((Go.bits .and .u64 (headB b s false) 1) == 1) == false && ((Go.bits .and .u64 (headB b s true) 1) == 1) == true
theorem head_all : ((List.range 33).all fun b => (List.range 5).all fun s => headOk b s) = true := by decide +kernel
theorem head_is (b s : Nat) (hb : b < 33) (hs : s < 5) : headOk b s = true := by
  have h := head_all
  rw [List.all_eq_true] at h
  have h2 := h b (List.mem_range.2 hb)
  rw [List.all_eq_true] at h2
  exact h2 s (List.mem_range.2 hs)
theorem j1_run (k : Nat) (hk : 11 ≤ k) (N s d b : Nat) (hb : b < 33) (hN : N ≤ 4) (hd : s + d = N) (hbN : octB (b : Int) = (N : Int)) (n0 t0 : Int) (g0 : Bool) (a0 b0 v0 m0 s0 n1 t1 : Int) (g1 : Bool) (a1 v1 m1 s1 : Int)
    (h0 : small v0 m0 s0) (h1 : small v1 m1 s1) (p : List Int) (hp : p.length < 100) :
    change_Encode.j1 (k + d + 3) p (s : Int) n0 t0 g0 a0 b0 v0 m0 s0 n1 t1 g1 a1 (b : Int) v1 m1 s1 = some (p ++ C (headB b s g1).toNat ++ octs a1 s d ++ encT g1 v0 m0 s0 v1 m1 s1) := by
  have hh := head_is b s hb (by omega)
  unfold headOk at hh
  simp only [Bool.and_eq_true, decide_eq_true_eq] at hh
  have E1 := Aside0.mk hh.1.1.1.1.1.1.1
  have E2 := Aside0.mk hh.1.1.1.1.1.1.2
  clear hh
  have hc := C_le (headB b s g1).toNat
  have hbd : 0 ≤ headB b s g1 ∧ headB b s g1 < 18446744073709551616 := by unfold headB; split <;> omega
  have hrun := octs_run k hk N hN n0 t0 g0 a0 b0 v0 m0 s0 n1 t1 g1 a1 (b : Int) v1 m1 s1 (by omega) hbN h0 h1 d s (p ++ C (headB b s g1).toNat) hd (by rw [List.length_append]; omega)
  have hput := put_i (k + d + 1) (headB b s g1) (by omega) hbd p (by omega)
  cases g1
  · rw [change_Encode.j1, if_neg (by decide), E1.out, change_Encode.j2, hput, Option.bind_some]
    exact hrun
  · rw [change_Encode.j1, if_pos rfl, E2.out, change_Encode.j2, hput, Option.bind_some]
    exact hrun
def encC (t0 v0 m0 s0 t1 : Int) (g1 : Bool) (a1 v1 m1 s1 : Int) (b s d : Nat) : List Int := C (t1 - t0).toNat ++ C (headB b s g1).toNat ++ octs a1 s d ++ encT g1 v0 m0 s0 v1 m1 s1
theorem enc_chg (K : Nat) (hK : 30 ≤ K) (N N0 s d b b0 : Nat) (hb : b < 33) (hb0 : b0 < 33) (hN : N ≤ 4) (hd : s + d = N) (hbN : octB (b : Int) = (N : Int)) (hbN0 : octB (b0 : Int) = (N0 : Int)) (n0 t0 : Int) (g0 : Bool) (a0 v0 m0 s0 n1 t1 : Int) (g1 : Bool) (a1 v1 m1 s1 : Int)
    (hs : Sh a0 a1 (min N N0) s) (ht : 0 ≤ t0 ∧ t0 ≤ t1 ∧ t1 < 18446744073709551616) (h0 : small v0 m0 s0) (h1 : small v1 m1 s1) :
    change_Encode.f K n0 t0 g0 a0 (b0 : Int) v0 m0 s0 n1 t1 g1 a1 (b : Int) v1 m1 s1 = some (encC t0 v0 m0 s0 t1 g1 a1 v1 m1 s1 b s d) := by
  obtain ⟨k, rfl⟩ : ∃ k, K = (k + d + 3) + s + 1 := ⟨K - d - 3 - s - 1, by omega⟩
  obtain ⟨s1_, s2_, s3_⟩ := hs
  have w : IntKind.u64.wrap (t1 - t0) = t1 - t0 := by rw [wr64]; omega
  have hm : mn ((N : Nat) : Int) ((N0 : Nat) : Int) = ((min N N0 : Nat) : Int) := by unfold mn; split <;> omega
  have hc := C_le (t1 - t0).toNat
  unfold change_Encode.f encC
  rw [w, put_i _ _ (by omega) (by omega) [] (by simp), Option.bind_some, octets_is _ (by omega), Option.bind_some, hbN, octets_is _ (by omega), Option.bind_some, hbN0, hm, List.nil_append]
  refine (share_run (k + d + 3) _ (min N N0) s s1_ (by omega) n0 t0 g0 a0 (b0 : Int) v0 m0 s0 n1 t1 g1 a1 (b : Int) v1 m1 s1 s2_ s3_ s 0 (by omega)).trans ?_
  exact j1_run k (by omega) N s d b hb hN hd hbN n0 t0 g0 a0 (b0 : Int) v0 m0 s0 n1 t1 g1 a1 v1 m1 s1 h0 h1 _ (by omega)
def addrF (a : Int) : Nat → Int
  | 0 => 0
  | i + 1 => Go.bits .or .u32 (addrF a i) (shl .u32 ((octA a i) % 4294967296) ((24 - 8 * i : Nat) : Int))
theorem rd_octs (a : Int) (d : Nat) : ∀ (s j : Nat), j < d → rd (octs a s d) (j : Int) = octA a (s + j) := by
  induction d with
  | zero => intro s j h; omega
  | succ d ih =>
    intro s j h
    rw [octs_succ]
    cases j with
    | zero => rfl
    | succ j =>
      have := ih (s + 1) j (by omega)
      rw [show s + (j + 1) = s + 1 + j by omega, ← this]
      unfold rd
      simp
theorem addr_run (k : Nat) (x1 q : List Int) (N s d : Nat) (hN : N ≤ 4) (hd : s + d = N) (n0 t0 : Int) (g0 : Bool) (a0 b0 v0 m0 s0 n1 t1 : Int) (g1 : Bool) (a1 b1 v1 m1 s1 : Int)
    (hsame : ∀ i, i < s → octA a1 i = octA a0 i) (e : Nat) : ∀ i : Nat, i + e = N →
    change_Decode.l0 (k + e + 1) x1 (s : Int) (octs a1 s d) (N : Int) (i : Int) n0 t0 g0 a0 b0 v0 m0 s0 q 0 n1 t1 g1 (addrF a1 i) b1 v1 m1 s1 = change_Decode.j2 k x1 n0 t0 g0 a0 b0 v0 m0 s0 q 0 n1 t1 g1 (addrF a1 N) b1 v1 m1 s1 := by
  induction e with
  | zero =>
    intro i hi
    obtain rfl : i = N := by omega
    rw [change_Decode.l0, if_neg (by omega)]
  | succ e ih =>
    intro i hi
    have hw := Aside0.mk (w24 i (by omega))
    have h1 := Aside0.mk (wr1 i (by omega))
    rw [change_Decode.l0, if_pos (by omega), octet_is a0 i (by omega), Option.bind_some]
    by_cases c : i < s
    · rw [if_neg (by omega), hw.out, if_pos (by omega), h1.out, ← hsame i c]
      exact ih (i + 1) (by omega)
    · have hj : wrap64 ((i : Int) - (s : Int)) = ((i - s : Nat) : Int) := by unfold wrap64; omega
      have HJ := Aside0.mk hj
      clear hj
      rw [if_pos (by omega), HJ.out, octs_length, if_neg (by omega), if_pos (by omega), if_pos (by omega), hw.out, if_pos (by omega), h1.out, rd_octs a1 d s (i - s) (by omega), show s + (i - s) = i by omega]
      exact ih (i + 1) (by omega)
theorem max_xor (x : Int) (h0 : 0 ≤ x) (h1 : x < 18446744073709551616) : Go.bits .xor .u64 IntKind.u64.max x = 18446744073709551615 - x := by
  have h := u64_ones x h0 h1
  rw [← h]
  show IntKind.u64.wrap ((BitVec.ofInt 64 18446744073709551615 ^^^ BitVec.ofInt 64 x).toNat : Int) = IntKind.u64.wrap ((BitVec.ofInt 64 x ^^^ BitVec.ofInt 64 18446744073709551615).toNat : Int)
  rw [BitVec.xor_comm]
theorem open_zg (n : Int) (h : -9223372036854775808 ≤ n ∧ n ≤ 9223372036854775807) : coin_Open.f (zg n) = some n := by
  have z := zg_bd n h
  rw [open_is _ z.1 (by omega)]
  refine congrArg some ?_
  unfold zg
  by_cases c : n < 0
  · rw [if_pos c, if_neg (by omega)]; omega
  · rw [if_neg c, if_pos (by omega)]; omega
def goodC (g : Bool) (v m s : Int) : Prop := small v m s ∧ (g = true → v = 0 ∧ m = 0 ∧ s = 0) ∧ (g = false → m < 65535)
theorem right_chg (K : Nat) (n1 t1 : Int) (g1 : Bool) (a1 b1 v1 m1 s1 : Int) (hp : prefix_Right.f a1 b1 = some true) (hg : goodC g1 v1 m1 s1) :
    change_Right.f (K + 1) n1 t1 g1 a1 b1 v1 m1 s1 = some 0 := by
  obtain ⟨⟨⟨h1, h2⟩, ⟨h3, h4⟩, ⟨h5, h6⟩⟩, hg1, hg2⟩ := hg
  unfold change_Right.f
  rw [hp, Option.bind_some, if_pos rfl]
  cases g1
  · have := hg2 rfl
    rw [if_neg (by decide), change_Right.j0, if_neg (by decide), if_neg (by decide), if_neg (by omega), if_neg (by omega), if_neg (by omega)]
  · obtain ⟨rfl, rfl, rfl⟩ := hg1 rfl
    rw [if_pos rfl, change_Right.j0, if_neg (by decide), if_pos rfl]
theorem end_run (K : Nat) (q : List Int) (n0 t0 : Int) (g0 : Bool) (a0 b0 v0 m0 s0 n1 t1 : Int) (g1 : Bool) (a1 b1 v1 m1 s1 : Int) (hr : change_Right.f K n1 t1 g1 a1 b1 v1 m1 s1 = some 0)
    (he : change_Encode.f K n0 t0 g0 a0 b0 v0 m0 s0 n1 t1 g1 a1 b1 v1 m1 s1 = some q) :
    change_Decode.j4 (K + 1) q n0 t0 g0 a0 b0 v0 m0 s0 [] 0 n1 t1 g1 a1 b1 v1 m1 s1 = some (n1, t1, g1, a1, b1, v1, m1, s1, 0) := by
  have hend : coin_Purse_End.f [] 0 = some (0, [], 0) := rfl
  rw [change_Decode.j4, hend, Option.bind_some, if_pos rfl, hr, Option.bind_some, if_pos rfl, he, Option.bind_some, if_pos rfl]
theorem encT_bytes (g1 : Bool) (v0 m0 s0 v1 m1 s1 : Int) : isBytes (encT g1 v0 m0 s0 v1 m1 s1) := by
  unfold encT
  split
  · intro x hx; cases hx
  · exact isBytes_append (isBytes_append (C_bytes _) (C_bytes _)) (C_bytes _)
theorem tail_run (K : Nat) (hK : 30 ≤ K) (q : List Int) (n0 t0 : Int) (g0 : Bool) (a0 b0 v0 m0 s0 n1 t1 : Int) (g1 : Bool) (a1 b1 v1 m1 s1 : Int) (h0 : small v0 m0 s0) (hg : goodC g1 v1 m1 s1)
    (hp : prefix_Right.f a1 b1 = some true) (he : ∀ k, 30 ≤ k → change_Encode.f k n0 t0 g0 a0 b0 v0 m0 s0 n1 t1 g1 a1 b1 v1 m1 s1 = some q) :
    change_Decode.j2 (K + 3) q n0 t0 g0 a0 b0 v0 m0 s0 (encT g1 v0 m0 s0 v1 m1 s1) 0 n1 t1 g1 a1 b1 0 0 0 = some (n1, t1, g1, a1, b1, v1, m1, s1, 0) := by
  rw [change_Decode.j2]
  unfold encT
  cases g1
  · obtain ⟨⟨⟨h1, h2⟩, ⟨h3, h4⟩, ⟨h5, h6⟩⟩, hg1, hg2⟩ := id hg
    obtain ⟨⟨u1, u2⟩, ⟨u3, u4⟩, ⟨u5, u6⟩⟩ := id h0
    have hm := hg2 rfl
    clear hg1 hg2
    have z1 := zg_bd (v1 - v0) (by omega)
    have z2 := zg_bd (m1 - m0) (by omega)
    have y1 : zg (v1 - v0) ≤ 9223372036854775808 := by unfold zg; split <;> omega
    have y2 : zg (m1 - m0) ≤ 9223372036854775808 := by unfold zg; split <;> omega
    have c2 := C_le (zg (m1 - m0)).toNat
    have c3 := C_le ((s1 - s0) % 65536).toNat
    have o1 := open_zg (v1 - v0) (by omega)
    have o2 := open_zg (m1 - m0) (by omega)
    have t1_ := take_i (K + 2) (zg (v1 - v0)) 9223372036854775808 (by omega) z1 y1 (C (zg (m1 - m0)).toNat ++ C ((s1 - s0) % 65536).toNat) (isBytes_append (C_bytes _) (C_bytes _)) (by rw [List.length_append]; omega)
    have t2_ := take_i (K + 2) (zg (m1 - m0)) 9223372036854775808 (by omega) z2 y2 (C ((s1 - s0) % 65536).toNat) (C_bytes _) (by omega)
    have t3_ := take_e (K + 1) ((s1 - s0) % 65536) 65535 (by omega) (by omega) (by omega)
    have w1 : wrap64 (v0 + (v1 - v0)) = v1 := by unfold wrap64; omega
    have w2 : wrap64 (wrap64 m0 + (m1 - m0)) = m1 := by unfold wrap64; omega
    have w3 : IntKind.u16.wrap m1 = m1 := u16i m1 ⟨h3, h4⟩
    have w4 : IntKind.u16.wrap (s0 + IntKind.u16.wrap ((s1 - s0) % 65536)) = s1 := by
      show (s0 + ((s1 - s0) % 65536) % 65536) % 65536 = s1
      omega
    rw [if_neg (by decide), if_neg (by decide), List.append_assoc, t1_, Option.bind_some, o1, Option.bind_some, t2_, Option.bind_some, o2, Option.bind_some, w1, w2, if_neg (by omega), if_neg (by omega), if_neg (by omega), decide_eq_false (by omega), change_Decode.j3, if_neg (by decide), t3_, Option.bind_some, w3, w4]
    exact end_run K q n0 t0 g0 a0 b0 v0 m0 s0 n1 t1 false a1 b1 v1 m1 s1 (by obtain ⟨k, rfl⟩ : ∃ k, K = k + 1 := ⟨K - 1, by omega⟩; exact right_chg k n1 t1 false a1 b1 v1 m1 s1 hp hg) (he K hK)
  · obtain ⟨rfl, rfl, rfl⟩ := hg.2.1 rfl
    rw [if_pos rfl, if_pos rfl]
    exact end_run (K + 1) q n0 t0 g0 a0 b0 v0 m0 s0 n1 t1 true a1 b1 0 0 0 (right_chg K n1 t1 true a1 b1 0 0 0 hp hg) (he (K + 1) (by omega))
theorem dec_chg (K : Nat) (hK : 60 ≤ K) (N N0 s d b b0 : Nat) (hb : b < 33) (hb0 : b0 < 33) (hN : N ≤ 4) (hd : s + d = N) (hbN : octB (b : Int) = (N : Int)) (hbN0 : octB (b0 : Int) = (N0 : Int)) (n0 t0 : Int) (g0 : Bool) (a0 v0 m0 s0 n1 t1 : Int) (g1 : Bool) (a1 v1 m1 s1 : Int)
    (hs : Sh a0 a1 (min N N0) s) (ht : 0 ≤ t0 ∧ t0 ≤ t1 ∧ t1 < 18446744073709551616) (h0 : small v0 m0 s0) (hg : goodC g1 v1 m1 s1) (hno : IntKind.u64.wrap (n0 + 1) = n1)
    (hp : prefix_Right.f a1 (b : Int) = some true) (ha : addrF a1 N = a1) :
    change_Decode.f K n0 t0 g0 a0 (b0 : Int) v0 m0 s0 (encC t0 v0 m0 s0 t1 g1 a1 v1 m1 s1 b s d) = some (n1, t1, g1, a1, (b : Int), v1, m1, s1, 0) := by
  have henc := fun k hk => enc_chg k hk N N0 s d b b0 hb hb0 hN hd hbN hbN0 n0 t0 g0 a0 v0 m0 s0 n1 t1 g1 a1 v1 m1 s1 hs ht h0 hg.1
  obtain ⟨q, hq⟩ : ∃ q, q = encC t0 v0 m0 s0 t1 g1 a1 v1 m1 s1 b s d := ⟨_, rfl⟩
  rw [← hq] at henc ⊢
  unfold encC at hq
  rw [List.append_assoc, List.append_assoc] at hq
  obtain ⟨k, rfl⟩ : ∃ k, K = ((k + 3) + N + 1) + 1 := ⟨K - 3 - N - 2, by omega⟩
  have hh := head_is b s hb (by omega)
  unfold headOk at hh
  simp only [Bool.and_eq_true, decide_eq_true_eq] at hh
  have E3 : Aside0 (wrap64 (Go.bits .and .u64 (headB b s g1 / 2) 7) = (s : Int)) := ⟨by cases g1; exact hh.1.1.1.1.1.2; exact hh.1.1.1.1.2⟩
  have E5 : Aside0 ((headB b s g1 / 16) % 256 = (b : Int)) := ⟨by cases g1; exact hh.1.1.1.2; exact hh.1.1.2⟩
  have E7 : Aside0 (((Go.bits .and .u64 (headB b s g1) 1) == 1) = g1) := ⟨by cases g1; exact eq_of_beq hh.1.2; exact eq_of_beq hh.2⟩
  clear hh
  obtain ⟨hs1, hs2, hs3⟩ := id hs
  have hbd : 0 ≤ headB b s g1 ∧ headB b s g1 ≤ 1023 := by unfold headB; split <;> omega
  have hTb := encT_bytes g1 v0 m0 s0 v1 m1 s1
  have hTl : (encT g1 v0 m0 s0 v1 m1 s1).length ≤ 27 := by
    unfold encT
    split
    · simp
    · have c1 := C_le (zg (v1 - v0)).toNat
      have c2 := C_le (zg (m1 - m0)).toNat
      have c3 := C_le ((s1 - s0) % 65536).toNat
      rw [List.length_append, List.length_append]
      omega
  have hol := octs_length a1 s d
  have hcl := C_le (headB b s g1).toNat
  have T1 := take_i (((k + 3) + N + 1) + 1) (t1 - t0) (18446744073709551615 - t0) (by omega) (by omega) (by omega) (C (headB b s g1).toNat ++ (octs a1 s d ++ encT g1 v0 m0 s0 v1 m1 s1)) (isBytes_append (C_bytes _) (isBytes_append (octs_bytes _ _ _) hTb)) (by rw [List.length_append, List.length_append]; omega)
  rw [← hq] at T1
  have T2 := take_i (((k + 3) + N + 1) + 1) (headB b s g1) 1023 (by omega) ⟨hbd.1, by omega⟩ hbd.2 (octs a1 s d ++ encT g1 v0 m0 s0 v1 m1 s1) (isBytes_append (octs_bytes _ _ _) hTb) (by rw [List.length_append]; omega)
  have T3 := bytes_app (octs a1 s d) (encT g1 v0 m0 s0 v1 m1 s1) (wrap64 ((N : Int) - (s : Int))) (by rw [hol]; unfold wrap64; omega) (by omega)
  have hm : mn ((N : Nat) : Int) ((N0 : Nat) : Int) = ((min N N0 : Nat) : Int) := by unfold mn; split <;> omega
  have W : IntKind.u64.wrap (t0 + (t1 - t0)) = t1 := by rw [wr64]; omega
  have O1 := octets_is (b : Int) (by omega)
  have O2 := octets_is (b0 : Int) (by omega)
  rw [hbN] at O1
  rw [hbN0] at O2
  have hnew : coin_NewPurse.f q = some (q, 0) := rfl
  have X := max_xor t0 (by omega) (by omega)
  have hA := addr_run (k + 3) q (encT g1 v0 m0 s0 v1 m1 s1) N s d hN hd n0 t0 g0 a0 (b0 : Int) v0 m0 s0 n1 t1 g1 a1 (b : Int) 0 0 0 hs2 N 0 (by omega)
  rw [ha] at hA
  have hfin := tail_run k (by omega) q n0 t0 g0 a0 (b0 : Int) v0 m0 s0 n1 t1 g1 a1 (b : Int) v1 m1 s1 h0 hg hp henc
  have hle : decide ((s : Int) > ((min N N0 : Nat) : Int)) = false := decide_eq_false (by omega)
  unfold change_Decode.f
  rw [hnew, Option.bind_some, X, T1, Option.bind_some, T2, Option.bind_some, E5.out, if_neg (by omega), O1, Option.bind_some, O2, Option.bind_some, E3.out, E7.out, W, hno, hm, hle, change_Decode.j0, if_neg (by decide), O1, Option.bind_some, T3, Option.bind_some]
  exact hA.trans hfin
def prefOk (p : Nat) : Bool := match gb_Prefix.f 40 (p : Int) with
  | some (a, n) => decide (prefix_Right.f a n = some true) && decide (addrF a (octB n).toNat = a) && decide (8 ≤ n ∧ n ≤ 24) && decide (octB n ≤ 3) && decide (0 ≤ a ∧ a < 4294967296)
  | none => false
theorem pref_all : ((List.range 18).all prefOk) = true := by decide +kernel
theorem prefix18 (k p : Nat) (hp : p < 256) : gb_Prefix.f k (p : Int) = gb_Prefix.f k ((p % 18 : Nat) : Int) := by
  unfold gb_Prefix.f
  have t3 : ∀ q : Nat, Int.tmod (q : Int) 3 = ((q % 3 : Nat) : Int) := fun _ => rfl
  have d3 : ∀ q : Nat, Int.tdiv (q : Int) 3 = ((q / 3 : Nat) : Int) := fun _ => rfl
  have d6 : ∀ q : Nat, Int.tdiv (q : Int) 6 = ((q / 6 : Nat) : Int) := fun _ => rfl
  rw [t3, t3, d3, d3, d6, d6]
  have e1 : (p % 18 : Nat) % 3 = p % 3 := by omega
  have e2 : (((p % 18 / 3 : Nat) : Int)) % 2 = ((p / 3 : Nat) : Int) % 2 := by omega
  have e3 : (((p % 18 / 6 : Nat) : Int)) % 256 % 3 = ((p / 6 : Nat) : Int) % 256 % 3 := by omega
  rw [e1, e2, e3]
theorem awake_is : gl_awake.f 40 = some true := by decide +kernel
def prefP (c : S31) : Prop := ∃ p : Nat, p < 18 ∧ gb_Prefix.f 40 (p : Int) = some (c.f3.f0.f0, c.f3.f0.f1)
def formC (c : S31) : Prop := prefP c ∧ goodC c.f2 c.f3.f1 c.f3.f2 c.f3.f3
def histP (l : List S31) (t : Int) : Prop := (∀ i : Nat, i < l.length → (rd_T31 l i).f0 = (i : Int) + 1 ∧ formC (rd_T31 l i) ∧ 0 ≤ (rd_T31 l i).f1 ∧ (rd_T31 l i).f1 ≤ t) ∧ (∀ i : Nat, i + 1 < l.length → (rd_T31 l i).f1 ≤ (rd_T31 l ((i + 1 : Nat) : Int)).f1) ∧ 0 ≤ t ∧ t ≤ 3 * (l.length : Int)
theorem rd31_app (l : List S31) (c : S31) (i : Nat) (h : i < l.length) : rd_T31 (l ++ [c]) (i : Int) = rd_T31 l (i : Int) := by
  unfold rd_T31
  rw [Int.toNat_natCast, List.getD_eq_getElem?_getD, List.getD_eq_getElem?_getD, List.getElem?_append_left h]
theorem rd31_last (l : List S31) (c : S31) : rd_T31 (l ++ [c]) ((l.length : Nat) : Int) = c := by
  unfold rd_T31
  rw [Int.toNat_natCast, List.getD_eq_getElem?_getD, List.getElem?_append_right (Nat.le_refl _), Nat.sub_self]
  rfl
theorem histP_nil : histP [] 0 := ⟨fun i h => absurd h (Nat.not_lt_zero _), fun i h => absurd h (Nat.not_lt_zero _), by omega, by simp⟩
theorem histP_snoc (l : List S31) (t : Int) (c : S31) (h : histP l t) (hc : formC c) (h0 : c.f0 = (l.length : Int) + 1) (h1 : t ≤ c.f1) (h2 : c.f1 ≤ t + 3) : histP (l ++ [c]) c.f1 := by
  obtain ⟨p1, p2, p3, p4⟩ := h
  have hl : (l ++ [c]).length = l.length + 1 := by rw [List.length_append, List.length_singleton]
  refine ⟨fun i hi => ?_, fun i hi => ?_, by omega, by rw [hl]; omega⟩
  · rw [hl] at hi
    by_cases e : i < l.length
    · rw [rd31_app l c i e]
      obtain ⟨q1, q2, q3, q4⟩ := p1 i e
      exact ⟨q1, q2, q3, by omega⟩
    · obtain rfl : i = l.length := by omega
      rw [rd31_last]
      exact ⟨h0, hc, by omega, Int.le_refl _⟩
  · rw [hl] at hi
    rw [rd31_app l c i (by omega)]
    by_cases e : i + 1 < l.length
    · rw [rd31_app l c (i + 1) e]
      exact p2 i e
    · obtain e2 : i + 1 = l.length := by omega
      rw [e2, rd31_last]
      have := (p1 i (by omega)).2.2.2
      omega
theorem nearer_some (a b c d : Int) : ∃ r, ga_Nearer.f a b c d = some r := by
  unfold ga_Nearer.f
  split
  · exact ⟨_, rfl⟩
  · unfold ga_Newer.f
    split
    · exact ⟨_, rfl⟩
    · exact ⟨_, rfl⟩
theorem row_some (x0 : List S31) (hn : x0.length < 1000) (K : Nat) (d : Nat) : ∀ (i : Nat) (x7 : Bool) (a b c e : Int) (f : Bool) (g h j k l m n : Int), i + d = x0.length →
    ∃ r, gb_Row.l0 (K + d + 1) x0 x7 (i : Int) a b c e f g h j k l m n = some r := by
  induction d with
  | zero =>
    intro i x7 a b c e f g h j k l m n hi
    rw [gb_Row.l0, if_neg (by omega)]
    exact ⟨_, rfl⟩
  | succ d ih =>
    intro i x7 a b c e f g h j k l m n hi
    have w := wr1 i (by omega)
    have ih2 := fun x7 a b c e f g h j k l m n => ih (i + 1) x7 a b c e f g h j k l m n (by omega)
    rw [show K + (d + 1) + 1 = (K + d + 1) + 1 by omega, gb_Row.l0, if_pos (by omega), if_pos (by omega), w]
    split
    · exact ih2 ..
    · split
      · exact ih2 ..
      · split
        · obtain ⟨r, hr⟩ := nearer_some (rd_T31 x0 i).f3.f3 (rd_T31 x0 i).f3.f2 m n
          rw [hr, Option.bind_some]
          split
          · exact ih2 ..
          · exact ih2 ..
        · exact ih2 ..
theorem u8of (x : Int) (h : (Lit.int .u8 x).wf = true) : 0 ≤ x ∧ x < 256 := by
  simp [Lit.wf, IntKind.signed, IntKind.bits, IntKind.min, IntKind.max] at h; omega
theorem pref_at (K p : Nat) (hK : 40 ≤ K) (hp : p < 256) : ∃ a n, gb_Prefix.f K (p : Int) = some (a, n) ∧ gb_Prefix.f 40 ((p % 18 : Nat) : Int) = some (a, n) := by
  have h := pref_all
  rw [List.all_eq_true] at h
  have h2 := h (p % 18) (List.mem_range.2 (Nat.mod_lt _ (by omega)))
  unfold prefOk at h2
  cases hx : gb_Prefix.f 40 ((p % 18 : Nat) : Int) with
  | none => rw [hx] at h2; cases h2
  | some x =>
    obtain ⟨a, n⟩ := x
    refine ⟨a, n, ?_, rfl⟩
    rw [prefix18 K p hp]
    exact at_rounds (fun k => gb_Prefix.mono _ k) hK hx
def goneC (l : List S31) (t f4 : Int) (a n : Int) : S31 := (⟨IntKind.u64.wrap (wrap64 ((l.length : Int) + 1)), IntKind.u64.wrap (t + (IntKind.u64.wrap (Int.tmod f4 4))), true, (⟨(⟨a, n⟩ : S25), 0, 0, 0⟩ : S29)⟩ : S31)
def wayC (l : List S31) (t f1 f2 f3 f4 : Int) (a n : Int) : S31 := (⟨IntKind.u64.wrap (wrap64 ((l.length : Int) + 1)), IntKind.u64.wrap (t + (IntKind.u64.wrap (Int.tmod f4 4))), false, (⟨(⟨a, n⟩ : S25), wrap64 (Int.tmod f1 16), IntKind.u16.wrap ((IntKind.u16.wrap f2) * 7), IntKind.u16.wrap ((Int.tmod (IntKind.u16.wrap f3) 4) + 65534)⟩ : S29)⟩ : S31)
theorem time_is (t f4 : Int) (ht : 0 ≤ t ∧ t < 1000) (h4 : 0 ≤ f4 ∧ f4 < 256) : IntKind.u64.wrap (t + (IntKind.u64.wrap (Int.tmod f4 4))) = t + f4 % 4 := by
  rw [Int.tmod_eq_emod_of_nonneg h4.1, wr64, wr64]; omega
theorem no_is (l : List S31) (hl : l.length < 1000) : IntKind.u64.wrap (wrap64 ((l.length : Int) + 1)) = (l.length : Int) + 1 := by
  rw [wr64]; unfold wrap64; omega
theorem gone_hist (l : List S31) (t f4 a n : Int) (p : Nat) (hl : l.length < 300) (h : histP l t) (h4 : 0 ≤ f4 ∧ f4 < 256) (hp : p < 18) (hx : gb_Prefix.f 40 (p : Int) = some (a, n)) :
    histP (l ++ [goneC l t f4 a n]) (IntKind.u64.wrap (t + (IntKind.u64.wrap (Int.tmod f4 4)))) := by
  have ht := h.2.2
  have e := time_is t f4 (by omega) h4
  refine histP_snoc l t (goneC l t f4 a n) h ⟨⟨p, hp, hx⟩, ?_⟩ (no_is l (by omega)) ?_ ?_
  · exact ⟨⟨by show (0 : Int) ≤ 0 ∧ (0 : Int) < 16; omega, by show (0 : Int) ≤ 0 ∧ (0 : Int) < 65536; omega, by show (0 : Int) ≤ 0 ∧ (0 : Int) < 65536; omega⟩, fun _ => ⟨rfl, rfl, rfl⟩, fun hf => absurd (show true = false from hf) (by decide)⟩
  · show t ≤ IntKind.u64.wrap (t + (IntKind.u64.wrap (Int.tmod f4 4))); omega
  · show IntKind.u64.wrap (t + (IntKind.u64.wrap (Int.tmod f4 4))) ≤ t + 3; omega
theorem way_hist (l : List S31) (t f1 f2 f3 f4 a n : Int) (p : Nat) (hl : l.length < 300) (h : histP l t) (h1 : 0 ≤ f1 ∧ f1 < 256) (h2 : 0 ≤ f2 ∧ f2 < 256) (h3 : 0 ≤ f3 ∧ f3 < 256) (h4 : 0 ≤ f4 ∧ f4 < 256) (hp : p < 18) (hx : gb_Prefix.f 40 (p : Int) = some (a, n)) :
    histP (l ++ [wayC l t f1 f2 f3 f4 a n]) (IntKind.u64.wrap (t + (IntKind.u64.wrap (Int.tmod f4 4)))) := by
  have ht := h.2.2
  have e := time_is t f4 (by omega) h4
  have w1 : wrap64 (Int.tmod f1 16) = f1 % 16 := by rw [Int.tmod_eq_emod_of_nonneg h1.1]; unfold wrap64; omega
  have w2 : IntKind.u16.wrap ((IntKind.u16.wrap f2) * 7) = f2 * 7 := by show (f2 % 65536 * 7) % 65536 = f2 * 7; omega
  have w3 : 0 ≤ IntKind.u16.wrap ((Int.tmod (IntKind.u16.wrap f3) 4) + 65534) ∧ IntKind.u16.wrap ((Int.tmod (IntKind.u16.wrap f3) 4) + 65534) < 65536 := by
    show 0 ≤ (Int.tmod (f3 % 65536) 4 + 65534) % 65536 ∧ (Int.tmod (f3 % 65536) 4 + 65534) % 65536 < 65536
    omega
  refine histP_snoc l t (wayC l t f1 f2 f3 f4 a n) h ⟨⟨p, hp, hx⟩, ?_⟩ (no_is l (by omega)) ?_ ?_
  · refine ⟨⟨?_, ?_, w3⟩, fun hf => absurd (show false = true from hf) (by decide), fun _ => ?_⟩
    · show 0 ≤ wrap64 (Int.tmod f1 16) ∧ wrap64 (Int.tmod f1 16) < 16; omega
    · show 0 ≤ IntKind.u16.wrap ((IntKind.u16.wrap f2) * 7) ∧ IntKind.u16.wrap ((IntKind.u16.wrap f2) * 7) < 65536; omega
    · show IntKind.u16.wrap ((IntKind.u16.wrap f2) * 7) < 65535; omega
  · show t ≤ IntKind.u64.wrap (t + (IntKind.u64.wrap (Int.tmod f4 4))); omega
  · show IntKind.u64.wrap (t + (IntKind.u64.wrap (Int.tmod f4 4))) ≤ t + 3; omega
theorem rd38_mem (l : List S38) (i : Nat) (h : i < l.length) : rd_T38 l (i : Int) ∈ l := by
  unfold rd_T38
  rw [Int.toNat_natCast, List.getD_eq_getElem?_getD, List.getElem?_eq_getElem h]
  exact List.getElem_mem h
theorem hist_run (x0 : List S38) (hx : ∀ x ∈ x0, ((Lit.int .u8 x.f0).wf = true ∧ ((Lit.int .u8 x.f1).wf = true ∧ ((Lit.int .u8 x.f2).wf = true ∧ ((Lit.int .u8 x.f3).wf = true ∧ (Lit.int .u8 x.f4).wf = true))))) (hn : x0.length ≤ 60) (k : Nat) (hk : 110 ≤ k) (d : Nat) :
    ∀ (i : Nat) (l : List S31) (t : Int), i + d = x0.length → l.length = i → histP l t → ∃ l2 t2, gb_History.l0 (k + 2 * d + 2) x0 l t (i : Int) = some l2 ∧ histP l2 t2 ∧ l2.length = x0.length := by
  induction d with
  | zero =>
    intro i l t hi hl hp
    refine ⟨l, t, ?_, hp, by omega⟩
    rw [gb_History.l0, if_neg (by omega), gb_History.j1, if_neg (by decide)]
  | succ d ih =>
    intro i l t hi hl hp
    obtain ⟨b0, b1, b2, b3, b4⟩ := hx _ (rd38_mem x0 i (by omega))
    have c0 := u8of _ b0
    have c1 := u8of _ b1
    have c2 := u8of _ b2
    have c3 := u8of _ b3
    have c4 := u8of _ b4
    clear b0 b1 b2 b3 b4
    obtain ⟨p, hpp⟩ : ∃ p : Nat, (rd_T38 x0 i).f0 = (p : Int) := ⟨(rd_T38 x0 i).f0.toNat, by omega⟩
    obtain ⟨a, n, e1, e2⟩ := pref_at (k + 2 * d + 2) p (by omega) (by omega)
    have hm : p % 18 < 18 := Nat.mod_lt _ (by omega)
    obtain ⟨r, hr⟩ := row_some l (by omega) (k + 2 * d + 1 - i) i 0 false a n a n false 0 0 0 0 0 0 0 (by omega)
    rw [show k + 2 * d + 1 - i + i + 1 = k + 2 * d + 2 by omega] at hr
    have w := Aside0.mk (wr1 i (by omega))
    have hw := way_hist l t (rd_T38 x0 i).f1 (rd_T38 x0 i).f2 (rd_T38 x0 i).f3 (rd_T38 x0 i).f4 a n (p % 18) (by omega) hp c1 c2 c3 c4 hm e2
    have hg := gone_hist l t (rd_T38 x0 i).f4 a n (p % 18) (by omega) hp c4 hm e2
    have rw_ := ih (i + 1) _ _ (by omega) (by rw [List.length_append, List.length_singleton]; omega) hw
    have rg_ := ih (i + 1) _ _ (by omega) (by rw [List.length_append, List.length_singleton]; omega) hg
    rw [show k + 2 * (d + 1) + 2 = (k + 2 * d + 2) + 1 + 1 by omega, gb_History.l0, if_pos (by omega), decide_eq_true (by omega), gb_History.j1, if_pos rfl, if_pos (by omega), if_pos (by omega), hpp, e1, Option.bind_some]
    have hr2 : gb_Row.f (k + 2 * d + 2) l (a, n).1 (a, n).2 = some r := hr
    rw [hr2, Option.bind_some, w.out]
    split
    · split
      · split
        · rw [if_pos (by omega)]
          exact rg_
        · rw [if_pos (by omega)]
          exact rw_
      · rw [if_pos (by omega)]
        exact rw_
    · rw [if_pos (by omega)]
      exact rw_
def prv (l : List S31) (j : Nat) : S31 := if j = 0 then z31 else rd_T31 l ((j - 1 : Nat) : Int)
theorem prv_succ (l : List S31) (j : Nat) : prv l (j + 1) = rd_T31 l (j : Int) := rfl
theorem pref_form (c : S31) (h : prefP c) : ∃ b N : Nat, c.f3.f0.f1 = (b : Int) ∧ b < 33 ∧ N ≤ 4 ∧ octB (b : Int) = (N : Int) ∧ prefix_Right.f c.f3.f0.f0 (b : Int) = some true ∧ addrF c.f3.f0.f0 N = c.f3.f0.f0 := by
  obtain ⟨p, hp, hx⟩ := h
  have h0 := pref_all
  rw [List.all_eq_true] at h0
  have h2 := h0 p (List.mem_range.2 hp)
  unfold prefOk at h2
  rw [hx] at h2
  simp only [Bool.and_eq_true, decide_eq_true_eq] at h2
  obtain ⟨⟨⟨⟨q1, q2⟩, q3⟩, q4⟩, q5⟩ := h2
  refine ⟨c.f3.f0.f1.toNat, (octB c.f3.f0.f1).toNat, by omega, by omega, by omega, ?_, ?_, q2⟩
  · have e : ((c.f3.f0.f1.toNat : Nat) : Int) = c.f3.f0.f1 := by omega
    rw [e]
    unfold octB at q4 ⊢
    omega
  · have e : ((c.f3.f0.f1.toNat : Nat) : Int) = c.f3.f0.f1 := by omega
    rw [e]
    exact q1
theorem awake07 (k : Nat) (h : 40 ≤ k) : gl_awake.f k = some true := at_rounds (fun k => gl_awake.mono k) h awake_is
theorem begun_is (a n : Int) (N : Nat) (hn : 0 ≤ n ∧ n < 256) (hN : octB n = (N : Int)) (h4 : N ≤ 4) : gb_begun.f a n = some (octs a 0 N) := by
  unfold gb_begun.f
  have e1 : Aside0 (wrap64 (Int.tdiv (wrap64 (wrap64 n + 7)) 8) = (N : Int)) := by
    refine ⟨?_⟩
    have h := octets_is n hn
    unfold change_octets.f at h
    have h2 := Option.some.inj h
    rw [hN] at h2
    exact h2
  rw [Option.bind_some, e1.out, if_pos (by omega), if_pos (by simp only [List.length_cons, List.length_nil]; omega), Int.toNat_natCast]
  refine congrArg some ?_
  have e2 : ([(a / 16777216) % 256, (a / 65536) % 256, (a / 256) % 256, a % 256] : List Int) = octs a 0 4 := by
    show _ = [octA a 0, octA a 1, octA a 2, octA a 3]
    unfold octA
    simp
  rw [e2]
  match N, h4 with
  | 0, _ => rfl
  | 1, _ => rfl
  | 2, _ => rfl
  | 3, _ => rfl
  | 4, _ => rfl
theorem rshare_run (k : Nat) (N N0 s : Nat) (hN : N ≤ 4) (hN0 : N0 ≤ 4) (n0 t0 : Int) (g0 : Bool) (a0 b0 v0 m0 s0 n1 t1 : Int) (g1 : Bool) (a1 b1 v1 m1 s1 : Int) (hs : Sh a0 a1 (min N N0) s) (d : Nat) : ∀ i, i + d = s →
    gb_Encode.l0 (k + d + 1) (octs a1 0 N) (octs a0 0 N0) (i : Int) n0 t0 g0 a0 b0 v0 m0 s0 n1 t1 g1 a1 b1 v1 m1 s1 = gb_Encode.j1 k (octs a1 0 N) (s : Int) n0 t0 g0 a0 b0 v0 m0 s0 n1 t1 g1 a1 b1 v1 m1 s1 := by
  obtain ⟨h1, h2, h3⟩ := hs
  induction d with
  | zero =>
    intro i hi
    obtain rfl : i = s := by omega
    rw [gb_Encode.l0, octs_length, octs_length]
    by_cases c1 : i < N
    · by_cases c2 : i < N0
      · have hne := h3.resolve_left (by omega)
        rw [if_pos (by omega), if_pos (by omega), if_pos (by omega), rd_octs a1 N 0 i c1, rd_octs a0 N0 0 i c2, Nat.zero_add, if_neg hne]
      · rw [if_pos (by omega), if_neg (by omega)]
    · rw [if_neg (by omega)]
  | succ d ih =>
    intro i hi
    have w := Aside0.mk (wr1 i (by omega))
    rw [show k + (d + 1) + 1 = (k + d + 1) + 1 by omega, gb_Encode.l0, octs_length, octs_length, if_pos (by omega), if_pos (by omega), if_pos (by omega), rd_octs a1 N 0 i (by omega), rd_octs a0 N0 0 i (by omega), Nat.zero_add, if_pos (h2 i (by omega)), w.out]
    exact ih (i + 1) (by omega)
theorem zig_is (n : Int) (h : -1000000 ≤ n ∧ n ≤ 1000000) : gb_zig.f n = some (zg n) := by
  unfold gb_zig.f zg
  by_cases c : n < 0
  · rw [if_pos c, if_pos c, wr64]
    refine congrArg some ?_
    unfold wrap64
    omega
  · rw [if_neg c, if_neg c, wr64]
    refine congrArg some ?_
    unfold wrap64
    omega
theorem octs_drop (a : Int) (N s d : Nat) (h : s + d = N) : (octs a 0 N).drop s = octs a s d := by
  subst h
  unfold octs
  rw [← List.map_drop, ← List.range'_append_1, List.drop_left' (by rw [List.length_range'])]
  simp
theorem renc_chg (K : Nat) (hK : 1400 ≤ K) (N N0 s d b b0 : Nat) (hb : b < 33) (hb0 : b0 < 33) (hN : N ≤ 4) (hd : s + d = N) (hbN : octB (b : Int) = (N : Int)) (hbN0 : octB (b0 : Int) = (N0 : Int)) (n0 t0 : Int) (g0 : Bool) (a0 v0 m0 s0 n1 t1 : Int) (g1 : Bool) (a1 v1 m1 s1 : Int)
    (hs : Sh a0 a1 (min N N0) s) (ht : 0 ≤ t0 ∧ t0 ≤ t1 ∧ t1 < 18446744073709551616) (h0 : small v0 m0 s0) (h1 : small v1 m1 s1) :
    gb_Encode.f K n0 t0 g0 a0 (b0 : Int) v0 m0 s0 n1 t1 g1 a1 (b : Int) v1 m1 s1 = some (encC t0 v0 m0 s0 t1 g1 a1 v1 m1 s1 b s d) := by
  obtain ⟨k, rfl⟩ : ∃ k, K = (k + 1 + 1) + s + 1 := ⟨K - s - 3, by omega⟩
  have hN0 : N0 ≤ 4 := by unfold octB at hbN0; omega
  unfold gb_Encode.f
  rw [begun_is a1 (b : Int) N (by omega) hbN hN, Option.bind_some, begun_is a0 (b0 : Int) N0 (by omega) hbN0 hN0, Option.bind_some]
  refine (rshare_run (k + 1 + 1) N N0 s hN hN0 n0 t0 g0 a0 (b0 : Int) v0 m0 s0 n1 t1 g1 a1 (b : Int) v1 m1 s1 hs s 0 (by omega)).trans ?_
  have hbd : 0 ≤ headB b s g1 ∧ headB b s g1 < 18446744073709551616 := by unfold headB; split <;> omega
  have step : ∀ X : Int, X = headB b s g1 → gb_Encode.j2 (k + 1) (octs a1 0 N) (s : Int) X n0 t0 g0 a0 (b0 : Int) v0 m0 s0 n1 t1 g1 a1 (b : Int) v1 m1 s1 = some (encC t0 v0 m0 s0 t1 g1 a1 v1 m1 s1 b s d) := by
    intro X hX
    have hu : Aside0 (IntKind.u64.wrap (t1 - t0) = t1 - t0) := ⟨u64i (t1 - t0) (by omega)⟩
    have c1 := coins_is [t1 - t0, headB b s g1] (by intro a ha; rw [List.mem_cons, List.mem_singleton] at ha; rcases ha with rfl | rfl <;> omega) (by simp) k (by omega)
    have e1 : csB [t1 - t0, headB b s g1] = C (t1 - t0).toNat ++ C (headB b s g1).toNat := by simp [csB]
    rw [e1] at c1
    have l1 := (C_le (t1 - t0).toNat).2
    have l2 := (C_le (headB b s g1).toNat).2
    have ho := octs_length a1 s d
    rw [gb_Encode.j2, hu.out, hX, c1, Option.bind_some, if_pos (by omega), if_pos (by rw [octs_length]; omega), Int.toNat_natCast, octs_drop a1 N s d hd, Option.bind_some, if_pos (by rw [List.length_append, ho]; omega), Option.bind_some]
    unfold encC encT
    cases g1
    · obtain ⟨⟨u1, u2⟩, ⟨u3, u4⟩, ⟨u5, u6⟩⟩ := id h0
      obtain ⟨⟨x1, x2⟩, ⟨x3, x4⟩, ⟨x5, x6⟩⟩ := id h1
      have y1 := zg_bd (v1 - v0) (by omega)
      have y2 := zg_bd (m1 - m0) (by omega)
      have z1 : Aside0 (gb_zig.f (wrap64 (v1 - v0)) = some (zg (v1 - v0))) := by
        have : wrap64 (v1 - v0) = v1 - v0 := by unfold wrap64; omega
        rw [this]
        exact ⟨zig_is _ (by omega)⟩
      have z2 : Aside0 (gb_zig.f (wrap64 (wrap64 m1 - wrap64 m0)) = some (zg (m1 - m0))) := by
        have : wrap64 (wrap64 m1 - wrap64 m0) = m1 - m0 := by unfold wrap64; omega
        rw [this]
        exact ⟨zig_is _ (by omega)⟩
      have z3 : Aside0 (Int.tmod (IntKind.u64.wrap (IntKind.u64.wrap (IntKind.u64.wrap s1 + 65536) - IntKind.u64.wrap s0)) 65536 = (s1 - s0) % 65536) := by
        rw [wr64, wr64, wr64, wr64]
        refine ⟨?_⟩
        rw [Int.tmod_eq_emod_of_nonneg (by omega)]
        omega
      have c2 := coins_is [zg (v1 - v0), zg (m1 - m0), (s1 - s0) % 65536] (by intro a ha; rw [List.mem_cons, List.mem_cons, List.mem_singleton] at ha; rcases ha with rfl | rfl | rfl <;> omega) (by simp) k (by omega)
      have e2 : csB [zg (v1 - v0), zg (m1 - m0), (s1 - s0) % 65536] = C (zg (v1 - v0)).toNat ++ C (zg (m1 - m0)).toNat ++ C ((s1 - s0) % 65536).toNat := by simp [csB]
      rw [e2] at c2
      have l3 := (C_le (zg (v1 - v0)).toNat).2
      have l4 := (C_le (zg (m1 - m0)).toNat).2
      have l5 := (C_le ((s1 - s0) % 65536).toNat).2
      rw [if_neg (by decide), if_neg (by decide), z1.out, Option.bind_some, z2.out, Option.bind_some, z3.out, c2, Option.bind_some, if_pos (by simp only [List.length_append, ho]; omega)]
    · rw [if_pos rfl, if_pos rfl, List.append_nil]
  have hh : IntKind.u64.wrap (IntKind.u64.wrap (IntKind.u64.wrap (b : Int) * 16) + IntKind.u64.wrap (IntKind.u64.wrap (s : Int) * 2)) = ((16 * b + 2 * s : Nat) : Int) := by
    obtain ⟨hs1, _, _⟩ := hs
    rw [wr64, wr64, wr64, wr64, wr64]
    omega
  have HH := Aside0.mk hh
  clear hh
  rw [gb_Encode.j1]
  cases g1
  · rw [if_neg (by decide), HH.out]
    exact step _ (by unfold headB; rw [if_neg (by decide), Nat.add_zero])
  · rw [if_pos rfl, HH.out]
    refine step _ ?_
    obtain ⟨hs1, _, _⟩ := hs
    rw [wr64]
    unfold headB
    rw [if_pos rfl]
    omega
theorem step_ref (l : List S31) (t : Int) (hl : l.length ≤ 60) (h : histP l t) (j : Nat) (hj : j < l.length) : ∃ q : List Int,
    (∀ K, 30 ≤ K → change_Encode.f K (prv l j).f0 (prv l j).f1 (prv l j).f2 (prv l j).f3.f0.f0 (prv l j).f3.f0.f1 (prv l j).f3.f1 (prv l j).f3.f2 (prv l j).f3.f3 (rd_T31 l j).f0 (rd_T31 l j).f1 (rd_T31 l j).f2 (rd_T31 l j).f3.f0.f0 (rd_T31 l j).f3.f0.f1 (rd_T31 l j).f3.f1 (rd_T31 l j).f3.f2 (rd_T31 l j).f3.f3 = some q) ∧
    (∀ K, 60 ≤ K → change_Decode.f K (prv l j).f0 (prv l j).f1 (prv l j).f2 (prv l j).f3.f0.f0 (prv l j).f3.f0.f1 (prv l j).f3.f1 (prv l j).f3.f2 (prv l j).f3.f3 q = some ((rd_T31 l j).f0, (rd_T31 l j).f1, (rd_T31 l j).f2, (rd_T31 l j).f3.f0.f0, (rd_T31 l j).f3.f0.f1, (rd_T31 l j).f3.f1, (rd_T31 l j).f3.f2, (rd_T31 l j).f3.f3, 0)) ∧
    (∀ K, 1400 ≤ K → gb_Encode.f K (prv l j).f0 (prv l j).f1 (prv l j).f2 (prv l j).f3.f0.f0 (prv l j).f3.f0.f1 (prv l j).f3.f1 (prv l j).f3.f2 (prv l j).f3.f3 (rd_T31 l j).f0 (rd_T31 l j).f1 (rd_T31 l j).f2 (rd_T31 l j).f3.f0.f0 (rd_T31 l j).f3.f0.f1 (rd_T31 l j).f3.f1 (rd_T31 l j).f3.f2 (rd_T31 l j).f3.f3 = some q) := by
  obtain ⟨p1, p2, p3, p4⟩ := h
  obtain ⟨n1, ⟨f1, g1⟩, u1, u2⟩ := p1 j hj
  obtain ⟨b, N, e1, e2, e3, e4, e5, e6⟩ := pref_form _ f1
  have prev : ∃ b0 N0 : Nat, (prv l j).f3.f0.f1 = (b0 : Int) ∧ b0 < 33 ∧ octB (b0 : Int) = (N0 : Int) ∧ small (prv l j).f3.f1 (prv l j).f3.f2 (prv l j).f3.f3 ∧ (prv l j).f0 = (j : Int) ∧ 0 ≤ (prv l j).f1 ∧ (prv l j).f1 ≤ (rd_T31 l j).f1 := by
    cases j with
    | zero => exact ⟨0, 0, rfl, by omega, rfl, ⟨by show (0 : Int) ≤ 0 ∧ (0 : Int) < 16; omega, by show (0 : Int) ≤ 0 ∧ (0 : Int) < 65536; omega, by show (0 : Int) ≤ 0 ∧ (0 : Int) < 65536; omega⟩, rfl, Int.le_refl _, u1⟩
    | succ j =>
      rw [prv_succ]
      obtain ⟨m1, ⟨k1, k2⟩, v1, v2⟩ := p1 j (by omega)
      obtain ⟨b0, N0, d1, d2, d3, d4, d5, d6⟩ := pref_form _ k1
      exact ⟨b0, N0, d1, d2, d4, k2.1, by rw [m1]; omega, v1, p2 j hj⟩
  obtain ⟨b0, N0, c1, c2, c3, c4, c5, c6, c7⟩ := prev
  obtain ⟨s, hs⟩ := sh_any (prv l j).f3.f0.f0 (rd_T31 l j).f3.f0.f0 (min N N0)
  have hsm := hs.1
  have hno : IntKind.u64.wrap ((prv l j).f0 + 1) = (rd_T31 l j).f0 := by rw [wr64, c5, n1]; omega
  refine ⟨encC (prv l j).f1 (prv l j).f3.f1 (prv l j).f3.f2 (prv l j).f3.f3 (rd_T31 l j).f1 (rd_T31 l j).f2 (rd_T31 l j).f3.f0.f0 (rd_T31 l j).f3.f1 (rd_T31 l j).f3.f2 (rd_T31 l j).f3.f3 b s (N - s), fun K hK => ?_, fun K hK => ?_, fun K hK => ?_⟩
  · rw [c1, e1]
    exact enc_chg K hK N N0 s (N - s) b b0 e2 c2 e3 (by omega) e4 c3 _ _ _ _ _ _ _ _ _ _ _ _ _ _ hs (by omega) c4 g1.1
  · rw [c1, e1]
    exact dec_chg K hK N N0 s (N - s) b b0 e2 c2 e3 (by omega) e4 c3 _ _ _ _ _ _ _ _ _ _ _ _ _ _ hs (by omega) c4 g1 hno e5 e6
  · rw [c1, e1]
    exact renc_chg K hK N N0 s (N - s) b b0 e2 c2 e3 (by omega) e4 c3 _ _ _ _ _ _ _ _ _ _ _ _ _ _ hs (by omega) c4 g1.1
theorem cb_run (K : Nat) (hK : 1400 ≤ K) (l : List S31) (hl : l.length ≤ 60) (t : Int) (h : histP l t) (d : Nat) : ∀ i : Nat, i + d = l.length →
    gl_ChangeBytes.l0 (K + d + 1) l (i : Int) (prv l i).f0 (prv l i).f1 (prv l i).f2 (prv l i).f3.f0.f0 (prv l i).f3.f0.f1 (prv l i).f3.f1 (prv l i).f3.f2 (prv l i).f3.f3 = some true := by
  induction d with
  | zero =>
    intro i hi
    rw [gl_ChangeBytes.l0, if_neg (by omega)]
  | succ d ih =>
    intro i hi
    obtain ⟨q, h1, h2, h3⟩ := step_ref l t hl h i (by omega)
    have w := Aside0.mk (wr1 i (by omega))
    have ih2 := ih (i + 1) (by omega)
    rw [prv_succ] at ih2
    rw [show K + (d + 1) + 1 = (K + d + 1) + 1 by omega, gl_ChangeBytes.l0, if_pos (by omega), if_pos (by omega), h1 (K + d + 1) (by omega), Option.bind_some, h2 (K + d + 1) (by omega), Option.bind_some, h3 (K + d + 1) (by omega), Option.bind_some, if_pos rfl, if_pos rfl, if_neg (by simp only [beq_self_eq_true, Bool.not_true, Bool.or_self]; decide), w.out]
    exact ih2
theorem ChangeBytes : gl_ChangeBytes.Pure := by
  intro x0 hm hx
  by_cases hn : x0.length ≤ 60
  · obtain ⟨l, t, e1, e2, e3⟩ := hist_run x0 hx hn 1400 (by omega) x0.length 0 [] 0 (by omega) rfl histP_nil
    have hrun := cb_run (1410 + l.length) (by omega) l (by omega) t e2 l.length 0 (by omega)
    have hist : gb_History.f (1410 + l.length + l.length + 1) x0 = some l := by
      unfold gb_History.f
      exact at_rounds (g := fun k => gb_History.l0 k x0 [] 0 0) (fun k => (gb_History.mono_l k).1 _ _ _ _) (show 1400 + 2 * x0.length + 2 ≤ _ by omega) e1
    refine ⟨1410 + l.length + l.length + 2, ?_⟩
    unfold gl_ChangeBytes.f
    rw [awake07 _ (by omega), Option.bind_some, if_pos rfl, decide_eq_false (by omega), gl_ChangeBytes.j0, if_neg (by decide), hist, Option.bind_some]
    exact hrun
  · refine ⟨41, ?_⟩
    unfold gl_ChangeBytes.f
    rw [awake07 _ (by omega), Option.bind_some, if_pos rfl, decide_eq_true (by omega), gl_ChangeBytes.j0, if_pos rfl, awake07 _ (by omega), Option.bind_some]

end Go.Proofs.Ytllcighpfikpkaa.Pure
