/- MessageReads: any bytes with their right sum are read as what has just these bytes, where nothing strange is in them.
For every input; no condition is added to the given statement. -/
import Derived.Test.YtnfdgpmdakciiaaQMessageReadsx11
import Derived.Laws.BitsAllLaws
import Derived.OpenShut
import Derived.Lib.Bytes
namespace Go.Proofs.Ytnfdgpmdakciiaa.Pure
open Go.RowKit Go.Proofs.Ytnfdgpmdakciiaa.QMessageReads Go.Proofs.YtnfdgpmdakciiaaW.PrintWords Go.Proofs.YtnfdgpmdakciiaaW.PrintLast Go.Proofs.YtnfdgpmdakciiaaW.PrintMore
set_option linter.unusedSimpArgs false
set_option linter.unusedVariables false

abbrev T8 : ByteArray := (⟨#[0, 1, 2, 2, 3, 3, 3, 3, 4, 4, 4, 4, 4, 4, 4, 4, 5, 5, 5, 5, 5, 5, 5, 5, 5, 5, 5, 5, 5, 5, 5, 5, 6, 6, 6, 6, 6, 6, 6, 6, 6, 6, 6, 6, 6, 6, 6, 6, 6, 6, 6, 6, 6, 6, 6, 6, 6, 6, 6, 6, 6, 6, 6, 6, 7, 7, 7, 7, 7, 7, 7, 7, 7, 7, 7, 7, 7, 7, 7, 7, 7, 7, 7, 7, 7, 7, 7, 7, 7, 7, 7, 7, 7, 7, 7, 7, 7, 7, 7, 7, 7, 7, 7, 7, 7, 7, 7, 7, 7, 7, 7, 7, 7, 7, 7, 7, 7, 7, 7, 7, 7, 7, 7, 7, 7, 7, 7, 7, 8, 8, 8, 8, 8, 8, 8, 8, 8, 8, 8, 8, 8, 8, 8, 8, 8, 8, 8, 8, 8, 8, 8, 8, 8, 8, 8, 8, 8, 8, 8, 8, 8, 8, 8, 8, 8, 8, 8, 8, 8, 8, 8, 8, 8, 8, 8, 8, 8, 8, 8, 8, 8, 8, 8, 8, 8, 8, 8, 8, 8, 8, 8, 8, 8, 8, 8, 8, 8, 8, 8, 8, 8, 8, 8, 8, 8, 8, 8, 8, 8, 8, 8, 8, 8, 8, 8, 8, 8, 8, 8, 8, 8, 8, 8, 8, 8, 8, 8, 8, 8, 8, 8, 8, 8, 8, 8, 8, 8, 8, 8, 8, 8, 8, 8, 8, 8, 8, 8, 8, 8, 8, 8, 8, 8, 8, 8, 8]⟩ : ByteArray)
theorem t8_all : ((List.range 256).all fun i => (List.range 9).all fun j => (decide (i < 2 ^ j)) == decide (bt T8 (i : Int) ≤ (j : Int))) = true := by decide +kernel
theorem t8_bd : ((List.range 256).all fun i => decide (0 ≤ bt T8 (i : Int) ∧ bt T8 (i : Int) ≤ 8)) = true := by decide +kernel
theorem t8 (i : Nat) (h : i < 256) : ∃ L : Nat, bt T8 (i : Int) = (L : Int) ∧ L ≤ 8 ∧ ∀ j, j ≤ 8 → (i < 2 ^ j ↔ L ≤ j) := by
  have h1 : ((List.range 9).all fun j => (decide (i < 2 ^ j)) == decide (bt T8 (i : Int) ≤ (j : Int))) = true := List.all_eq_true.1 t8_all i (List.mem_range.2 h)
  have h2 : 0 ≤ bt T8 (i : Int) ∧ bt T8 (i : Int) ≤ 8 := of_decide_eq_true (List.all_eq_true.1 t8_bd i (List.mem_range.2 h))
  refine ⟨(bt T8 (i : Int)).toNat, by omega, by omega, fun j hj => ?_⟩
  have h3 : ((decide (i < 2 ^ j)) == decide (bt T8 (i : Int) ≤ (j : Int))) = true := List.all_eq_true.1 h1 j (List.mem_range.2 (by omega))
  rw [beq_iff_eq, decide_eq_decide] at h3
  omega
theorem up (c B w n L : Nat) (hB : 2 ^ c = B) (hc : B ≤ n) (h : ∀ j, j ≤ w → (n / B < 2 ^ j ↔ L ≤ j)) : ∀ j, j ≤ w + c → (n < 2 ^ j ↔ L + c ≤ j) := by
  intro j hj
  subst hB
  by_cases hcj : c ≤ j
  · obtain ⟨d, rfl⟩ : ∃ d, j = d + c := ⟨j - c, by omega⟩
    have := h d (by omega)
    rw [Nat.div_lt_iff_lt_mul (Nat.two_pow_pos c), ← Nat.pow_add] at this
    omega
  · have : 2 ^ j ≤ 2 ^ c := Nat.pow_le_pow_right (by omega) (by omega)
    omega
theorem wide (w n L : Nat) (hn : n < 2 ^ w) (hL : L ≤ w) (h : ∀ j, j ≤ w → (n < 2 ^ j ↔ L ≤ j)) : ∀ j, (n < 2 ^ j ↔ L ≤ j) := by
  intro j
  by_cases hj : j ≤ w
  · exact h j hj
  · have : 2 ^ w ≤ 2 ^ j := Nat.pow_le_pow_right (by omega) (by omega)
    omega
theorem len_low (k n : Nat) (c : Int) (hc : 0 ≤ c ∧ c ≤ 32) (hn : n < 4294967296) : ∃ L : Nat, bits_Len64.j0 (k + 1) (n : Int) c = some (c + L) ∧ L ≤ 32 ∧ ∀ j, (n < 2 ^ j ↔ L ≤ j) := by
  rw [bits_Len64.j0]
  by_cases a : n ≥ 65536
  · rw [if_pos (by omega)]
    by_cases b : n / 65536 ≥ 256
    · obtain ⟨L, hL, h8, hj⟩ := t8 (n / 65536 / 256) (by omega)
      have e : ((n : Int) / 65536 / 256) % 256 = ((n / 65536 / 256 : Nat) : Int) := by omega
      rw [if_pos (by omega), if_pos (by omega), if_pos (by omega), e, hL]
      refine ⟨L + 8 + 16, ?_, by omega, wide 32 n _ (by omega) (by omega) (up 16 65536 16 n (L + 8) rfl (by omega) (up 8 256 8 (n / 65536) L rfl (by omega) hj))⟩
      refine congrArg some ?_
      unfold wrap64
      omega
    · obtain ⟨L, hL, h8, hj⟩ := t8 (n / 65536) (by omega)
      have e : ((n : Int) / 65536) % 256 = ((n / 65536 : Nat) : Int) := by omega
      rw [if_neg (by omega), if_pos (by omega), if_pos (by omega), e, hL]
      refine ⟨L + 16, ?_, by omega, wide 24 n _ (by omega) (by omega) (up 16 65536 8 n L rfl (by omega) hj)⟩
      refine congrArg some ?_
      unfold wrap64
      omega
  · rw [if_neg (by omega)]
    by_cases b : n ≥ 256
    · obtain ⟨L, hL, h8, hj⟩ := t8 (n / 256) (by omega)
      have e : ((n : Int) / 256) % 256 = ((n / 256 : Nat) : Int) := by omega
      rw [if_pos (by omega), if_pos (by omega), if_pos (by omega), e, hL]
      refine ⟨L + 8, ?_, by omega, wide 16 n _ (by omega) (by omega) (up 8 256 8 n L rfl (by omega) hj)⟩
      refine congrArg some ?_
      unfold wrap64
      omega
    · obtain ⟨L, hL, h8, hj⟩ := t8 n (by omega)
      have e : (n : Int) % 256 = (n : Int) := by omega
      rw [if_neg (by omega), if_pos (by omega), if_pos (by omega), e, hL]
      refine ⟨L, ?_, by omega, wide 8 n _ (by omega) (by omega) hj⟩
      refine congrArg some ?_
      unfold wrap64
      omega
theorem len_is (k n : Nat) (hn : n < 18446744073709551616) : ∃ L : Nat, bits_Len64.f (k + 1) (n : Int) = some (L : Int) ∧ L ≤ 64 ∧ ∀ j, (n < 2 ^ j ↔ L ≤ j) := by
  unfold bits_Len64.f
  by_cases a : n ≥ 4294967296
  · obtain ⟨L, hL, h32, hj⟩ := len_low k (n / 4294967296) 32 (by omega) (by omega)
    have e : (n : Int) / 4294967296 = ((n / 4294967296 : Nat) : Int) := by omega
    rw [if_pos (by omega), e, hL]
    refine ⟨L + 32, ?_, by omega, wide 64 n _ (by omega) (by omega) (up 32 4294967296 32 n L rfl (by omega) (fun j _ => hj j))⟩
    refine congrArg some ?_
    omega
  · obtain ⟨L, hL, h32, hj⟩ := len_low k n 0 (by omega) (by omega)
    rw [if_neg (by omega), hL]
    exact ⟨L, congrArg some (by omega), by omega, hj⟩

theorem size_is (k n : Nat) (hn : n < 18446744073709551616) : ∃ s : Nat, coin_Size.f (k + 1) (n : Int) = some (s : Int) ∧ 1 ≤ s ∧ s ≤ 9 ∧ ∀ i, 1 ≤ i → i ≤ 8 → (s ≤ i ↔ n < 2 ^ (7 * i)) := by
  obtain ⟨L, hL, h64, hj⟩ := len_is k n hn
  refine ⟨max 1 (min 9 ((L + 6) / 7)), ?_, by omega, by omega, fun i h1 h8 => ?_⟩
  · unfold coin_Size.f
    rw [hL, Option.bind_some]
    refine congrArg some ?_
    have e : wrap64 (Int.tdiv (wrap64 ((L : Int) + 6)) 7) = (((L + 6) / 7 : Nat) : Int) := by
      have : wrap64 ((L : Int) + 6) = ((L + 6 : Nat) : Int) := by unfold wrap64; omega
      rw [this, Int.tdiv_eq_ediv_of_nonneg (by omega)]
      unfold wrap64
      omega
    rw [e]
    unfold mx mn
    (repeat' split) <;> omega
  · rw [hj]
    omega
def tl (n : Nat) : Nat → List Int
  | 0 => []
  | i + 1 => ((n / 256 ^ i % 256 : Nat) : Int) :: tl n i
def hd1 (s n : Nat) : Int := if s = 9 then 255 else ((256 - 2 ^ (9 - s) + n / 256 ^ (s - 1) : Nat) : Int)
def cb (s n : Nat) : List Int := hd1 s n :: tl n (s - 1)
/-- how many bytes n takes -/
def Takes (s n : Nat) : Prop := 1 ≤ s ∧ s ≤ 9 ∧ ∀ i, 1 ≤ i → i ≤ 8 → (s ≤ i ↔ n < 2 ^ (7 * i))
theorem tl_length (n : Nat) : ∀ i, (tl n i).length = i
  | 0 => rfl
  | i + 1 => by simp [tl, tl_length n i]
theorem shr_is (n i : Nat) (hi : i ≤ 8) : (shr .u64 (n : Int) ((8 * i : Nat) : Int)) % 256 = ((n / 256 ^ i % 256 : Nat) : Int) := by
  unfold shr
  have e : min ((8 * i : Nat) : Int).toNat IntKind.u64.bits = 8 * i := by
    have : IntKind.u64.bits = 64 := rfl
    omega
  have e2 : (2 : Int) ^ (8 * i) = ((256 ^ i : Nat) : Int) := by
    rw [show (256 : Nat) = 2 ^ 8 from rfl, ← Nat.pow_mul]
    simp
  rw [e, e2]
  omega
theorem put_loop (n : Nat) : ∀ i : Nat, i ≤ 8 → ∀ (k : Nat) (acc : List Int), i < k → acc.length + i < 140737488355328 → coin_Put.l0 k acc (n : Int) ((i : Int) - 1) = some (acc ++ tl n i) := by
  intro i
  induction i with
  | zero =>
    intro _ k acc hk _
    obtain ⟨k, rfl⟩ : ∃ m, k = m + 1 := ⟨k - 1, by omega⟩
    rw [coin_Put.l0, if_neg (by omega), tl, List.append_nil]
  | succ i ih =>
    intro hi k acc hk hl
    obtain ⟨k, rfl⟩ : ∃ m, k = m + 1 := ⟨k - 1, by omega⟩
    have e1 : wrap64 (8 * (((i + 1 : Nat) : Int) - 1)) = ((8 * i : Nat) : Int) := by unfold wrap64; omega
    have e2 : wrap64 (((i + 1 : Nat) : Int) - 1 - 1) = (i : Int) - 1 := by unfold wrap64; omega
    rw [coin_Put.l0, if_pos (by omega), e1, e2, if_pos (by omega), if_pos (by omega), shr_is n i (by omega)]
    rw [ih (by omega) k (acc ++ [((n / 256 ^ i % 256 : Nat) : Int)]) (by omega) (by simp; omega), tl, List.append_assoc]
    rfl
theorem lead_all : ((List.range 8).all fun q => (List.range 128).all fun h => (!decide (h < 2 ^ (7 - q))) || decide (bits .or .u8 (shl .u8 255 ((8 - q : Nat) : Int)) (h : Int) = ((256 - 2 ^ (8 - q) + h : Nat) : Int))) = true := by decide +kernel
theorem lead_is (q h : Nat) (hq : q < 8) (hh : h < 2 ^ (7 - q)) : bits .or .u8 (shl .u8 255 ((8 - q : Nat) : Int)) (h : Int) = ((256 - 2 ^ (8 - q) + h : Nat) : Int) := by
  have h7 : 2 ^ (7 - q) ≤ 2 ^ 7 := Nat.pow_le_pow_right (by omega) (by omega)
  have h1 : ((List.range 128).all fun h => (!decide (h < 2 ^ (7 - q))) || decide (bits .or .u8 (shl .u8 255 ((8 - q : Nat) : Int)) (h : Int) = ((256 - 2 ^ (8 - q) + h : Nat) : Int))) = true := List.all_eq_true.1 lead_all q (List.mem_range.2 hq)
  have h2 : ((!decide (h < 2 ^ (7 - q))) || decide (bits .or .u8 (shl .u8 255 ((8 - q : Nat) : Int)) (h : Int) = ((256 - 2 ^ (8 - q) + h : Nat) : Int))) = true := List.all_eq_true.1 h1 h (List.mem_range.2 (by omega))
  rw [decide_eq_true hh, Bool.not_true, Bool.false_or] at h2
  exact of_decide_eq_true h2
theorem high_small (s n : Nat) (h1 : 1 ≤ s) (h8 : s ≤ 8) (hn : n < 2 ^ (7 * s)) : n / 256 ^ (s - 1) < 2 ^ (8 - s) := by
  apply Nat.div_lt_of_lt_mul
  rw [show (256 : Nat) = 2 ^ 8 from rfl, ← Nat.pow_mul, ← Nat.pow_add]
  rwa [show 8 * (s - 1) + (8 - s) = 7 * s by omega]
theorem put_of (k s n : Nat) (p : List Int) (hs : Takes s n) (hz : coin_Size.f (k + 11) (n : Int) = some (s : Int)) (hp : p.length + 9 < 140737488355328) : coin_Put.f (k + 11) p (n : Int) = some (p ++ cb s n) := by
  obtain ⟨h1, h9, hs⟩ := hs
  have e3 : wrap64 ((s : Int) - 2) = ((s - 1 : Nat) : Int) - 1 := by unfold wrap64; omega
  unfold coin_Put.f
  rw [hz, Option.bind_some]
  by_cases h : s = 9
  · rw [if_pos (by omega), if_pos (by omega), coin_Put.j0, e3, put_loop n (s - 1) (by omega) _ _ (by omega) (by simp; omega), List.append_assoc]
    unfold cb hd1
    rw [if_pos h]
    rfl
  · have hn := (hs s h1 (by omega)).1 (Nat.le_refl _)
    have e1 : wrap64 (9 - (s : Int)) = ((8 - (s - 1) : Nat) : Int) := by unfold wrap64; omega
    have e2 : wrap64 (8 * (wrap64 ((s : Int) - 1))) = ((8 * (s - 1) : Nat) : Int) := by unfold wrap64; omega
    have hh := high_small s n h1 (by omega) hn
    have hb : n / 256 ^ (s - 1) < 2 ^ (7 - (s - 1)) := by rwa [show 7 - (s - 1) = 8 - s by omega]
    have h7 : 2 ^ (7 - (s - 1)) ≤ 2 ^ 7 := Nat.pow_le_pow_right (by omega) (by omega)
    rw [if_neg (by omega), e1, e2, if_pos (by omega), if_pos (by omega), if_pos (by omega), shr_is n (s - 1) (by omega), Nat.mod_eq_of_lt (by omega), lead_is (s - 1) _ (by omega) hb, coin_Put.j0, e3, put_loop n (s - 1) (by omega) _ _ (by omega) (by simp; omega), List.append_assoc]
    unfold cb hd1
    rw [if_neg h, show 8 - (s - 1) = 9 - s by omega]
    rfl
theorem put_is (k n : Nat) (hn : n < 18446744073709551616) : ∃ s, Takes s n ∧ coin_Size.f (k + 11) (n : Int) = some (s : Int) ∧ ∀ p : List Int, p.length + 9 < 140737488355328 → coin_Put.f (k + 11) p (n : Int) = some (p ++ cb s n) := by
  obtain ⟨s, hz, h1, h9, hs⟩ := size_is (k + 10) n hn
  exact ⟨s, ⟨h1, h9, hs⟩, hz, fun p hp => put_of k s n p ⟨h1, h9, hs⟩ hz hp⟩
def isBytes (l : List Int) : Prop := ∀ x ∈ l, 0 ≤ x ∧ x < 256
theorem tl_bytes (n : Nat) : ∀ i, isBytes (tl n i)
  | 0 => by intro x hx; simp [tl] at hx
  | i + 1 => by
    intro x hx
    rw [tl, List.mem_cons] at hx
    rcases hx with rfl | hx
    · omega
    · exact tl_bytes n i x hx
theorem hd1_bytes (s n : Nat) (h : Takes s n) : 0 ≤ hd1 s n ∧ hd1 s n < 256 := by
  obtain ⟨h1, h9, hs⟩ := h
  unfold hd1
  by_cases h : s = 9
  · rw [if_pos h]; omega
  · rw [if_neg h]
    have hh := high_small s n h1 (by omega) ((hs s h1 (by omega)).1 (Nat.le_refl _))
    have e : 2 ^ (9 - s) = 2 * 2 ^ (8 - s) := by rw [show 9 - s = (8 - s) + 1 by omega, Nat.pow_succ]; omega
    have h8 : 2 ^ (8 - s) ≤ 2 ^ 7 := Nat.pow_le_pow_right (by omega) (by omega)
    generalize n / 256 ^ (s - 1) = q at hh ⊢
    omega
theorem cb_bytes (s n : Nat) (h : Takes s n) : isBytes (cb s n) := by
  intro x hx
  rw [cb, List.mem_cons] at hx
  rcases hx with rfl | hx
  · exact hd1_bytes s n h
  · exact tl_bytes n _ x hx
theorem takes_one (s t a : Nat) (hs : Takes s a) (ht : Takes t a) : s = t := by
  obtain ⟨h1, h9, hs⟩ := hs
  obtain ⟨g1, g9, ht⟩ := ht
  by_cases e : s ≤ 8
  · have := (ht s h1 e).2 ((hs s h1 e).1 (Nat.le_refl _))
    by_cases f : t ≤ 8
    · have := (hs t g1 f).2 ((ht t g1 f).1 (Nat.le_refl _))
      omega
    · omega
  · by_cases f : t ≤ 8
    · have := (hs t g1 f).2 ((ht t g1 f).1 (Nat.le_refl _))
      omega
    · omega
theorem wr64 (n : Int) : IntKind.u64.wrap n = n % 18446744073709551616 := by
  simp [IntKind.wrap, IntKind.signed, IntKind.bits]
def lzOk (b : Nat) : Bool :=
  match bits_LeadingZeros8.f (Go.bits .xor .u8 IntKind.u8.max (b : Int)) with
  | some t => decide (0 ≤ t ∧ t ≤ 8) && (decide (t = 8) || (decide (0 ≤ Go.bits .and .u8 (b : Int) (shr .u8 255 (t + 1))) && decide ((Go.bits .and .u8 (b : Int) (shr .u8 255 (t + 1))).toNat < 2 ^ (7 - t.toNat)) && decide (b = 256 - 2 ^ (8 - t.toNat) + (Go.bits .and .u8 (b : Int) (shr .u8 255 (t + 1))).toNat))) && (!decide (t = 8) || decide (b = 255))
  | none => false
theorem lz_all : ((List.range 256).all lzOk) = true := by decide +kernel
theorem lz_is (b : Nat) (hb : b < 256) : ∃ K : Nat, 1 ≤ K ∧ K ≤ 9 ∧ bits_LeadingZeros8.f (Go.bits .xor .u8 IntKind.u8.max (b : Int)) = some ((K : Int) - 1) ∧ (K = 9 → b = 255) ∧
    (K ≤ 8 → ∃ h : Nat, Go.bits .and .u8 (b : Int) (shr .u8 255 (K : Int)) = (h : Int) ∧ h < 2 ^ (8 - K) ∧ b = 256 - 2 ^ (9 - K) + h) := by
  have h : lzOk b = true := List.all_eq_true.1 lz_all b (List.mem_range.2 hb)
  unfold lzOk at h
  cases e : bits_LeadingZeros8.f (Go.bits .xor .u8 IntKind.u8.max (b : Int)) with
  | none => rw [e] at h; simp at h
  | some t =>
    rw [e] at h
    simp only [Bool.and_eq_true, Bool.or_eq_true, decide_eq_true_eq, Bool.not_eq_true', decide_eq_false_iff_not] at h
    obtain ⟨⟨⟨h0, h8⟩, h1⟩, h2⟩ := h
    refine ⟨(t + 1).toNat, by omega, by omega, by refine congrArg some ?_; omega, fun h => ?_, fun h => ?_⟩
    · rcases h2 with h2 | h2
      · omega
      · exact h2
    · rcases h1 with h1 | ⟨⟨h1, h3⟩, h4⟩
      · omega
      · have e1 : (((t + 1).toNat : Nat) : Int) = t + 1 := by omega
        rw [e1]
        refine ⟨(Go.bits .and .u8 (b : Int) (shr .u8 255 (t + 1))).toNat, by omega, ?_, ?_⟩
        · rwa [show 8 - (t + 1).toNat = 7 - t.toNat by omega]
        · rwa [show 9 - (t + 1).toNat = 8 - t.toNat by omega]
/-- bytes as one number, behind v -/
def foldv (v : Nat) : List Int → Nat
  | [] => v
  | b :: q => foldv (v * 256 + b.toNat) q
theorem foldv_lt : ∀ (q : List Int) (v m : Nat), isBytes q → v < m → foldv v q < m * 256 ^ q.length
  | [], v, m, _, h => by simpa [foldv] using h
  | b :: q, v, m, hq, h => by
    have hb := hq b List.mem_cons_self
    have := foldv_lt q (v * 256 + b.toNat) (m * 256) (fun z hz => hq z (List.mem_cons_of_mem _ hz)) (by omega)
    rw [foldv, List.length_cons, Nat.pow_succ]
    rwa [Nat.mul_assoc, Nat.mul_comm 256] at this
theorem tl_foldv : ∀ (q : List Int) (v : Nat), isBytes q → tl (foldv v q) q.length = q ∧ foldv v q / 256 ^ q.length = v
  | [], v, _ => by simp [tl, foldv]
  | b :: q, v, hq => by
    have hb := hq b List.mem_cons_self
    obtain ⟨h1, h2⟩ := tl_foldv q (v * 256 + b.toNat) (fun z hz => hq z (List.mem_cons_of_mem _ hz))
    rw [foldv, List.length_cons, tl, h1, h2, Nat.pow_succ, ← Nat.div_div_eq_div_mul, h2]
    refine ⟨?_, by omega⟩
    have : (((v * 256 + b.toNat) % 256 : Nat) : Int) = b := by omega
    rw [this]
theorem or_join (x : Nat) (b : Int) (hx : x < 72057594037927936) (h0 : 0 ≤ b) (h1 : b < 256) : Go.bits .or .u64 (IntKind.u64.wrap ((x : Int) * 256)) (IntKind.u64.wrap b) = ((x * 256 + b.toNat : Nat) : Int) := by
  have e1 : IntKind.u64.wrap ((x : Int) * 256) = ((x * 256 : Nat) : Int) := by
    rw [wr64]; omega
  have e2 : IntKind.u64.wrap b = ((b.toNat : Nat) : Int) := by
    rw [wr64]; omega
  rw [e1, e2, u64_or_nat _ _ (by omega) (by omega), nat_join 8 (x * 256) b.toNat (by omega) (by omega)]
theorem rd_drop (q : List Int) (i : Nat) (hi : i < q.length) : q.drop i = rd q i :: q.drop (i + 1) := by
  rw [List.drop_eq_getElem_cons hi]
  congr 1
  unfold rd
  simp [List.getD_eq_getElem?_getD, List.getElem?_eq_getElem hi]
theorem get_loop (q : List Int) (hq : isBytes q) (hl : q.length ≤ 8) (K : Int) (d : Nat) : ∀ (i v k : Nat), i + d = q.length → v < 256 ^ (8 - d) → d + 12 < k →
    ∃ s, Takes s (foldv v (q.drop i)) ∧ coin_Get.l0 k K (v : Int) q (q.length : Int) (i : Int) = if (s : Int) = K then some (((foldv v (q.drop i) : Nat) : Int), K, 0) else some (0, 0, 4) := by
  induction d with
  | zero =>
    intro i v k hi hv hk
    obtain ⟨k, rfl⟩ : ∃ m, k = m + 12 := ⟨k - 12, by omega⟩
    have e : q.drop i = [] := List.drop_eq_nil_of_le (by omega)
    obtain ⟨s, hs, hz, _⟩ := put_is k v (by have : 256 ^ (8 - 0) = 18446744073709551616 := rfl; omega)
    refine ⟨s, by rw [e]; exact hs, ?_⟩
    rw [coin_Get.l0, if_neg (by omega), hz, Option.bind_some, e]
    rfl
  | succ d ih =>
    intro i v k hi hv hk
    obtain ⟨k, rfl⟩ : ∃ m, k = m + 1 := ⟨k - 1, by omega⟩
    have hb := hq (rd q i) (by
      have := rd_drop q i (by omega)
      have h : rd q i ∈ q.drop i := by rw [this]; exact List.mem_cons_self
      exact List.mem_of_mem_drop h)
    have hp : 256 ^ (8 - (d + 1)) ≤ 256 ^ 7 := Nat.pow_le_pow_right (by omega) (by omega)
    have hp2 : 256 ^ 7 = 72057594037927936 := rfl
    have e1 : wrap64 ((i : Int) + 1) = ((i + 1 : Nat) : Int) := by unfold wrap64; omega
    have hv' : v * 256 + (rd q i).toNat < 256 ^ (8 - d) := by
      rw [show 8 - d = (8 - (d + 1)) + 1 by omega, Nat.pow_succ]
      omega
    obtain ⟨s, hs, h⟩ := ih (i + 1) (v * 256 + (rd q i).toNat) k (by omega) hv' (by omega)
    refine ⟨s, ?_, ?_⟩
    · rw [rd_drop q i (by omega), foldv]; exact hs
    · rw [coin_Get.l0, if_pos (by omega), if_pos (by omega), if_pos (by omega), or_join v _ (by omega) hb.1 hb.2, e1, h, rd_drop q i (by omega), foldv]
/-- what is ahead of bytes whose first one is b -/
theorem get_is (k : Nat) (b : Nat) (q : List Int) (hb : b < 256) (hq : isBytes q) (hl : q.length < 140737488355328) : ∃ K h : Nat, 1 ≤ K ∧ K ≤ 9 ∧ (K = 9 → b = 255 ∧ h = 0) ∧ (K ≤ 8 → h < 2 ^ (8 - K) ∧ b = 256 - 2 ^ (9 - K) + h) ∧
    ((q.length + 1 < K ∧ coin_Get.f (k + 25) ((b : Int) :: q) = some (0, 0, 5)) ∨
      (K ≤ q.length + 1 ∧ ∃ s, Takes s (foldv h (q.take (K - 1))) ∧ coin_Get.f (k + 25) ((b : Int) :: q) = if s = K then some (((foldv h (q.take (K - 1)) : Nat) : Int), (K : Int), 0) else some (0, 0, 4))) := by
  obtain ⟨K, h1, h9, hz, hk9, hk8⟩ := lz_is b hb
  have r0 : rd ((b : Int) :: q) 0 = (b : Int) := rfl
  have e1 : wrap64 ((K : Int) - 1 + 1) = (K : Int) := by unfold wrap64; omega
  have hlen : ((((b : Int) :: q).length : Nat) : Int) = ((q.length + 1 : Nat) : Int) := rfl
  have tail : ∀ h : Nat, h < 256 ^ (8 - (K - 1)) → K ≤ q.length + 1 → ∃ s, Takes s (foldv h (q.take (K - 1))) ∧ coin_Get.j0 (k + 25) ((b : Int) :: q) (K : Int) (h : Int) = if s = K then some (((foldv h (q.take (K - 1)) : Nat) : Int), (K : Int), 0) else some (0, 0, 4) := by
    intro h hh hK
    have ed : ((((b : Int) :: q).take ((K : Nat) : Int).toNat).drop 1) = q.take (K - 1) := by
      rw [Int.toNat_natCast]
      obtain ⟨K, rfl⟩ : ∃ m, K = m + 1 := ⟨K - 1, by omega⟩
      rfl
    have ll : (q.take (K - 1)).length = K - 1 := by rw [List.length_take]; omega
    obtain ⟨s, hs, h2⟩ := get_loop (q.take (K - 1)) (fun z hz => hq z (List.mem_of_mem_take hz)) (by omega) (K : Int) (K - 1) 0 h (k + 24) (by omega) hh (by omega)
    refine ⟨s, by simpa using hs, ?_⟩
    have h2' : coin_Get.l0 (k + 24) (K : Int) (h : Int) (q.take (K - 1)) ((q.take (K - 1)).length : Int) 0 = if (s : Int) = (K : Int) then some (((foldv h ((q.take (K - 1)).drop 0) : Nat) : Int), (K : Int), 0) else some (0, 0, 4) := h2
    rw [coin_Get.j0, if_pos (by omega), if_pos (by omega), ed, h2', List.drop_zero]
    by_cases e : s = K
    · rw [if_pos (by omega), if_pos e]
    · rw [if_neg (by omega), if_neg e]
  by_cases h8 : K ≤ 8
  · obtain ⟨h, he, hh, hbe⟩ := hk8 h8
    refine ⟨K, h, h1, h9, fun e => by omega, fun _ => ⟨hh, hbe⟩, ?_⟩
    by_cases hK : q.length + 1 < K
    · refine .inl ⟨hK, ?_⟩
      unfold coin_Get.f
      rw [if_neg (by omega), if_pos (by omega), r0, hz, Option.bind_some, e1, if_pos (by omega)]
    · refine .inr ⟨by omega, ?_⟩
      have hh2 : h < 256 ^ (8 - (K - 1)) := by
        have a : 2 ^ (8 - K) ≤ 2 ^ (8 * (8 - (K - 1))) := Nat.pow_le_pow_right (by omega) (by omega)
        rw [show (256 : Nat) = 2 ^ 8 from rfl, ← Nat.pow_mul]
        omega
      have hh3 : 2 ^ (8 - K) ≤ 2 ^ 8 := Nat.pow_le_pow_right (by omega) (by omega)
      obtain ⟨s, hs, h2⟩ := tail h hh2 (by omega)
      refine ⟨s, hs, ?_⟩
      unfold coin_Get.f
      rw [if_neg (by omega), if_pos (by omega), r0, hz, Option.bind_some, e1, if_neg (by omega), if_pos (by omega), if_pos (by omega), he, wr64, show ((h : Int) % 18446744073709551616) = (h : Int) by omega, h2]
  · have hK9 : K = 9 := by omega
    refine ⟨K, 0, h1, h9, fun e => ⟨hk9 e, rfl⟩, fun e => by omega, ?_⟩
    by_cases hK : q.length + 1 < K
    · refine .inl ⟨hK, ?_⟩
      unfold coin_Get.f
      rw [if_neg (by omega), if_pos (by omega), r0, hz, Option.bind_some, e1, if_pos (by omega)]
    · refine .inr ⟨by omega, ?_⟩
      obtain ⟨s, hs, h2⟩ := tail 0 (Nat.pow_pos (by omega)) (by omega)
      refine ⟨s, hs, ?_⟩
      unfold coin_Get.f
      rw [if_neg (by omega), if_pos (by omega), r0, hz, Option.bind_some, e1, if_neg (by omega), if_neg (by omega)]
      exact h2
theorem refbits_loop (d : Nat) : ∀ (n k : Nat) (c : Nat), n < 2 ^ d → d < k → c + d ≤ 1000 → d ≤ 64 → ∃ L : Nat, milestoneref01_bits.l0 k (n : Int) (c : Int) = some ((c + L : Nat) : Int) ∧ L ≤ d ∧ ∀ j, (n < 2 ^ j ↔ L ≤ j) := by
  induction d with
  | zero =>
    intro n k c hn hk _ _
    obtain ⟨k, rfl⟩ : ∃ m, k = m + 1 := ⟨k - 1, by omega⟩
    have h0 : n = 0 := by omega
    subst h0
    refine ⟨0, ?_, by omega, fun j => ?_⟩
    · rw [milestoneref01_bits.l0, if_neg (by omega)]; rfl
    · have := Nat.two_pow_pos j
      omega
  | succ d ih =>
    intro n k c hn hk hc h64
    obtain ⟨k, rfl⟩ : ∃ m, k = m + 1 := ⟨k - 1, by omega⟩
    have hp : 2 ^ (d + 1) ≤ 2 ^ 64 := Nat.pow_le_pow_right (by omega) (by omega)
    by_cases h0 : n = 0
    · subst h0
      refine ⟨0, ?_, by omega, fun j => ?_⟩
      · rw [milestoneref01_bits.l0, if_neg (by omega)]; rfl
      · have := Nat.two_pow_pos j
        omega
    · obtain ⟨L, hL, hd, hj⟩ := ih (n / 2) k (c + 1) (by rw [Nat.pow_succ] at hn; omega) (by omega) (by omega) (by omega)
      have e1 : IntKind.u64.wrap (Int.tdiv (n : Int) 2) = ((n / 2 : Nat) : Int) := by
        rw [Int.tdiv_eq_ediv_of_nonneg (by omega), wr64]; omega
      have e2 : wrap64 ((c : Int) + 1) = ((c + 1 : Nat) : Int) := by unfold wrap64; omega
      refine ⟨L + 1, ?_, by omega, fun j => ?_⟩
      · rw [milestoneref01_bits.l0, if_pos (by omega), e1, e2, hL]
        refine congrArg some ?_
        omega
      · cases j with
        | zero => omega
        | succ j =>
          have := hj j
          rw [Nat.pow_succ]
          omega
theorem refbits_is (n k : Nat) (hn : n < 18446744073709551616) (hk : 64 < k) : ∃ L : Nat, milestoneref01_bits.f k (n : Int) = some (L : Int) ∧ L ≤ 64 ∧ ∀ j, (n < 2 ^ j ↔ L ≤ j) := by
  obtain ⟨L, hL, h⟩ := refbits_loop 64 n k 0 (by have : 2 ^ 64 = 18446744073709551616 := rfl; omega) hk (by omega) (by omega)
  refine ⟨L, ?_, h⟩
  unfold milestoneref01_bits.f
  rw [show (0 : Int) = ((0 : Nat) : Int) from rfl, hL]
  refine congrArg some ?_
  omega
theorem ref_up (s n : Nat) (hs : Takes s n) (hn : n < 18446744073709551616) (d : Nat) : ∀ (i k : Nat), 1 ≤ i → i + d = s → milestoneref01_Coin.l0 (k + 66 + d + 1) (n : Int) (i : Int) = milestoneref01_Coin.j1 (k + 66) (n : Int) (s : Int) := by
  obtain ⟨h1, h9, hs⟩ := hs
  induction d with
  | zero =>
    intro i k hi hd
    have e : i = s := by omega
    subst e
    rw [milestoneref01_Coin.l0]
    by_cases h : i < 9
    · obtain ⟨L, hL, hl, hj⟩ := refbits_is n (k + 66 + 0) hn (by omega)
      have e7 : wrap64 (7 * (i : Int)) = ((7 * i : Nat) : Int) := by unfold wrap64; omega
      have := (hj (7 * i)).1 ((hs i h1 (by omega)).1 (Nat.le_refl _))
      rw [if_pos (by omega), hL, Option.bind_some, e7, if_neg (by omega)]
    · rw [if_neg (by omega)]
  | succ d ih =>
    intro i k hi hd
    obtain ⟨L, hL, hl, hj⟩ := refbits_is n (k + 66 + (d + 1)) hn (by omega)
    have e7 : wrap64 (7 * (i : Int)) = ((7 * i : Nat) : Int) := by unfold wrap64; omega
    have e1 : wrap64 ((i : Int) + 1) = ((i + 1 : Nat) : Int) := by unfold wrap64; omega
    have h3 : ¬ n < 2 ^ (7 * i) := fun h => by have := (hs i hi (by omega)).2 h; omega
    have := hj (7 * i)
    rw [milestoneref01_Coin.l0, if_pos (by omega), hL, Option.bind_some, e7, if_pos (by omega), e1]
    exact ih (i + 1) k (by omega) (by omega)
theorem ref_nine (n : Nat) : ∀ i : Nat, i ≤ 8 → ∀ (k : Nat) (acc : List Int), i < k → acc.length + i < 140737488355328 → milestoneref01_Coin.l1 k (n : Int) acc ((i : Int) - 1) = some (acc ++ tl n i) := by
  intro i
  induction i with
  | zero =>
    intro _ k acc hk _
    obtain ⟨k, rfl⟩ : ∃ m, k = m + 1 := ⟨k - 1, by omega⟩
    rw [milestoneref01_Coin.l1, if_neg (by omega), tl, List.append_nil]
  | succ i ih =>
    intro hi k acc hk hl
    obtain ⟨k, rfl⟩ : ∃ m, k = m + 1 := ⟨k - 1, by omega⟩
    have e1 : wrap64 (8 * (((i + 1 : Nat) : Int) - 1)) = ((8 * i : Nat) : Int) := by unfold wrap64; omega
    have e2 : wrap64 (((i + 1 : Nat) : Int) - 1 - 1) = (i : Int) - 1 := by unfold wrap64; omega
    rw [milestoneref01_Coin.l1, if_pos (by omega), e1, e2, if_pos (by omega), if_pos (by omega), shr_is n i (by omega)]
    rw [ih (by omega) k (acc ++ [((n / 256 ^ i % 256 : Nat) : Int)]) (by omega) (by simp; omega), tl, List.append_assoc]
    rfl
theorem tl_last (n : Nat) : ∀ i, tl n (i + 1) = tl (n / 256) i ++ [((n % 256 : Nat) : Int)]
  | 0 => by simp [tl]
  | i + 1 => by
    rw [tl, tl_last n i, tl, Nat.div_div_eq_div_mul, Nat.pow_succ, Nat.mul_comm]
    rfl
theorem ref_fill (s : Nat) (hs : s ≤ 8) : ∀ (i m k : Nat) (out : List Int), i ≤ s → out.length = s → m < 18446744073709551616 → milestoneref01_Coin.l2 (k + i + 1) (m : Int) (s : Int) out ((i : Int) - 1) = milestoneref01_Coin.l3 k (s : Int) (tl m i ++ out.drop i) 128 1 := by
  intro i
  induction i with
  | zero =>
    intro m k out _ _ _
    rw [milestoneref01_Coin.l2, if_neg (by omega), tl, List.nil_append, List.drop_zero]
  | succ i ih =>
    intro m k out hi hl hm
    have e1 : IntKind.u64.wrap (Int.tdiv (m : Int) 256) = ((m / 256 : Nat) : Int) := by
      rw [Int.tdiv_eq_ediv_of_nonneg (by omega), wr64]; omega
    have e2 : wrap64 (((i + 1 : Nat) : Int) - 1 - 1) = (i : Int) - 1 := by unfold wrap64; omega
    have e3 : (Int.tmod (m : Int) 256) % 256 = ((m % 256 : Nat) : Int) := by
      rw [Int.tmod_eq_emod_of_nonneg (by omega)]; omega
    have e4 : (((i + 1 : Nat) : Int) - 1).toNat = i := by omega
    rw [show k + (i + 1) + 1 = (k + i + 1) + 1 by omega, milestoneref01_Coin.l2, if_pos (by omega), if_pos (by omega), if_pos (by omega), e1, e2, e3, e4, ih (m / 256) k _ (by omega) (by rw [List.length_set]; exact hl) (by omega), tl_last, List.append_assoc]
    congr 2
    rw [List.drop_eq_getElem_cons (by rw [List.length_set]; omega), List.getElem_set_self]
    have : (out.set i ((m % 256 : Nat) : Int)).drop (i + 1) = out.drop (i + 1) := by
      rw [List.drop_set_of_lt (by omega)]
    rw [this]
    rfl
theorem ref_lead (s : Nat) (hs : s ≤ 8) (rest : List Int) (d : Nat) : ∀ (j k h : Nat), 1 ≤ j → j + d = s → h + (2 ^ (9 - j) - 2 ^ (9 - s)) < 256 →
    milestoneref01_Coin.l3 (k + d + 1) (s : Int) ((h : Int) :: rest) ((2 ^ (8 - j) : Nat) : Int) (j : Int) = some (((h + (2 ^ (9 - j) - 2 ^ (9 - s)) : Nat) : Int) :: rest) := by
  induction d with
  | zero =>
    intro j k h hj hd hh
    have e : j = s := by omega
    subst e
    rw [milestoneref01_Coin.l3, if_neg (by omega), Nat.sub_self, Nat.add_zero]
  | succ d ih =>
    intro j k h hj hd hh
    have hjs : (j : Int) < (s : Int) := by omega
    have hkd : k + (d + 1) + 1 = (k + d + 1) + 1 := by omega
    have hjd : j + 1 + d = s := by omega
    have p1 : 2 ^ (9 - j) = 2 * 2 ^ (8 - j) := by rw [show 9 - j = (8 - j) + 1 by omega, Nat.pow_succ]; omega
    have p2 : 2 ^ (9 - s) ≤ 2 ^ (8 - j) := Nat.pow_le_pow_right (by omega) (by omega)
    have p3 : 2 ^ (8 - j) = 2 * 2 ^ (8 - (j + 1)) := by rw [show 8 - j = (8 - (j + 1)) + 1 by omega, Nat.pow_succ]; omega
    have p4 : 9 - (j + 1) = 8 - j := by omega
    have p5 : 2 ^ (8 - j) ≤ 2 ^ 8 := Nat.pow_le_pow_right (by omega) (by omega)
    have hb : h + 2 ^ (8 - j) < 256 := by
      clear ih
      omega
    have e3 : ((h : Int) + ((2 ^ (8 - j) : Nat) : Int)) % 256 = ((h + 2 ^ (8 - j) : Nat) : Int) := by
      clear ih hh p1 p2 p3 p5
      generalize 2 ^ (8 - j) = z at hb ⊢
      omega
    have e1 : wrap64 ((j : Int) + 1) = ((j + 1 : Nat) : Int) := by unfold wrap64; omega
    have e2 : wrap64 (Int.tdiv ((2 ^ (8 - j) : Nat) : Int) 2) = ((2 ^ (8 - (j + 1)) : Nat) : Int) := by
      rw [Int.tdiv_eq_ediv_of_nonneg (by omega)]
      unfold wrap64
      omega
    have r0 : rd ((h : Int) :: rest) 0 = (h : Int) := rfl
    have hl : (((((h : Int) :: rest).length : Nat)) : Int) = ((rest.length + 1 : Nat) : Int) := rfl
    have hl0 : (0 : Int) < (((((h : Int) :: rest).length : Nat)) : Int) := by rw [hl]; omega
    have hset : ((h : Int) :: rest).set (0 : Int).toNat ((h + 2 ^ (8 - j) : Nat) : Int) = ((h + 2 ^ (8 - j) : Nat) : Int) :: rest := rfl
    have hlast : h + 2 ^ (8 - j) + (2 ^ (8 - j) - 2 ^ (9 - s)) = h + (2 ^ (9 - j) - 2 ^ (9 - s)) := by
      clear ih e1 e2 e3 hset r0 hl hl0
      omega
    have hlt : h + 2 ^ (8 - j) + (2 ^ (9 - (j + 1)) - 2 ^ (9 - s)) < 256 := by
      rw [p4, hlast]; exact hh
    have key := ih (j + 1) k (h + 2 ^ (8 - j)) (Nat.le_add_left 1 j) hjd hlt
    rw [hkd, milestoneref01_Coin.l3, if_pos hjs, if_pos hl0, r0, e1, e2, e3, hset, key, p4, hlast]
theorem coin_is (k s n : Nat) (hs : Takes s n) (hn : n < 18446744073709551616) : milestoneref01_Coin.f (k + 90) (n : Int) = some (cb s n) := by
  obtain ⟨h1, h9, hs'⟩ := hs
  unfold milestoneref01_Coin.f
  rw [show k + 90 = (k + 23 - (s - 1)) + 66 + (s - 1) + 1 by omega, show (1 : Int) = ((1 : Nat) : Int) from rfl, ref_up s n ⟨h1, h9, hs'⟩ hn (s - 1) 1 _ (by omega) (by omega)]
  by_cases h : s = 9
  · rw [show k + 23 - (s - 1) + 66 = (k + 80) + 1 by omega, milestoneref01_Coin.j1, if_pos (by omega), show (7 : Int) = ((8 : Nat) : Int) - 1 from rfl, ref_nine n 8 (by omega) _ _ (by omega) (by simp)]
    unfold cb hd1
    rw [if_pos h, h]
    rfl
  · have hh := high_small s n h1 (by omega) ((hs' s h1 (by omega)).1 (Nat.le_refl _))
    have e1 : wrap64 ((s : Int) - 1) = (s : Int) - 1 := by unfold wrap64; omega
    have p1 : 2 ^ (9 - s) = 2 * 2 ^ (8 - s) := by rw [show 9 - s = (8 - s) + 1 by omega, Nat.pow_succ]; omega
    have p2 : 2 ^ (8 - s) ≤ 2 ^ 7 := Nat.pow_le_pow_right (by omega) (by omega)
    have p3 : 0 < 2 ^ (8 - s) := Nat.two_pow_pos _
    have et : tl n s = ((n / 256 ^ (s - 1) : Nat) : Int) :: tl n (s - 1) := by
      obtain ⟨s, rfl⟩ : ∃ m, s = m + 1 := ⟨s - 1, by omega⟩
      rw [tl, Nat.add_sub_cancel] at *
      rw [Nat.mod_eq_of_lt (by omega)]
    obtain ⟨K, hK⟩ : ∃ K, k + 23 - (s - 1) + 66 = (K + (s - 1) + 1) + s + 1 + 1 := ⟨k + 23 - (s - 1) + 66 - (2 * s + 2), by omega⟩
    rw [hK, milestoneref01_Coin.j1, if_neg (by omega), if_pos (by omega), if_pos (by omega), e1, Int.toNat_natCast, ref_fill s (by omega) s n _ _ (by omega) (by simp) hn, List.drop_eq_nil_of_le (by simp), List.append_nil, et]
    have := ref_lead s (by omega) (tl n (s - 1)) (s - 1) 1 K (n / 256 ^ (s - 1)) (by omega) (by omega) (by have : 2 ^ (9 - 1) = 256 := rfl; omega)
    rw [show ((2 ^ (8 - 1) : Nat) : Int) = 128 from rfl, show ((1 : Nat) : Int) = 1 from rfl] at this
    rw [this]
    unfold cb hd1
    rw [if_neg h]
    refine congrArg some (congrArg (· :: _) ?_)
    have : 2 ^ (9 - 1) = 256 := rfl
    omega
def crcP : Nat := 2197175160
def crcS (x : Nat) : Nat := if x % 2 = 1 then x / 2 ^^^ crcP else x / 2
def crcI : Nat → Nat → Nat
  | 0, x => x
  | n + 1, x => crcI n (crcS x)
theorem crcS_xor (x y : Nat) : crcS (x ^^^ y) = crcS x ^^^ crcS y := by
  have hm : (x ^^^ y) % 2 = (x + y) % 2 := by
    have h : (x ^^^ y) % 2 ^ 1 = (x % 2 ^ 1) ^^^ (y % 2 ^ 1) := Nat.xor_mod_two_pow
    rw [Nat.pow_one] at h
    rw [h, Nat.add_mod]
    rcases Nat.mod_two_eq_zero_or_one x with a | a <;> rcases Nat.mod_two_eq_zero_or_one y with b | b <;> rw [a, b] <;> rfl
  have hd : (x ^^^ y) / 2 = x / 2 ^^^ y / 2 := Nat.xor_div_two
  unfold crcS
  rw [hm, hd]
  by_cases a : x % 2 = 1
  · by_cases b : y % 2 = 1
    · rw [if_neg (by omega), if_pos a, if_pos b]
      have e : x / 2 ^^^ crcP ^^^ (y / 2 ^^^ crcP) = x / 2 ^^^ y / 2 ^^^ (crcP ^^^ crcP) := by ac_rfl
      rw [e, Nat.xor_self, Nat.xor_zero]
    · rw [if_pos (by omega), if_pos a, if_neg b]
      ac_rfl
  · by_cases b : y % 2 = 1
    · rw [if_pos (by omega), if_neg a, if_pos b]
      ac_rfl
    · rw [if_neg (by omega), if_neg a, if_neg b]
theorem crcS_two (z : Nat) : crcS (2 * z) = z := by
  unfold crcS
  rw [if_neg (by omega)]
  omega
theorem crcS_lt (x : Nat) (h : x < 4294967296) : crcS x < 4294967296 := by
  unfold crcS
  split
  · exact Nat.xor_lt_two_pow (n := 32) (by omega) (by unfold crcP; omega)
  · omega
theorem crcI_xor : ∀ (n x y : Nat), crcI n (x ^^^ y) = crcI n x ^^^ crcI n y
  | 0, _, _ => rfl
  | n + 1, x, y => by rw [crcI, crcS_xor, crcI_xor n]; rfl
theorem crcI_lt : ∀ (n x : Nat), x < 4294967296 → crcI n x < 4294967296
  | 0, _, h => h
  | n + 1, x, h => crcI_lt n _ (crcS_lt x h)
theorem crcI_shift : ∀ (n z : Nat), crcI n (2 ^ n * z) = z
  | 0, z => by simp [crcI]
  | n + 1, z => by
    rw [crcI, Nat.pow_succ, Nat.mul_comm (2 ^ n) 2, Nat.mul_assoc, crcS_two, crcI_shift n z]
theorem xor_split (x : Nat) : x = 256 * (x / 256) ^^^ x % 256 := by
  apply Nat.eq_of_testBit_eq
  intro i
  have h := Nat.testBit_two_pow_mul_add (x / 256) (show x % 2 ^ 8 < 2 ^ 8 from Nat.mod_lt _ (by omega)) i
  have e : 2 ^ 8 * (x / 256) + x % 2 ^ 8 = x := by omega
  rw [e] at h
  rw [h, Nat.testBit_xor, show (256 : Nat) = 2 ^ 8 from rfl, Nat.testBit_two_pow_mul, Nat.testBit_mod_two_pow]
  by_cases hi : i < 8
  · simp [hi, Nat.not_le.2 hi]
  · simp [hi, Nat.not_lt.1 hi]
theorem crc_byte (x : Nat) : crcI 8 x = x / 256 ^^^ crcI 8 (x % 256) := by
  have h := congrArg (crcI 8) (xor_split x)
  rw [crcI_xor, show (256 : Nat) * (x / 256) = 2 ^ 8 * (x / 256) from rfl, crcI_shift] at h
  exact h
theorem crc_step (r b : Nat) (hb : b < 256) : crcI 8 (r ^^^ b) = r / 256 ^^^ crcI 8 (r % 256 ^^^ b) := by
  have h1 : (r ^^^ b) / 2 ^ 8 = r / 2 ^ 8 ^^^ b / 2 ^ 8 := Nat.xor_div_two_pow
  have h2 : (r ^^^ b) % 2 ^ 8 = r % 2 ^ 8 ^^^ b % 2 ^ 8 := Nat.xor_mod_two_pow
  have e : (2 : Nat) ^ 8 = 256 := rfl
  rw [e] at h1 h2
  rw [crc_byte, h1, h2, Nat.div_eq_of_lt hb, Nat.mod_eq_of_lt hb, Nat.xor_zero]
theorem line_loop (n : Nat) : ∀ (i x k : Nat), i + n = 8 → n < k → x < 4294967296 → tally_line.l0 k (x : Int) (i : Int) = some ((crcI n x : Nat) : Int) := by
  induction n with
  | zero =>
    intro i x k hi hk _
    obtain ⟨k, rfl⟩ : ∃ m, k = m + 1 := ⟨k - 1, by omega⟩
    rw [tally_line.l0, if_neg (by omega)]
    rfl
  | succ n ih =>
    intro i x k hi hk hx
    obtain ⟨k, rfl⟩ : ∃ m, k = m + 1 := ⟨k - 1, by omega⟩
    have e1 : wrap64 ((i : Int) + 1) = ((i + 1 : Nat) : Int) := by unfold wrap64; omega
    have e2 : Go.bits .and .u32 (x : Int) 1 = ((x % 2 : Nat) : Int) := by
      have := u32_and_nat x 1 hx (by omega)
      rw [Nat.and_one_is_mod] at this
      exact this
    have e3 : (x : Int) / 2 = ((x / 2 : Nat) : Int) := by omega
    have e4 : Go.bits .xor .u32 ((x / 2 : Nat) : Int) 2197175160 = ((x / 2 ^^^ crcP : Nat) : Int) := u32_xor_nat (x / 2) 2197175160 (by omega) (by omega)
    have hs := crcS_lt x hx
    rw [tally_line.l0, if_pos (by omega), e1, e2, e3, e4]
    by_cases h : x % 2 = 1
    · have e5 : crcS x = x / 2 ^^^ crcP := by unfold crcS; rw [if_pos h]
      rw [if_pos (by omega), crcI, e5]
      rw [e5] at hs
      exact ih (i + 1) _ k (by omega) (by omega) hs
    · have e5 : crcS x = x / 2 := by unfold crcS; rw [if_neg h]
      rw [if_neg (by omega), crcI, e5]
      rw [e5] at hs
      exact ih (i + 1) _ k (by omega) (by omega) hs
theorem line_is (k b : Nat) (hb : b < 256) : tally_line.f (k + 9) (b : Int) = some ((crcI 8 b : Nat) : Int) := by
  unfold tally_line.f
  have e : (b : Int) % 4294967296 = (b : Int) := by omega
  rw [e]
  exact line_loop 8 0 b (k + 9) (by omega) (by omega) (by omega)
/-- bytes fed to a register -/
def crcB (x : Nat) : Nat := crcI 8 x
def crcF (r : Nat) (q : List Int) : Nat := q.foldl (fun r b => crcB (r ^^^ b.toNat)) r
theorem crcF_nil (r : Nat) : crcF r [] = r := List.foldl_nil
theorem crcF_cons (r : Nat) (b : Int) (q : List Int) : crcF r (b :: q) = crcF (crcB (r ^^^ b.toNat)) q := List.foldl_cons ..
def crcM : Nat := 4294967295
theorem crcM_lt : crcM < 4294967296 := by unfold crcM; omega
def crcV (x : Nat) : Nat := crcM ^^^ x
theorem crcV_lt (x : Nat) (h : x < 4294967296) : crcV x < 4294967296 := by
  unfold crcV
  exact Nat.xor_lt_two_pow (n := 32) crcM_lt h
theorem crcV_bits (x : Nat) (h : x < 4294967296) : Go.bits .xor .u32 IntKind.u32.max (x : Int) = ((crcV x : Nat) : Int) := u32_xor_nat crcM x crcM_lt h
theorem crcF_lt : ∀ (q : List Int) (r : Nat), isBytes q → r < 4294967296 → crcF r q < 4294967296
  | [], r, _, h => by rw [crcF_nil]; exact h
  | b :: q, r, hq, h => by
    have hb := hq b List.mem_cons_self
    rw [crcF_cons]
    exact crcF_lt q _ (fun z hz => hq z (List.mem_cons_of_mem _ hz)) (crcI_lt 8 _ (Nat.xor_lt_two_pow (n := 32) h (by omega)))
theorem rd_byte (q : List Int) (hq : isBytes q) (i : Nat) (hi : i < q.length) : 0 ≤ rd q i ∧ rd q i < 256 := by
  have := rd_drop q i hi
  have h : rd q i ∈ q.drop i := by rw [this]; exact List.mem_cons_self
  exact hq _ (List.mem_of_mem_drop h)
theorem more_loop (q : List Int) (hq : isBytes q) (hl : q.length < 1000000) (d : Nat) : ∀ (i r k : Nat), i + d = q.length → d + 10 < k → r < 4294967296 →
    tally_More.l0 k (r : Int) q (q.length : Int) (i : Int) = some ((crcV (crcF r (q.drop i)) : Nat) : Int) := by
  induction d with
  | zero =>
    intro i r k hi hk hr
    obtain ⟨k, rfl⟩ : ∃ m, k = m + 1 := ⟨k - 1, by omega⟩
    rw [tally_More.l0, if_neg (by omega), crcV_bits r hr, List.drop_eq_nil_of_le (by omega), crcF_nil]
  | succ d ih =>
    intro i r k hi hk hr
    obtain ⟨k, rfl⟩ : ∃ m, k = m + 9 + 1 := ⟨k - 10, by omega⟩
    have hb := rd_byte q hq i (by omega)
    obtain ⟨b, hbe⟩ := Int.eq_ofNat_of_zero_le hb.1
    have hbn : b < 256 := by omega
    have e1 : wrap64 ((i : Int) + 1) = ((i + 1 : Nat) : Int) := by unfold wrap64; omega
    have e2 : (r : Int) % 256 = ((r % 256 : Nat) : Int) := by omega
    have e3 : (r : Int) / 256 = ((r / 256 : Nat) : Int) := by omega
    have hx : r % 256 ^^^ b < 256 := Nat.xor_lt_two_pow (n := 8) (by omega) (by omega)
    have hc : crcI 8 (r % 256 ^^^ b) < 4294967296 := crcI_lt 8 _ (by omega)
    have hd : r / 256 < 4294967296 := by omega
    have hn : r / 256 ^^^ crcI 8 (r % 256 ^^^ b) < 4294967296 := Nat.xor_lt_two_pow (n := 32) hd hc
    have key := ih (i + 1) (r / 256 ^^^ crcI 8 (r % 256 ^^^ b)) (k + 9) (by omega) (by omega) hn
    have t1 : (i : Int) < (q.length : Int) := by omega
    have t2 : (0 : Int) ≤ (i : Int) := by omega
    have t3 : Go.bits .xor .u8 ((r : Int) % 256) (rd q i) = ((r % 256 ^^^ b : Nat) : Int) := by
      rw [e2, hbe]
      exact u8_xor_nat (r % 256) b (by omega) hbn
    have t4 : q.drop i = (b : Int) :: q.drop (i + 1) := by rw [rd_drop q i (by omega), hbe]
    have t5 := line_is k _ hx
    have t6 : Go.bits .xor .u32 ((r : Int) / 256) ((crcI 8 (r % 256 ^^^ b) : Nat) : Int) = ((r / 256 ^^^ crcI 8 (r % 256 ^^^ b) : Nat) : Int) := by
      rw [e3]
      exact u32_xor_nat _ _ hd hc
    clear ih e2 e3 hx hc hd
    rw [tally_More.l0, if_pos t1, if_pos t2, if_pos t1, t3, t5, Option.bind_some, t6, e1, key, t4, crcF_cons, Int.toNat_natCast, crcB, crc_step r b hbn]
theorem more_is (k s : Nat) (q : List Int) (hq : isBytes q) (hl : q.length < 1000000) (hk : q.length + 10 < k) (hs : s < 4294967296) : tally_More.f k (s : Int) q = some ((crcV (crcF (crcV s) q) : Nat) : Int) := by
  unfold tally_More.f
  rw [crcV_bits s hs]
  exact more_loop q hq hl q.length 0 _ k (by omega) hk (crcV_lt s hs)
theorem sum_is (k : Nat) (q : List Int) (hq : isBytes q) (hl : q.length < 1000000) (hk : q.length + 10 < k) : tally_Sum.f k q = some ((crcV (crcF crcM q) : Nat) : Int) := by
  unfold tally_Sum.f
  have h := more_is k 0 q hq hl hk (by omega)
  have e : crcV 0 = crcM := by unfold crcV; rw [Nat.xor_zero]
  rw [e] at h
  rw [show (0 : Int) = ((0 : Nat) : Int) from rfl, h, Option.bind_some]
theorem wr32 (n : Int) : IntKind.u32.wrap n = n % 4294967296 := by
  simp [IntKind.wrap, IntKind.signed, IntKind.bits]
theorem crcV_sub (x : Nat) (h : x < 4294967296) : ((crcV x : Nat) : Int) = 4294967295 - (x : Int) := by
  rw [← crcV_bits x h]
  show IntKind.u32.wrap ((BitVec.ofInt 32 4294967295 ^^^ BitVec.ofInt 32 (x : Int)).toNat : Int) = _
  have e : BitVec.ofInt 32 4294967295 = BitVec.allOnes 32 := by decide
  have e2 : (BitVec.ofInt 32 (x : Int)).toNat = x := by
    rw [BitVec.toNat_ofInt]
    omega
  rw [e, BitVec.xor_comm, BitVec.xor_allOnes, BitVec.toNat_not, e2, wr32]
  omega
theorem bit_split (c : Nat) : c = c % 2 ^^^ 2 * (c / 2) := by
  apply Nat.eq_of_testBit_eq
  intro i
  rw [Nat.testBit_xor]
  cases i with
  | zero => simp [Nat.testBit_zero]
  | succ i =>
    have h1 : (c % 2).testBit (i + 1) = false := by
      rw [Nat.testBit_succ, show c % 2 / 2 = 0 by omega, Nat.zero_testBit]
    rw [h1, Nat.testBit_succ, Nat.testBit_succ, show 2 * (c / 2) / 2 = c / 2 by omega]
    simp
theorem crcS_feed (r c : Nat) : crcS (r ^^^ c) = crcS (r ^^^ c % 2) ^^^ c / 2 := by
  have h : r ^^^ c = r ^^^ c % 2 ^^^ 2 * (c / 2) := by
    rw [Nat.xor_assoc, ← bit_split]
  rw [h, crcS_xor, crcS_two]
theorem crcS_bit (r o : Nat) (ho : o < 2) : crcS (r ^^^ o) = if r % 2 = o then r / 2 else r / 2 ^^^ crcP := by
  have hm : (r ^^^ o) % 2 = (r + o) % 2 := by
    have h : (r ^^^ o) % 2 ^ 1 = (r % 2 ^ 1) ^^^ (o % 2 ^ 1) := Nat.xor_mod_two_pow
    rw [Nat.pow_one] at h
    rw [h, Nat.add_mod]
    rcases Nat.mod_two_eq_zero_or_one r with a | a <;> rcases Nat.mod_two_eq_zero_or_one o with b | b <;> rw [a, b] <;> rfl
  have hd : (r ^^^ o) / 2 = r / 2 := by
    have : (r ^^^ o) / 2 = r / 2 ^^^ o / 2 := Nat.xor_div_two
    rw [this, show o / 2 = 0 by omega, Nat.xor_zero]
  unfold crcS
  rw [hm, hd]
  by_cases h : r % 2 = o
  · rw [if_neg (by omega), if_pos h]
  · rw [if_pos (by omega), if_neg h]
theorem shr8 (b j : Nat) (hj : j ≤ 8) : (shr .u8 (b : Int) (j : Int)) % 2 = ((b / 2 ^ j % 2 : Nat) : Int) := by
  unfold shr
  have e : min ((j : Nat) : Int).toNat IntKind.u8.bits = j := by
    have : IntKind.u8.bits = 8 := rfl
    omega
  rw [e, show ((2 : Int) ^ j) = ((2 ^ j : Nat) : Int) by simp]
  omega
theorem ref_bits (q : List Int) (hl : q.length < 1000000) (i b : Nat) (hi : i < q.length) (hb : rd q i = (b : Int)) (hbn : b < 256) (n : Nat) : ∀ (j r k : Nat), j + n = 8 → r < 4294967296 →
    milestoneref01_Sum.l0 (k + n) q (r : Int) ((8 * i + j : Nat) : Int) = milestoneref01_Sum.l0 k q ((crcI n (r ^^^ b / 2 ^ j) : Nat) : Int) ((8 * (i + 1) : Nat) : Int) := by
  induction n with
  | zero =>
    intro j r k hj hr
    have e : j = 8 := by omega
    subst e
    rw [show b / 2 ^ 8 = 0 from Nat.div_eq_of_lt hbn, Nat.xor_zero]
    rfl
  | succ n ih =>
    intro j r k hj hr
    have t1 : ((8 * i + j : Nat) : Int) < ((8 * q.length : Nat) : Int) := by omega
    have t2 : (i : Int) < (q.length : Int) := by omega
    have t3 : (0 : Int) ≤ (i : Int) := by omega
    have t4 : (0 : Int) ≤ (j : Int) := by omega
    have t5 : j + 1 + n = 8 := by omega
    have t6 : r / 2 < 4294967296 := by omega
    have t9 : j ≤ 8 := by omega
    have w1 : wrap64 (8 * (q.length : Int)) = ((8 * q.length : Nat) : Int) := by unfold wrap64; omega
    have w2 : wrap64 (Int.tdiv ((8 * i + j : Nat) : Int) 8) = (i : Int) := by
      rw [Int.tdiv_eq_ediv_of_nonneg (by omega)]
      unfold wrap64
      omega
    have w3 : Int.tmod ((8 * i + j : Nat) : Int) 8 = (j : Int) := by
      rw [Int.tmod_eq_emod_of_nonneg (by omega)]
      omega
    have w4 : wrap64 (((8 * i + j : Nat) : Int) + 1) = ((8 * i + (j + 1) : Nat) : Int) := by unfold wrap64; omega
    have w5 : Int.tmod (r : Int) 2 = ((r % 2 : Nat) : Int) := by
      rw [Int.tmod_eq_emod_of_nonneg (by omega)]
      omega
    have w6 : (Int.tdiv (r : Int) 2) % 4294967296 = ((r / 2 : Nat) : Int) := by
      rw [Int.tdiv_eq_ediv_of_nonneg (by omega)]
      omega
    have w7 := shr8 b j t9
    have t7 : b / 2 ^ j % 2 < 2 := Nat.mod_lt _ Nat.two_pos
    have t8 : b / 2 ^ j % 2 < 2 ^ 32 := Nat.lt_trans t7 (by decide)
    have w8 : Go.bits .xor .u32 ((r / 2 : Nat) : Int) 2197175160 = ((r / 2 ^^^ crcP : Nat) : Int) := u32_xor_nat (r / 2) 2197175160 t6 (by decide)
    have hs := crcS_lt (r ^^^ b / 2 ^ j % 2) (Nat.xor_lt_two_pow (n := 32) hr t8)
    have hf := crcS_feed r (b / 2 ^ j)
    have hd : b / 2 ^ j / 2 = b / 2 ^ (j + 1) := by rw [Nat.div_div_eq_div_mul, Nat.pow_succ]
    have hc := crcS_bit r (b / 2 ^ j % 2) t7
    have key := ih (j + 1) (crcS (r ^^^ b / 2 ^ j % 2)) k t5 hs
    rw [crcI, hf, hd, ← key, ← Nat.add_assoc, milestoneref01_Sum.l0, w1, if_pos t1, w2, if_pos t3, if_pos t2, w3, if_pos t4, hb, w7, w5, w6, w8, w4]
    by_cases h : r % 2 = b / 2 ^ j % 2
    · rw [if_pos (by rw [h]), hc, if_pos h]
    · have h2 : ¬ ((r % 2 : Nat) : Int) = ((b / 2 ^ j % 2 : Nat) : Int) := fun e => h (Int.natCast_inj.1 e)
      rw [if_neg h2, hc, if_neg h]
theorem ref_loop (q : List Int) (hq : isBytes q) (hl : q.length < 1000000) (d : Nat) : ∀ (i r k : Nat), i + d = q.length → r < 4294967296 →
    milestoneref01_Sum.l0 (k + 1 + 8 * d) q (r : Int) ((8 * i : Nat) : Int) = some ((crcV (crcF r (q.drop i)) : Nat) : Int) := by
  induction d with
  | zero =>
    intro i r k hi hr
    have w1 : wrap64 (8 * (q.length : Int)) = ((8 * q.length : Nat) : Int) := by unfold wrap64; omega
    have hv := crcV_sub r hr
    rw [milestoneref01_Sum.l0, w1, if_neg (by omega), List.drop_eq_nil_of_le (by omega), crcF_nil, hv]
    refine congrArg some ?_
    omega
  | succ d ih =>
    intro i r k hi hr
    have hb := rd_byte q hq i (by omega)
    obtain ⟨b, hbe⟩ := Int.eq_ofNat_of_zero_le hb.1
    have hbn : b < 256 := by omega
    have h1 := ref_bits q hl i b (by omega) hbe hbn 8 0 r (k + 1 + 8 * d) rfl hr
    have hn : crcI 8 (r ^^^ b) < 4294967296 := crcI_lt 8 _ (Nat.xor_lt_two_pow (n := 32) hr (by omega))
    have key := ih (i + 1) (crcI 8 (r ^^^ b)) k (by omega) hn
    rw [Nat.pow_zero, Nat.div_one, show 8 * i + 0 = 8 * i from rfl] at h1
    rw [show k + 1 + 8 * (d + 1) = k + 1 + 8 * d + 8 by omega, h1, key, rd_drop q i (by omega), hbe, crcF_cons, Int.toNat_natCast, crcB]
theorem refsum_is (k : Nat) (q : List Int) (hq : isBytes q) (hl : q.length < 1000000) : milestoneref01_Sum.f (k + 1 + 8 * q.length) q = some ((crcV (crcF crcM q) : Nat) : Int) := by
  unfold milestoneref01_Sum.f
  exact ref_loop q hq hl q.length 0 crcM k (by omega) crcM_lt
def t4 (s : Nat) : List Int := [((s % 256 : Nat) : Int), ((s / 256 % 256 : Nat) : Int), ((s / 65536 % 256 : Nat) : Int), ((s / 16777216 % 256 : Nat) : Int)]
def sumN (q : List Int) : Nat := crcV (crcF crcM q)
theorem sumN_lt (q : List Int) (hq : isBytes q) : sumN q < 4294967296 := crcV_lt _ (crcF_lt q crcM hq crcM_lt)
theorem t4_length (s : Nat) : (t4 s).length = 4 := rfl
theorem isBytes_append {p q : List Int} (hp : isBytes p) (hq : isBytes q) : isBytes (p ++ q) := fun x hx => (List.mem_append.1 hx).elim (hp x) (hq x)
theorem isBytes_one {b : Int} (h : 0 ≤ b ∧ b < 256) : isBytes [b] := fun x hx => by rw [List.mem_singleton.1 hx]; exact h
theorem cb_length (s n : Nat) (h : Takes s n) : (cb s n).length = s := by
  unfold cb
  rw [List.length_cons, tl_length]
  have := h.1
  omega
theorem tail_is (K : Nat) (q : List Int) (hq : isBytes q) (hl : q.length < 100000) (hK : 8 * q.length + 1 < K) : milestoneref01_Tail.f K q = some (t4 (sumN q)) := by
  obtain ⟨k, rfl⟩ : ∃ k, K = k + 1 + 8 * q.length := ⟨K - 1 - 8 * q.length, by omega⟩
  have hs := refsum_is k q hq (by omega)
  have hlt := sumN_lt q hq
  unfold milestoneref01_Tail.f
  rw [hs, Option.bind_some]
  refine congrArg some ?_
  show [_, _, _, _] = t4 (sumN q)
  unfold t4
  rw [show crcV (crcF crcM q) = sumN q from rfl]
  generalize sumN q = s at hlt ⊢
  have e1 : (Int.tmod (s : Int) 256) % 256 = ((s % 256 : Nat) : Int) := by rw [Int.tmod_eq_emod_of_nonneg (Int.natCast_nonneg _)]; omega
  have e2 : (Int.tdiv (s : Int) 256) % 256 = ((s / 256 % 256 : Nat) : Int) := by rw [Int.tdiv_eq_ediv_of_nonneg (Int.natCast_nonneg _)]; omega
  have e3 : (Int.tdiv (s : Int) 65536) % 256 = ((s / 65536 % 256 : Nat) : Int) := by rw [Int.tdiv_eq_ediv_of_nonneg (Int.natCast_nonneg _)]; omega
  have e4 : (Int.tdiv (s : Int) 16777216) % 256 = ((s / 16777216 % 256 : Nat) : Int) := by rw [Int.tdiv_eq_ediv_of_nonneg (Int.natCast_nonneg _)]; omega
  rw [e1, e2, e3, e4]
/-- how many bits are left behind the first n -/
def lo (n : Nat) : Nat := 2 ^ (32 - n)
theorem lo_pos (n : Nat) : 0 < lo n := Nat.two_pow_pos _
theorem lo_step (n : Nat) (h : n < 32) : lo n = lo (n + 1) * 2 := by
  unfold lo
  rw [show 32 - n = (32 - (n + 1)) + 1 by omega, Nat.pow_succ]
theorem lo_0 : lo 0 = 4294967296 := by decide
/-- the first n bits -/
def hi (a n : Nat) : Nat := a / lo n
def ofN (a n : Nat) : Nat := hi a n * lo n
def bitN (a i : Nat) : Bool := decide (a / 2 ^ (31 - i) % 2 = 1)
theorem hi_step (a n : Nat) (h : n < 32) : hi a (n + 1) = 2 * hi a n + (if bitN a n = true then 1 else 0) := by
  unfold hi bitN
  have e : lo (n + 1) = 2 ^ (31 - n) := by unfold lo; rw [show 32 - (n + 1) = 31 - n by omega]
  rw [lo_step n h, e, ← Nat.div_div_eq_div_mul]
  generalize a / 2 ^ (31 - n) = z
  by_cases hz : z % 2 = 1
  · rw [decide_eq_true hz, if_pos rfl]; omega
  · rw [decide_eq_false hz, if_neg (by decide)]; omega
theorem hi_0 (a : Nat) (h : a < 4294967296) : hi a 0 = 0 := by
  unfold hi
  rw [lo_0]
  omega
theorem hi_lt (a n : Nat) (h : a < 4294967296) (hn : n ≤ 32) : hi a n < 2 ^ n := by
  unfold hi lo
  rw [Nat.div_lt_iff_lt_mul (Nat.two_pow_pos _), ← Nat.pow_add, show n + (32 - n) = 32 by omega]
  omega
theorem ofN_eq (a n : Nat) : ofN a n = a - a % lo n := by
  unfold ofN hi
  have := Nat.div_add_mod a (lo n)
  rw [Nat.mul_comm] at this
  omega
theorem ofN_le (a n : Nat) : ofN a n ≤ a := by rw [ofN_eq]; omega
def maskN (n : Nat) : Nat := if n = 0 ∨ 32 < n then 0 else 4294967296 - lo n
theorem mask_is (n : Nat) (h : n < 256) : prefix_mask.f (n : Int) = some ((maskN n : Nat) : Int) := by
  have : ∀ n, n < 256 → prefix_mask.f ((n : Nat) : Int) = some ((maskN n : Nat) : Int) := by decide +kernel
  exact this n h
theorem maskN_lt (n : Nat) : maskN n < 4294967296 := by
  unfold maskN
  have := lo_pos n
  split <;> omega
theorem not_mask (n : Nat) (hn : n ≤ 32) : 4294967295 - maskN n = 2 ^ (32 - n) - 1 := by
  unfold maskN lo
  have hp : 0 < 2 ^ (32 - n) := Nat.two_pow_pos _
  have hle : 2 ^ (32 - n) ≤ 4294967296 := Nat.pow_le_pow_right (n := 2) (by omega) (show 32 - n ≤ 32 by omega)
  by_cases h0 : n = 0
  · subst h0; rfl
  · rw [if_neg (by omega)]
    omega
theorem bits_not (a n : Nat) (ha : a < 4294967296) (hn : n ≤ 32) : Go.bits .andNot .u32 (a : Int) ((maskN n : Nat) : Int) = ((a % lo n : Nat) : Int) := by
  rw [u32_andNot_nat a _ ha (maskN_lt n), not_mask n hn, Nat.and_two_pow_sub_one_eq_mod]
  rfl
theorem rbit_loop (d : Nat) : ∀ (k x i : Nat), i + d = 31 → x < 4294967296 → d < k → milestoneref01_Bit.l0 k (x : Int) (i : Int) = some (decide (x / 2 ^ d % 2 = 1)) := by
  induction d with
  | zero =>
    intro k x i hi hx hk
    obtain ⟨k, rfl⟩ : ∃ m, k = m + 1 := ⟨k - 1, by omega⟩
    rw [milestoneref01_Bit.l0, if_neg (by omega), Int.tmod_eq_emod_of_nonneg (Int.natCast_nonneg _), Nat.pow_zero, Nat.div_one]
    refine congrArg some ?_
    by_cases h : x % 2 = 1
    · rw [decide_eq_true h]
      exact beq_iff_eq.2 (by omega)
    · rw [decide_eq_false h]
      exact beq_eq_false_iff_ne.2 (by omega)
  | succ d ih =>
    intro k x i hi hx hk
    obtain ⟨k, rfl⟩ : ∃ m, k = m + 1 := ⟨k - 1, by omega⟩
    have e1 : Aside0 (wrap64 ((i : Int) + 1) = ((i + 1 : Nat) : Int)) := ⟨by unfold wrap64; omega⟩
    have e2 : Aside0 ((Int.tdiv (x : Int) 2) % 4294967296 = ((x / 2 : Nat) : Int)) := ⟨by rw [Int.tdiv_eq_ediv_of_nonneg (Int.natCast_nonneg _)]; omega⟩
    have key := ih k (x / 2) (i + 1) (by omega) (by omega) (by omega)
    rw [milestoneref01_Bit.l0, if_pos (by omega), e1.out, e2.out, key, Nat.div_div_eq_div_mul, Nat.pow_succ, Nat.mul_comm 2]
theorem rbit_is (k a i : Nat) (ha : a < 4294967296) (hi : i < 32) (hk : 32 < k) : milestoneref01_Bit.f k (a : Int) (i : Int) = some (bitN a i) := by
  unfold milestoneref01_Bit.f
  exact rbit_loop (31 - i) k a i (by omega) ha (by omega)
theorem rof_loop (a n : Nat) (ha : a < 4294967296) (hn : n ≤ 32) (d : Nat) : ∀ (k i : Nat), i + d = 32 → 40 + d < k →
    milestoneref01_Of.l0 k (a : Int) (n : Int) ((hi a (min i n) * 2 ^ (i - n) : Nat) : Int) (i : Int) = some (((ofN a n : Nat) : Int), (n : Int)) := by
  induction d with
  | zero =>
    intro k i hi' hk
    obtain ⟨k, rfl⟩ : ∃ m, k = m + 1 := ⟨k - 1, by omega⟩
    have e : i = 32 := by omega
    subst e
    rw [milestoneref01_Of.l0, if_neg (by omega), Nat.min_eq_right hn]
    rfl
  | succ d ih =>
    intro k i hi' hk
    obtain ⟨k, rfl⟩ : ∃ m, k = m + 1 := ⟨k - 1, by omega⟩
    have e1 : Aside0 (wrap64 ((i : Int) + 1) = ((i + 1 : Nat) : Int)) := ⟨by unfold wrap64; omega⟩
    have e2 : Aside0 (wrap64 (n : Int) = (n : Int)) := ⟨by unfold wrap64; omega⟩
    have key := ih k (i + 1) (by omega) (by omega)
    have ht : (i : Int) < 32 := by omega
    rw [milestoneref01_Of.l0, if_pos ht, e1.out, e2.out]
    by_cases hlt : i < n
    · have hs := hi_step a i (by omega)
      have hl := hi_lt a (i + 1) ha (by omega)
      have hp : 2 ^ (i + 1) ≤ 4294967296 := Nat.pow_le_pow_right (n := 2) (by omega) (show i + 1 ≤ 32 by omega)
      rw [Nat.min_eq_left (by omega), show i + 1 - n = 0 by omega, Nat.pow_zero, Nat.mul_one] at key
      have ht2 : (i : Int) < (n : Int) := by omega
      rw [if_pos ht2, rbit_is k a i ha (by omega) (by omega), Option.bind_some, Nat.min_eq_left (by omega), show i - n = 0 by omega, Nat.pow_zero, Nat.mul_one]
      by_cases hb : bitN a i = true
      · rw [if_pos hb] at hs
        have e3 : (((hi a i : Nat) : Int) * 2 + 1) % 4294967296 = ((hi a (i + 1) : Nat) : Int) := by omega
        rw [if_pos hb, e3]
        exact key
      · rw [if_neg hb] at hs
        have e3 : (((hi a i : Nat) : Int) * 2) % 4294967296 = ((hi a (i + 1) : Nat) : Int) := by omega
        rw [if_neg hb, e3]
        exact key
    · have ht2 : ¬ (i : Int) < (n : Int) := by omega
      have hl := hi_lt a n ha hn
      have hq : hi a n * 2 ^ (i - n) * 2 < 4294967296 := by
        have h1 : hi a n * 2 ^ (i - n) * 2 = hi a n * 2 ^ (i + 1 - n) := by rw [show i + 1 - n = i - n + 1 by omega, Nat.pow_succ, Nat.mul_assoc]
        have h2 : hi a n * 2 ^ (i + 1 - n) < 2 ^ n * 2 ^ (i + 1 - n) := Nat.mul_lt_mul_of_pos_right hl (Nat.two_pow_pos _)
        have h3 : 2 ^ n * 2 ^ (i + 1 - n) ≤ 2 ^ 32 := by
          rw [← Nat.pow_add]
          exact Nat.pow_le_pow_right (by omega) (by omega)
        rw [h1]
        exact Nat.lt_of_lt_of_le h2 h3
      have h1 : hi a n * 2 ^ (i + 1 - n) = hi a n * 2 ^ (i - n) * 2 := by rw [show i + 1 - n = i - n + 1 by omega, Nat.pow_succ, Nat.mul_assoc]
      rw [Nat.min_eq_right (by omega), h1] at key
      rw [if_neg ht2, Nat.min_eq_right (by omega)]
      generalize hi a n * 2 ^ (i - n) = z at key hq ⊢
      have e3 : ((z : Int) * 2) % 4294967296 = ((z * 2 : Nat) : Int) := by omega
      rw [e3]
      exact key
theorem rof_is (k a n : Nat) (ha : a < 4294967296) (hn : n < 256) (hk : 80 < k) : milestoneref01_Of.f k (a : Int) (n : Int) = some (((ofN a (min n 32) : Nat) : Int), ((min n 32 : Nat) : Int)) := by
  obtain ⟨k, rfl⟩ : ∃ m, k = m + 1 := ⟨k - 1, by omega⟩
  have key := rof_loop a (min n 32) ha (by omega) 32 k 0 (by omega) (by omega)
  rw [Nat.zero_min, hi_0 a ha, Nat.zero_mul] at key
  unfold milestoneref01_Of.f
  by_cases h : n > 32
  · rw [Nat.min_eq_right (by omega)] at key ⊢
    rw [if_pos (by omega), milestoneref01_Of.j0]
    exact key
  · rw [Nat.min_eq_left (by omega)] at key ⊢
    rw [if_neg (by omega), milestoneref01_Of.j0]
    exact key
theorem right_is (a n : Nat) (ha : a < 4294967296) (hn : n < 256) : prefix_Right.f (a : Int) (n : Int) = some (decide (n ≤ 32 ∧ a % lo n = 0)) := by
  unfold prefix_Right.f
  by_cases h : n ≤ 32
  · rw [if_pos (by omega), mask_is n hn, Option.bind_some, bits_not a n ha h]
    refine congrArg some ?_
    by_cases h2 : a % lo n = 0
    · rw [decide_eq_true ⟨h, h2⟩]
      exact beq_iff_eq.2 (by omega)
    · rw [decide_eq_false (fun q => h2 q.2)]
      exact beq_eq_false_iff_ne.2 (by omega)
  · rw [if_neg (by omega), decide_eq_false (fun q => h q.1)]
/-- of any bytes: the number ahead, or none -/
theorem get_any (k : Nat) (b : List Int) (hb : isBytes b) (hl : b.length < 1000000) :
    (∃ (s n : Nat) (rest : List Int), Takes s n ∧ n < 18446744073709551616 ∧ b = cb s n ++ rest ∧ coin_Get.f (k + 25) b = some ((n : Int), (s : Int), 0)) ∨
    (∃ e : Int, (e = 4 ∨ e = 5) ∧ coin_Get.f (k + 25) b = some (0, 0, e)) := by
  match b, hb, hl with
  | [], _, _ =>
    refine .inr ⟨5, .inr rfl, ?_⟩
    unfold coin_Get.f
    rw [if_pos (by simp)]
  | x :: q, hb, hl =>
    have hx := hb x List.mem_cons_self
    have hq : isBytes q := fun z hz => hb z (List.mem_cons_of_mem _ hz)
    obtain ⟨c, rfl⟩ := Int.eq_ofNat_of_zero_le hx.1
    have hl' : q.length < 1000000 := by simp at hl; omega
    obtain ⟨K, h, h1, h9, hk9, hk8, hcase⟩ := get_is k c q (by omega) hq (by omega)
    rcases hcase with ⟨hs, hg⟩ | ⟨hle, s, hT, hg⟩
    · exact .inr ⟨5, .inr rfl, hg⟩
    · by_cases hsK : s = K
      · subst hsK
        rw [if_pos rfl] at hg
        have hql : (q.take (s - 1)).length = s - 1 := by rw [List.length_take]; omega
        have hqb : isBytes (q.take (s - 1)) := fun z hz => hq z (List.mem_of_mem_take hz)
        have htl := tl_foldv (q.take (s - 1)) h hqb
        rw [hql] at htl
        refine .inl ⟨s, foldv h (q.take (s - 1)), q.drop (s - 1), hT, ?_, ?_, hg⟩
        · by_cases hs9 : s = 9
          · obtain ⟨_, h0⟩ := hk9 hs9
            have := foldv_lt (q.take (s - 1)) h 1 hqb (by omega)
            rw [hql, hs9] at this
            subst hs9
            omega
          · obtain ⟨hh, _⟩ := hk8 (by omega)
            have := foldv_lt (q.take (s - 1)) h (2 ^ (8 - s)) hqb hh
            rw [hql] at this
            have e : 2 ^ (8 - s) * 256 ^ (s - 1) ≤ 2 ^ 64 := by
              rw [show (256 : Nat) = 2 ^ 8 from rfl, ← Nat.pow_mul, ← Nat.pow_add]
              exact Nat.pow_le_pow_right (by omega) (by omega)
            exact Nat.lt_of_lt_of_le this e
        · unfold cb
          rw [htl.1, List.cons_append, List.take_append_drop]
          refine congrArg (fun z => z :: q) ?_
          unfold hd1
          by_cases hs9 : s = 9
          · rw [if_pos hs9, (hk9 hs9).1]; rfl
          · rw [if_neg hs9, htl.2, ← (hk8 (by omega)).2]
      · rw [if_neg hsK] at hg
        exact .inr ⟨4, .inl rfl, hg⟩
def szN (n : Nat) : Nat := if n < 128 then 1 else if n < 16384 then 2 else if n < 2097152 then 3 else if n < 268435456 then 4 else if n < 34359738368 then 5 else if n < 4398046511104 then 6 else if n < 562949953421312 then 7 else if n < 72057594037927936 then 8 else 9
theorem szN_bd (n : Nat) : 1 ≤ szN n ∧ szN n ≤ 9 := by
  unfold szN
  repeat' split
  all_goals omega
theorem takes_sz (n : Nat) : Takes (szN n) n := by
  refine ⟨(szN_bd n).1, (szN_bd n).2, ?_⟩
  intro i h1 h8
  have hi : i = 1 ∨ i = 2 ∨ i = 3 ∨ i = 4 ∨ i = 5 ∨ i = 6 ∨ i = 7 ∨ i = 8 := by omega
  have p1 : (2 : Nat) ^ (7 * 1) = 128 := rfl
  have p2 : (2 : Nat) ^ (7 * 2) = 16384 := rfl
  have p3 : (2 : Nat) ^ (7 * 3) = 2097152 := rfl
  have p4 : (2 : Nat) ^ (7 * 4) = 268435456 := rfl
  have p5 : (2 : Nat) ^ (7 * 5) = 34359738368 := rfl
  have p6 : (2 : Nat) ^ (7 * 6) = 4398046511104 := rfl
  have p7 : (2 : Nat) ^ (7 * 7) = 562949953421312 := rfl
  have p8 : (2 : Nat) ^ (7 * 8) = 72057594037927936 := rfl
  unfold szN
  rcases hi with rfl | rfl | rfl | rfl | rfl | rfl | rfl | rfl
  · rw [p1]; repeat' split
    all_goals omega
  · rw [p2]; repeat' split
    all_goals omega
  · rw [p3]; repeat' split
    all_goals omega
  · rw [p4]; repeat' split
    all_goals omega
  · rw [p5]; repeat' split
    all_goals omega
  · rw [p6]; repeat' split
    all_goals omega
  · rw [p7]; repeat' split
    all_goals omega
  · rw [p8]; repeat' split
    all_goals omega
/-- a number's bytes -/
def C (n : Nat) : List Int := cb (szN n) n
theorem C_len (n : Nat) : (C n).length = szN n := by
  have := (szN_bd n).1
  rw [C, cb, List.length_cons, tl_length]
  omega
theorem C_le (n : Nat) : 1 ≤ (C n).length ∧ (C n).length ≤ 9 := by rw [C_len]; exact szN_bd n
theorem C_bytes (n : Nat) : isBytes (C n) := cb_bytes _ _ (takes_sz n)
theorem put_C (K n : Nat) (hK : 11 ≤ K) (hn : n < 18446744073709551616) (p : List Int) (hp : p.length + 9 < 140737488355328) : coin_Put.f K p (n : Int) = some (p ++ C n) := by
  obtain ⟨k, rfl⟩ : ∃ k, K = k + 11 := ⟨K - 11, by omega⟩
  obtain ⟨s, hs, _, hput⟩ := put_is k n hn
  rw [hput p hp, C, takes_one s (szN n) n hs (takes_sz n)]
theorem coin_C (K n : Nat) (hK : 90 ≤ K) (hn : n < 18446744073709551616) : milestoneref01_Coin.f K (n : Int) = some (C n) := by
  obtain ⟨k, rfl⟩ : ∃ k, K = k + 90 := ⟨K - 90, by omega⟩
  exact coin_is k (szN n) n (takes_sz n) hn
theorem u64n (n : Nat) (h : n < 18446744073709551616) : IntKind.u64.wrap (n : Int) = (n : Int) := by rw [wr64]; omega
/-- a part that may be read out of memory -/
def okP (x : S28) : Prop := (0 ≤ x.f0 ∧ x.f0 < 256) ∧ (0 ≤ x.f1 ∧ x.f1 < 18446744073709551616) ∧ (-9223372036854775808 ≤ x.f2 ∧ x.f2 < 9223372036854775808) ∧ (0 ≤ x.f3.f0 ∧ x.f3.f0 < 4294967296) ∧ (0 ≤ x.f3.f1 ∧ x.f3.f1 < 256) ∧ (0 ≤ x.f4 ∧ x.f4 < 65536) ∧ (0 ≤ x.f5 ∧ x.f5 < 65536)
def rP (a n : Int) : Bool := decide (n.toNat ≤ 32 ∧ a.toNat % lo n.toNat = 0)
def nodeB (n : Int) : Bool := decide (0 ≤ n) && decide (n < 16)
def rightB (x : S28) : Bool :=
  if x.f0 = 1 then decide (x.f1 ≤ 4294967295) && (x.f2 == 0 && ((x.f3.f0 == 0 && (x.f3.f1 == 0)) && (x.f4 == 0 && (x.f5 == 0))))
  else if x.f0 = 2 then nodeB x.f2 && (x.f1 == 0 && ((x.f3.f0 == 0 && (x.f3.f1 == 0)) && (x.f4 == 0)))
  else if x.f0 = 3 then nodeB x.f2 && (rP x.f3.f0 x.f3.f1 && (x.f1 == 0))
  else if x.f0 = 4 then rP x.f3.f0 x.f3.f1 && (decide (x.f1 ≤ 64) && (x.f2 == 0 && (x.f5 == 0)))
  else false
theorem node_is (n : Int) : message_node.f n = some (nodeB n) := by
  unfold message_node.f nodeB
  by_cases h : n ≥ 0
  · rw [if_pos h]; simp [show (0 : Int) ≤ n from h]
  · rw [if_neg h]; simp [show ¬ (0 : Int) ≤ n from h]
theorem rP_is (a n : Int) (ha : 0 ≤ a ∧ a < 4294967296) (hn : 0 ≤ n ∧ n < 256) : prefix_Right.f a n = some (rP a n) := by
  have := right_is a.toNat n.toNat (by omega) (by omega)
  rwa [show ((a.toNat : Nat) : Int) = a by omega, show ((n.toNat : Nat) : Int) = n by omega] at this
theorem right_msg (x : S28) (h : okP x) : message_Right.f x.f0 x.f1 x.f2 x.f3.f0 x.f3.f1 x.f4 x.f5 = some (rightB x) := by
  obtain ⟨h0, h1, h2, h3, h4, h5, h6⟩ := h
  unfold message_Right.f rightB
  by_cases c1 : x.f0 = 1
  · rw [if_pos c1, if_pos c1]
    by_cases d : x.f1 ≤ 4294967295
    · rw [if_pos d]; simp [c1, d]
    · rw [if_neg d]; simp [d]
  · rw [if_neg c1, if_neg c1]
    by_cases c2 : x.f0 = 2
    · rw [if_pos c2, if_pos c2, node_is, Option.bind_some]
      by_cases d : nodeB x.f2 = true
      · rw [if_pos d]; simp [c2, d]
      · rw [if_neg d]; simp [d]
    · rw [if_neg c2, if_neg c2]
      by_cases c3 : x.f0 = 3
      · rw [if_pos c3, if_pos c3, node_is, Option.bind_some]
        by_cases d : nodeB x.f2 = true
        · rw [if_pos d, rP_is _ _ h3 h4, Option.bind_some]
          by_cases e : rP x.f3.f0 x.f3.f1 = true
          · rw [if_pos e]; simp [d, e]
          · rw [if_neg e]; simp [e]
        · rw [if_neg d]; simp [d]
      · rw [if_neg c3, if_neg c3]
        by_cases c4 : x.f0 = 4
        · rw [if_pos c4, if_pos c4, rP_is _ _ h3 h4, Option.bind_some]
          by_cases e : rP x.f3.f0 x.f3.f1 = true
          · rw [if_pos e]
            by_cases d : x.f1 ≤ 64
            · rw [if_pos d]
              by_cases f : x.f2 = 0
              · rw [if_pos f]; simp [d, e, f]
              · rw [if_neg f]; simp [f]
            · rw [if_neg d]; simp [d]
          · rw [if_neg e]; simp [e]
        · rw [if_neg c4, if_neg c4]
/-- a part's bytes, without its kind and length -/
def bodyB (x : S28) : List Int :=
  if x.f0 = 1 then C x.f1.toNat
  else if x.f0 = 2 then C x.f2.toNat ++ C x.f5.toNat
  else if x.f0 = 3 then C x.f2.toNat ++ C x.f3.f0.toNat ++ C x.f3.f1.toNat ++ C x.f4.toNat ++ C x.f5.toNat
  else C x.f3.f0.toNat ++ C x.f3.f1.toNat ++ C x.f4.toNat ++ C x.f1.toNat
theorem bodyB_le (x : S28) : (bodyB x).length ≤ 45 := by
  have h1 := (C_le x.f1.toNat).2
  have h2 := (C_le x.f2.toNat).2
  have h3 := (C_le x.f3.f0.toNat).2
  have h4 := (C_le x.f3.f1.toNat).2
  have h5 := (C_le x.f4.toNat).2
  have h6 := (C_le x.f5.toNat).2
  unfold bodyB
  repeat' split
  all_goals (try simp only [List.length_append])
  all_goals omega
theorem bodyB_bytes (x : S28) : isBytes (bodyB x) := by
  unfold bodyB
  repeat' split
  all_goals repeat' first | exact C_bytes _ | apply isBytes_append
theorem put_i (K : Nat) (a : Int) (hK : 11 ≤ K) (ha : 0 ≤ a ∧ a < 18446744073709551616) (p : List Int) (hp : p.length < 1000000000) : coin_Put.f K p a = some (p ++ C a.toNat) := by
  have := put_C K a.toNat hK (by omega) p (by omega)
  rwa [show ((a.toNat : Nat) : Int) = a by omega] at this
theorem put_u (K : Nat) (a : Int) (hK : 11 ≤ K) (ha : 0 ≤ a ∧ a < 18446744073709551616) (p : List Int) (hp : p.length < 1000000000) : coin_Put.f K p (IntKind.u64.wrap a) = some (p ++ C a.toNat) := by
  rw [show IntKind.u64.wrap a = a by rw [wr64]; omega]
  exact put_i K a hK ha p hp
theorem place_is (K : Nat) (hK : 11 ≤ K) (p : List Int) (hp : p.length < 1000) (a b c : Int) (ha : 0 ≤ a ∧ a < 4294967296) (hb : 0 ≤ b ∧ b < 256) (hc : 0 ≤ c ∧ c < 65536) : message_body.place K p a b c = some (p ++ C a.toNat ++ C b.toNat ++ C c.toNat) := by
  have l1 := (C_le a.toNat).2
  have l2 := (C_le b.toNat).2
  unfold message_body.place
  rw [put_u K a hK (by omega) p (by omega), Option.bind_some, put_u K b hK (by omega) _ (by rw [List.length_append]; omega), Option.bind_some, put_u K c hK (by omega) _ (by rw [List.length_append, List.length_append]; omega)]
theorem body_is (K : Nat) (hK : 11 ≤ K) (x : S28) (h : okP x) (hr : rightB x = true) : message_body.f K x.f0 x.f1 x.f2 x.f3.f0 x.f3.f1 x.f4 x.f5 = some (bodyB x) := by
  obtain ⟨h0, h1, h2, h3, h4, h5, h6⟩ := h
  have l2 := (C_le x.f2.toNat).2
  have l3 := (C_le x.f3.f0.toNat).2
  have l4 := (C_le x.f3.f1.toNat).2
  have l5 := (C_le x.f4.toNat).2
  unfold rightB at hr
  unfold message_body.f bodyB
  by_cases c1 : x.f0 = 1
  · rw [if_pos c1, if_pos c1, put_i K x.f1 hK h1 [] (by simp), List.nil_append]
  · rw [if_neg c1] at hr
    rw [if_neg c1, if_neg c1]
    by_cases c2 : x.f0 = 2
    · rw [if_pos c2] at hr
      have hn : 0 ≤ x.f2 := by
        unfold nodeB at hr
        simp only [Bool.and_eq_true, decide_eq_true_eq] at hr
        exact hr.1.1
      rw [if_pos c2, if_pos c2, put_u K x.f2 hK (by omega) [] (by simp), Option.bind_some, List.nil_append, put_u K x.f5 hK (by omega) _ (by omega)]
    · rw [if_neg c2] at hr
      rw [if_neg c2, if_neg c2]
      by_cases c3 : x.f0 = 3
      · rw [if_pos c3] at hr
        have hn : 0 ≤ x.f2 := by
          unfold nodeB at hr
          simp only [Bool.and_eq_true, decide_eq_true_eq] at hr
          exact hr.1.1
        rw [if_pos c3, if_pos c3, put_u K x.f2 hK (by omega) [] (by simp), Option.bind_some, List.nil_append, place_is K hK _ (by omega) _ _ _ h3 h4 h5, Option.bind_some, put_u K x.f5 hK (by omega) _ (by simp only [List.length_append]; omega)]
      · rw [if_neg c3, if_neg c3, place_is K hK [] (by simp) _ _ _ h3 h4 h5, Option.bind_some, List.nil_append, put_i K x.f1 hK h1 _ (by simp only [List.length_append]; omega)]
/-- a part's bytes -/
def pB (x : S28) : List Int := [x.f0] ++ C (bodyB x).length ++ bodyB x
theorem pB_le (x : S28) : (pB x).length ≤ 55 := by
  have h1 := bodyB_le x
  have h2 := (C_le (bodyB x).length).2
  unfold pB
  simp only [List.length_append, List.length_cons, List.length_nil]
  omega
theorem pB_bytes (x : S28) (h : okP x) : isBytes (pB x) := isBytes_append (isBytes_append (isBytes_one h.1) (C_bytes _)) (bodyB_bytes x)
/-- the bytes of the parts that may be, behind n others -/
def psB : List S28 → Nat → List Int
  | [], _ => []
  | x :: l, n => if rightB x = true ∧ n < 300 then pB x ++ psB l (n + 1) else psB l n
def tailed (q : List Int) : List Int := q ++ t4 (sumN q)
theorem rdT_drop (l : List S28) (i : Nat) (hi : i < l.length) : l.drop i = rd_T28 l (i : Int) :: l.drop (i + 1) := by
  rw [List.drop_eq_getElem_cons hi]
  congr 1
  unfold rd_T28
  simp [List.getD_eq_getElem?_getD, List.getElem?_eq_getElem hi]
theorem wr1 (i : Nat) (h : i < 1000000000) : wrap64 ((i : Int) + 1) = ((i + 1 : Nat) : Int) := by unfold wrap64; omega
theorem sum4 (K : Nat) (q : List Int) (hq : isBytes q) (hl : q.length < 100000) (hK : q.length + 10 < K) : ((tally_Sum.f K q).bind fun t136 => ((some (([(t136) % 256, (t136 / 256) % 256, (t136 / 65536) % 256, (t136 / 16777216) % 256] : List Int) : List Int)).bind fun y137 => (if q.length + y137.length < 140737488355328 then (some (q ++ y137)) else (none)))) = some (tailed q) := by
  rw [sum_is K q hq (by omega) hK, Option.bind_some, Option.bind_some, if_pos (by simp; omega)]
  refine congrArg some (congrArg (q ++ ·) ?_)
  have hlt := sumN_lt q hq
  rw [show crcV (crcF crcM q) = sumN q from rfl]
  unfold t4
  rw [show ((sumN q : Nat) : Int) % 256 = ((sumN q % 256 : Nat) : Int) by omega, show ((sumN q : Nat) : Int) / 256 % 256 = ((sumN q / 256 % 256 : Nat) : Int) by omega, show ((sumN q : Nat) : Int) / 65536 % 256 = ((sumN q / 65536 % 256 : Nat) : Int) by omega, show ((sumN q : Nat) : Int) / 16777216 % 256 = ((sumN q / 16777216 % 256 : Nat) : Int) by omega]
theorem enc_loop (l : List S28) (hok : ∀ x ∈ l, okP x) (hl : l.length ≤ 1000) (d : Nat) : ∀ (i n K : Nat) (q : List Int), i + d = l.length → isBytes q → q.length + 55 * d ≤ 60000 → n ≤ i → 2 * d + 60100 ≤ K →
    message_Encode.l0 K q (n : Int) l (l.length : Int) (i : Int) = some (tailed (q ++ psB (l.drop i) n)) := by
  induction d with
  | zero =>
    intro i n K q hi hq hql hn hK
    obtain ⟨k, rfl⟩ : ∃ k, K = k + 1 := ⟨K - 1, by omega⟩
    rw [message_Encode.l0, if_neg (by omega), sum4 k q hq (by omega) (by omega), List.drop_eq_nil_of_le (by omega)]
    simp [psB]
  | succ d ih =>
    intro i n K q hi hq hql hn hK
    obtain ⟨k, rfl⟩ : ∃ k, K = k + 1 + 1 := ⟨K - 2, by omega⟩
    have hlt : i < l.length := by omega
    have hd := rdT_drop l i hlt
    have hm : rd_T28 l (i : Int) ∈ l := List.mem_of_mem_drop (by rw [hd]; exact List.mem_cons_self)
    have hx := hok _ hm
    have e1 := Aside0.mk (wr1 i (by omega))
    have e2 := Aside0.mk (wr1 n (by omega))
    generalize hxx : rd_T28 l (i : Int) = x at hx hd
    rw [message_Encode.l0, if_pos (by omega), if_pos (by omega), if_pos (by omega), hxx, right_msg x hx, Option.bind_some, hd, psB]
    by_cases hr : rightB x = true
    · rw [if_pos hr]
      by_cases hn3 : n < 300
      · have b1 := bodyB_le x
        have b2 := (C_le (bodyB x).length).2
        have hput := put_u (k) ((bodyB x).length : Int) (by omega) (by omega) (q ++ [x.f0]) (by simp; omega)
        have hp := pB_le x
        have hpb : q ++ [x.f0] ++ C ((bodyB x).length : Int).toNat ++ bodyB x = q ++ pB x := by rw [Int.toNat_natCast, pB]; simp
        have hlen : (q ++ [x.f0] ++ C ((bodyB x).length : Int).toNat).length + (bodyB x).length < 140737488355328 := by
          rw [Int.toNat_natCast]; simp only [List.length_append, List.length_cons, List.length_nil]; omega
        rw [decide_eq_true (show (n : Int) < 300 by omega), message_Encode.j1, if_pos rfl, body_is k (by omega) x hx hr, Option.bind_some, if_pos (by omega), hput, Option.bind_some, if_pos hlen, hpb, e1.out, e2.out, if_pos ⟨hr, hn3⟩, ih (i + 1) (n + 1) k (q ++ pB x) (by omega) (isBytes_append hq (pB_bytes x hx)) (by rw [List.length_append]; omega) (by omega) (by omega), List.append_assoc]
      · rw [decide_eq_false (show ¬ (n : Int) < 300 by omega), message_Encode.j1, if_neg (by decide), e1.out, if_neg (by intro h; exact hn3 h.2), ih (i + 1) n k q (by omega) hq (by omega) (by omega) (by omega)]
    · rw [if_neg hr, message_Encode.j1, if_neg (by decide), e1.out, if_neg (by intro h; exact hr h.1), ih (i + 1) n k q (by omega) hq (by omega) (by omega) (by omega)]
/-- a packet's bytes -/
def encB (from_ : Nat) (l : List S28) : List Int := tailed ([1] ++ C from_ ++ psB l 0)
theorem enc_is (K from_ : Nat) (l : List S28) (hok : ∀ x ∈ l, okP x) (hl : l.length ≤ 1000) (hf : from_ < 18446744073709551616) (hK : 63000 ≤ K) : message_Encode.f K (from_ : Int) l = some (encB from_ l) := by
  have h1 := (C_le from_).2
  unfold message_Encode.f
  rw [put_u K (from_ : Int) (by omega) (by omega) [1] (by simp), Option.bind_some, Int.toNat_natCast]
  have := enc_loop l hok hl l.length 0 0 K ([1] ++ C from_) (by omega) (isBytes_append (isBytes_one (by omega)) (C_bytes _)) (by simp only [List.length_append, List.length_cons, List.length_nil]; omega) (by omega) (by omega)
  exact this
def csB : List Int → List Int
  | [] => []
  | a :: l => C a.toNat ++ csB l
theorem rdI_drop (l : List Int) (i : Nat) (hi : i < l.length) : l.drop i = rd l (i : Int) :: l.drop (i + 1) := rd_drop l i hi
theorem coins_loop (l : List Int) (hok : ∀ a ∈ l, 0 ≤ a ∧ a < 18446744073709551616) (hl : l.length < 1000) (d : Nat) : ∀ (i K : Nat) (acc : List Int), i + d = l.length → acc.length + 9 * d < 100000 → d + 92 ≤ K →
    milestoneref01_Coins.l0 K l acc (i : Int) = some (acc ++ csB (l.drop i)) := by
  induction d with
  | zero =>
    intro i K acc hi ha hK
    obtain ⟨k, rfl⟩ : ∃ k, K = k + 1 := ⟨K - 1, by omega⟩
    rw [milestoneref01_Coins.l0, if_neg (by omega), List.drop_eq_nil_of_le (by omega), csB, List.append_nil]
  | succ d ih =>
    intro i K acc hi ha hK
    obtain ⟨k, rfl⟩ : ∃ k, K = k + 1 := ⟨K - 1, by omega⟩
    have hlt : i < l.length := by omega
    have hd := rdI_drop l i hlt
    have hm : rd l (i : Int) ∈ l := List.mem_of_mem_drop (by rw [hd]; exact List.mem_cons_self)
    have hx := hok _ hm
    have e1 := Aside0.mk (wr1 i (by omega))
    generalize rd l (i : Int) = a at hx hd
    have hc := coin_C k a.toNat (by omega) (by omega)
    rw [show ((a.toNat : Nat) : Int) = a by omega] at hc
    have h9 := (C_le a.toNat).2
    have ha2 : rd l (i : Int) = a := by
      have := rdI_drop l i hlt
      rw [hd] at this
      injection this with h _
      exact h.symm
    rw [milestoneref01_Coins.l0, if_pos (by omega), if_pos (by omega), ha2, hc, Option.bind_some, if_pos (by omega), e1.out, ih (i + 1) k _ (by omega) (by rw [List.length_append]; omega) (by omega), hd, csB, List.append_assoc]
theorem coins_is (l : List Int) (hok : ∀ a ∈ l, 0 ≤ a ∧ a < 18446744073709551616) (hl : l.length < 1000) (K : Nat) (hK : 1200 ≤ K) : milestoneref01_Coins.f K l = some (csB l) := by
  unfold milestoneref01_Coins.f
  have := coins_loop l hok hl l.length 0 K [] (by omega) (by simp; omega) (by omega)
  rwa [List.drop_zero, List.nil_append] at this
theorem u64i (a : Int) (h : 0 ≤ a ∧ a < 18446744073709551616) : IntKind.u64.wrap a = a := by rw [wr64]; omega
theorem lbytes_is (K : Nat) (hK : 1200 ≤ K) (x : S28) (h : okP x) (hr : rightB x = true) : milestonelaw13_bytes.f K x.f0 x.f1 x.f2 x.f3.f0 x.f3.f1 x.f4 x.f5 = some (pB x) := by
  have hb := bodyB_le x
  have hc2 := (C_le (bodyB x).length).2
  have hcoin := coin_C K (bodyB x).length (by omega) (by omega)
  have hu := u64n (bodyB x).length (by omega)
  obtain ⟨h0, h1, h2, h3, h4, h5, h6⟩ := h
  have fin : (((some (([x.f0] : List Int) : List Int)).bind fun y190 => ((milestoneref01_Coin.f K (IntKind.u64.wrap (((bodyB x).length : Int)))).bind fun t193 => (if y190.length + t193.length < 140737488355328 then ((some (y190 ++ t193 : List Int)).bind fun y196 => (if y196.length + (bodyB x).length < 140737488355328 then (some (y196 ++ (bodyB x))) else (none))) else (none))))) = some (pB x) := by
    rw [Option.bind_some, hu, hcoin, Option.bind_some, if_pos (by simp only [List.length_cons, List.length_nil]; omega), Option.bind_some, if_pos (by simp only [List.length_append, List.length_cons, List.length_nil]; omega)]
    rfl
  have hbb : bodyB x = bodyB x := rfl
  unfold rightB at hr
  unfold milestonelaw13_bytes.f
  by_cases c1 : x.f0 = 1
  · have e : csB [x.f1] = bodyB x := by unfold bodyB; rw [if_pos c1]; simp [csB]
    rw [if_pos c1, coins_is [x.f1] (by simp; omega) (by simp) K hK, Option.bind_some, e]
    exact fin
  · rw [if_neg c1] at hr
    rw [if_neg c1]
    by_cases c2 : x.f0 = 2
    · rw [if_pos c2] at hr
      have hn : 0 ≤ x.f2 := by
        unfold nodeB at hr
        simp only [Bool.and_eq_true, decide_eq_true_eq] at hr
        exact hr.1.1
      have e : csB [x.f2, x.f5] = bodyB x := by unfold bodyB; rw [if_neg c1, if_pos c2]; simp [csB]
      rw [if_pos c2, u64i x.f2 (by omega), u64i x.f5 (by omega), coins_is [x.f2, x.f5] (by simp; omega) (by simp) K hK, Option.bind_some, e]
      exact fin
    · rw [if_neg c2] at hr
      rw [if_neg c2]
      by_cases c3 : x.f0 = 3
      · rw [if_pos c3] at hr
        have hn : 0 ≤ x.f2 := by
          unfold nodeB at hr
          simp only [Bool.and_eq_true, decide_eq_true_eq] at hr
          exact hr.1.1
        have e : csB [x.f2, x.f3.f0, x.f3.f1, x.f4, x.f5] = bodyB x := by unfold bodyB; rw [if_neg c1, if_neg c2, if_pos c3]; simp [csB]
        rw [if_pos c3, u64i x.f2 (by omega), u64i x.f3.f0 (by omega), u64i x.f3.f1 (by omega), u64i x.f4 (by omega), u64i x.f5 (by omega), coins_is [x.f2, x.f3.f0, x.f3.f1, x.f4, x.f5] (by simp; omega) (by simp) K hK, Option.bind_some, e]
        exact fin
      · have e : csB [x.f3.f0, x.f3.f1, x.f4, x.f1] = bodyB x := by unfold bodyB; rw [if_neg c1, if_neg c2, if_neg c3]; simp [csB]
        rw [if_neg c3, u64i x.f3.f0 (by omega), u64i x.f3.f1 (by omega), u64i x.f4 (by omega), coins_is [x.f3.f0, x.f3.f1, x.f4, x.f1] (by simp; omega) (by simp) K hK, Option.bind_some, e]
        exact fin
theorem packet_is (K : Nat) (q : List Int) (hq : isBytes q) (hl : q.length < 90000) (hK : 8 * q.length + 2 < K) : milestonelaw13_packet.f K q = some (tailed q) := by
  unfold milestonelaw13_packet.f
  rw [if_pos (by simp; omega), Option.bind_some, tail_is K q hq (by omega) (by omega), Option.bind_some, if_pos (by simp [t4_length]; omega), List.nil_append]
  rfl
/-- a part that may be, out of any -/
def nearS (x : S28) : S28 :=
  let a := x.f3.f0.toNat
  let n := x.f3.f1.toNat
  let p : S25 := ⟨((ofN a (min n 32) : Nat) : Int), ((min n 32 : Nat) : Int)⟩
  if x.f0 % 4 = 0 then ⟨1, x.f1 % 4294967296, 0, ⟨0, 0⟩, 0, 0⟩
  else if x.f0 % 4 = 1 then ⟨2, 0, (x.f2 % 18446744073709551616) % 16, ⟨0, 0⟩, 0, x.f5⟩
  else if x.f0 % 4 = 2 then ⟨3, 0, (x.f2 % 18446744073709551616) % 16, p, x.f4, x.f5⟩
  else ⟨4, x.f1 % 65, 0, p, x.f4, 0⟩
theorem ofN_right (a n : Nat) : ofN a n % lo n = 0 := by
  unfold ofN
  exact Nat.mul_mod_left _ _
theorem near_is (K : Nat) (hK : 80 < K) (x : S28) (h : okP x) : milestonelaw13_near.f K x.f0 x.f1 x.f2 x.f3.f0 x.f3.f1 x.f4 x.f5 = some ((nearS x).f0, (nearS x).f1, (nearS x).f2, (nearS x).f3.f0, (nearS x).f3.f1, (nearS x).f4, (nearS x).f5) := by
  obtain ⟨h0, h1, h2, h3, h4, h5, h6⟩ := h
  have ho := rof_is K x.f3.f0.toNat x.f3.f1.toNat (by omega) (by omega) hK
  rw [show ((x.f3.f0.toNat : Nat) : Int) = x.f3.f0 by omega, show ((x.f3.f1.toNat : Nat) : Int) = x.f3.f1 by omega] at ho
  have t4 : Int.tmod x.f0 4 = x.f0 % 4 := Int.tmod_eq_emod_of_nonneg h0.1
  have t1 : Int.tmod x.f1 4294967296 = x.f1 % 4294967296 := Int.tmod_eq_emod_of_nonneg h1.1
  have t65 : Int.tmod x.f1 65 = x.f1 % 65 := Int.tmod_eq_emod_of_nonneg h1.1
  have tn : wrap64 (Int.tmod (IntKind.u64.wrap x.f2) 16) = (x.f2 % 18446744073709551616) % 16 := by
    rw [wr64, Int.tmod_eq_emod_of_nonneg (by omega)]
    unfold wrap64
    omega
  unfold milestonelaw13_near.f nearS
  rw [ho, Option.bind_some, t4, t1, t65, tn]
  by_cases c1 : x.f0 % 4 = 0
  · rw [if_pos c1]; simp only [if_pos c1]
  · rw [if_neg c1]; simp only [if_neg c1]
    by_cases c2 : x.f0 % 4 = 1
    · rw [if_pos c2]; simp only [if_pos c2]
    · rw [if_neg c2]; simp only [if_neg c2]
      by_cases c3 : x.f0 % 4 = 2
      · rw [if_pos c3]; simp only [if_pos c3]
      · rw [if_neg c3]; simp only [if_neg c3]
theorem near_ok (x : S28) (h : okP x) : okP (nearS x) ∧ rightB (nearS x) = true := by
  obtain ⟨h0, h1, h2, h3, h4, h5, h6⟩ := h
  have ho := ofN_le x.f3.f0.toNat (min x.f3.f1.toNat 32)
  have hr := ofN_right x.f3.f0.toNat (min x.f3.f1.toNat 32)
  have hm : min x.f3.f1.toNat 32 ≤ 32 := Nat.min_le_right _ _
  have hrp : rP ((ofN x.f3.f0.toNat (min x.f3.f1.toNat 32) : Nat) : Int) ((min x.f3.f1.toNat 32 : Nat) : Int) = true := by
    unfold rP
    rw [Int.toNat_natCast, Int.toNat_natCast]
    exact decide_eq_true ⟨hm, hr⟩
  have hnd : nodeB ((x.f2 % 18446744073709551616) % 16) = true := by
    unfold nodeB
    simp only [Bool.and_eq_true, decide_eq_true_eq]
    omega
  unfold nearS
  dsimp only
  by_cases c1 : x.f0 % 4 = 0
  · simp only [if_pos c1]
    refine ⟨⟨by dsimp only; omega, by dsimp only; omega, by dsimp only; omega, by dsimp only; omega, by dsimp only; omega, by dsimp only; omega, by dsimp only; omega⟩, ?_⟩
    unfold rightB
    dsimp only
    rw [if_pos rfl, decide_eq_true (by omega)]
    rfl
  · simp only [if_neg c1]
    by_cases c2 : x.f0 % 4 = 1
    · simp only [if_pos c2]
      refine ⟨⟨by dsimp only; omega, by dsimp only; omega, by dsimp only; omega, by dsimp only; omega, by dsimp only; omega, by dsimp only; omega, by dsimp only; omega⟩, ?_⟩
      unfold rightB
      dsimp only
      rw [if_neg (by decide), if_pos rfl, hnd]
      rfl
    · simp only [if_neg c2]
      by_cases c3 : x.f0 % 4 = 2
      · simp only [if_pos c3]
        refine ⟨⟨by dsimp only; omega, by dsimp only; omega, by dsimp only; omega, by dsimp only; omega, by dsimp only; omega, by dsimp only; omega, by dsimp only; omega⟩, ?_⟩
        unfold rightB
        dsimp only
        rw [if_neg (by decide), if_neg (by decide), if_pos rfl, hnd, hrp]
        rfl
      · simp only [if_neg c3]
        refine ⟨⟨by dsimp only; omega, by dsimp only; omega, by dsimp only; omega, by dsimp only; omega, by dsimp only; omega, by dsimp only; omega, by dsimp only; omega⟩, ?_⟩
        unfold rightB
        dsimp only
        rw [if_neg (by decide), if_neg (by decide), if_neg (by decide), if_pos rfl, hrp, decide_eq_true (by omega)]
        rfl
theorem u16i (a : Int) (h : 0 ≤ a ∧ a < 65536) : IntKind.u16.wrap a = a := by
  have : IntKind.u16.wrap a = a % 65536 := rfl
  rw [this]; omega
theorem u32i (a : Int) (h : 0 ≤ a ∧ a < 4294967296) : IntKind.u32.wrap a = a := by
  have : IntKind.u32.wrap a = a % 4294967296 := rfl
  rw [this]; omega
theorem u8i (a : Int) (h : 0 ≤ a ∧ a < 256) : IntKind.u8.wrap a = a := by
  have : IntKind.u8.wrap a = a % 256 := rfl
  rw [this]; omega
theorem w64i (a : Int) (h : 0 ≤ a ∧ a < 256) : wrap64 a = a := by unfold wrap64; omega
theorem i64i (a : Int) (h : 0 ≤ a ∧ a < 256) : IntKind.i64.wrap a = a := by rw [Go.IntWalk.i64_left]; exact w64i a h
/-- the bytes of parts, all of them -/
def psR (l : List S28) : List Int := (l.map pB).flatten
theorem psR_cons (x : S28) (l : List S28) : psR (x :: l) = pB x ++ psR l := by simp [psR]
theorem psB_psR : ∀ (l : List S28) (n : Nat), (∀ x ∈ l, rightB x = true) → n + l.length ≤ 300 → psB l n = psR l
  | [], _, _, _ => by simp [psB, psR]
  | x :: l, n, h, hn => by
    rw [List.length_cons] at hn
    rw [psB, if_pos ⟨h x List.mem_cons_self, by omega⟩, psR_cons, psB_psR l (n + 1) (fun z hz => h z (List.mem_cons_of_mem _ hz)) (by omega)]
theorem bytes_app (a b : List Int) (n : Int) (hn : (a.length : Int) = n) (hl : a.length < 100000) : coin_Purse_Bytes.f (a ++ b) 0 n = some (a, b, 0) := by
  subst hn
  unfold coin_Purse_Bytes.f
  rw [if_pos rfl, if_neg (by omega), if_neg (by rw [List.length_append]; omega), if_pos (by omega), Int.toNat_natCast, List.take_left, List.drop_left]
theorem u32b (a : Int) : 0 ≤ IntKind.u32.wrap a ∧ IntKind.u32.wrap a < 4294967296 := by
  have : IntKind.u32.wrap a = a % 4294967296 := rfl
  rw [this]; omega
theorem u8b (a : Int) : 0 ≤ IntKind.u8.wrap a ∧ IntKind.u8.wrap a < 256 := by
  have : IntKind.u8.wrap a = a % 256 := rfl
  rw [this]; omega
theorem u16b (a : Int) : 0 ≤ IntKind.u16.wrap a ∧ IntKind.u16.wrap a < 65536 := by
  have : IntKind.u16.wrap a = a % 65536 := rfl
  rw [this]; omega
theorem t4_four (q : List Int) (hq : isBytes q) : [((sumN q : Nat) : Int) % 256, ((sumN q : Nat) : Int) / 256 % 256, ((sumN q : Nat) : Int) / 65536 % 256, ((sumN q : Nat) : Int) / 16777216 % 256] = t4 (sumN q) := by
  have hlt := sumN_lt q hq
  unfold t4
  rw [show ((sumN q : Nat) : Int) % 256 = ((sumN q % 256 : Nat) : Int) by omega, show ((sumN q : Nat) : Int) / 256 % 256 = ((sumN q / 256 % 256 : Nat) : Int) by omega, show ((sumN q : Nat) : Int) / 65536 % 256 = ((sumN q / 65536 % 256 : Nat) : Int) by omega, show ((sumN q : Nat) : Int) / 16777216 % 256 = ((sumN q / 16777216 % 256 : Nat) : Int) by omega]
theorem awake_100 : milestonelaw13_awake.f 100 = some true := by decide +kernel
theorem okW (x : S28) (h : ((Lit.int .u8 x.f0).wf = true ∧ ((Lit.int .u64 x.f1).wf = true ∧ ((Lit.int .i64 x.f2).wf = true ∧ (((Lit.int .u32 x.f3.f0).wf = true ∧ (Lit.int .u8 x.f3.f1).wf = true) ∧ ((Lit.int .u16 x.f4).wf = true ∧ (Lit.int .u16 x.f5).wf = true)))))) : okP x := by
  obtain ⟨w0, w1, w2, ⟨w3, w4⟩, w5, w6⟩ := h
  have b0 := Go.bounds_u8 w0
  have b1 := Go.bounds_u64 w1
  have b2 := Go.bounds_i64 w2
  have b3 := Go.bounds_u32 w3
  have b4 := Go.bounds_u8 w4
  have b5 := Go.bounds_u16 w5
  have b6 := Go.bounds_u16 w6
  exact ⟨by omega, by omega, by omega, by omega, by omega, by omega, by omega⟩
theorem tailed_parts (m : List Int) : (tailed m).length = m.length + 4 := by unfold tailed; rw [List.length_append, t4_length]
theorem take_inv (K : Nat) (s : List Int) (e m : Int) (hs : isBytes s) (hl : s.length < 1000000) (hm : 0 ≤ m) (hK : 25 ≤ K) : ∃ r s' e', coin_Purse_Take.f K s e m = some (r, s', e') ∧ 0 ≤ r ∧ r ≤ m ∧ isBytes s' ∧ s'.length ≤ s.length ∧ (e' = 0 → e = 0 ∧ s = C r.toNat ++ s') := by
  obtain ⟨k, rfl⟩ : ∃ k, K = k + 25 := ⟨K - 25, by omega⟩
  unfold coin_Purse_Take.f
  by_cases he : e = 0
  · subst he
    rw [if_pos rfl]
    rcases get_any k s hs hl with ⟨z, n, rest, hT, hn, hb, hg⟩ | ⟨e', he', hg⟩
    · have hc : (cb z n).length = z := cb_length z n hT
      have hd : s.drop z = rest := by
        have := List.drop_left (l₁ := cb z n) (l₂ := rest)
        rw [hc] at this
        rw [hb, this]
      have hsl : s.length = z + rest.length := by rw [hb, List.length_append, hc]
      have hrb : isBytes rest := fun x hx => hs x (by rw [hb]; exact List.mem_append_right _ hx)
      have hC : C ((n : Int)).toNat = cb z n := by
        rw [Int.toNat_natCast]
        unfold C
        rw [takes_one (szN n) z n (takes_sz n) hT]
      rw [hg, Option.bind_some]
      dsimp only
      rw [if_pos rfl]
      by_cases c : (n : Int) > m
      · rw [if_pos c]; exact ⟨0, s, 6, rfl, by omega, hm, hs, by omega, fun h => absurd h (by decide)⟩
      · rw [if_neg c, if_pos (by omega), if_pos (by omega), Int.toNat_natCast, hd]
        exact ⟨n, rest, 0, rfl, by omega, by omega, hrb, by omega, fun _ => ⟨rfl, by rw [hC]; exact hb⟩⟩
    · rw [hg, Option.bind_some]
      dsimp only
      rw [if_neg (by omega)]
      exact ⟨0, s, e', rfl, by omega, hm, hs, by omega, fun h => by omega⟩
  · rw [if_neg he]
    exact ⟨0, s, e, rfl, by omega, hm, hs, by omega, fun h => absurd h he⟩
theorem bytes_inv (s : List Int) (e n : Int) (hs : isBytes s) (h0 : 0 ≤ n) (hn : n ≤ 1048576) : ∃ b s' e', coin_Purse_Bytes.f s e n = some (b, s', e') ∧ isBytes b ∧ isBytes s' ∧ s'.length ≤ s.length ∧ b.length ≤ s.length ∧ (e' = 0 → e = 0 ∧ s = b ++ s' ∧ (b.length : Int) = n) := by
  have nb : isBytes [] := fun x hx => by simp at hx
  unfold coin_Purse_Bytes.f
  by_cases he : e = 0
  · rw [if_pos he, if_neg (by omega)]
    by_cases c2 : n > (s.length : Int)
    · rw [if_pos c2]; exact ⟨[], s, 5, rfl, nb, hs, by omega, by simp, fun h => absurd h (by decide)⟩
    · rw [if_neg c2, if_pos (by omega)]
      exact ⟨_, _, 0, rfl, fun x hx => hs x (List.mem_of_mem_take hx), fun x hx => hs x (List.mem_of_mem_drop hx), by rw [List.length_drop]; omega, by rw [List.length_take]; omega, fun _ => ⟨he, (List.take_append_drop _ _).symm, by rw [List.length_take]; omega⟩⟩
  · rw [if_neg he]; exact ⟨[], s, e, rfl, nb, hs, by omega, by simp, fun h => absurd h he⟩
theorem fin_inv (x : S28) (h : okP x) (s : List Int) (e : Int) : ∃ ok, message_part.fin x.f0 x.f1 x.f2 x.f3.f0 x.f3.f1 x.f4 x.f5 s e = some (x.f0, x.f1, x.f2, x.f3.f0, x.f3.f1, x.f4, x.f5, ok) ∧ (ok = true → e = 0 ∧ s = [] ∧ rightB x = true) := by
  have hr := right_msg x h
  unfold message_part.fin coin_Purse_End.f
  by_cases he : e = 0
  · subst he
    rw [if_pos rfl]
    by_cases c : 0 < (s.length : Int)
    · rw [if_pos c, Option.bind_some]
      dsimp only
      rw [if_neg (by decide)]
      exact ⟨false, rfl, fun h => by cases h⟩
    · rw [if_neg c, Option.bind_some]
      dsimp only
      rw [if_pos rfl, hr, Option.bind_some]
      exact ⟨_, rfl, fun h => ⟨rfl, List.eq_nil_of_length_eq_zero (by omega), h⟩⟩
  · rw [if_neg he, Option.bind_some]
    dsimp only
    rw [if_neg he]
    exact ⟨false, rfl, fun h => by cases h⟩
theorem place_inv (K : Nat) (hK : 25 ≤ K) (s : List Int) (e : Int) (hs : isBytes s) (hl : s.length < 1000000) : ∃ a b c s' e', message_part.place K s e = some (a, b, c, s', e') ∧ (0 ≤ a ∧ a < 4294967296) ∧ (0 ≤ b ∧ b < 256) ∧ (0 ≤ c ∧ c < 65536) ∧ isBytes s' ∧ s'.length ≤ s.length ∧ (e' = 0 → e = 0 ∧ s = C a.toNat ++ (C b.toNat ++ (C c.toNat ++ s'))) := by
  unfold message_part.place
  obtain ⟨r1, s1, e1, h1, p1, q1, b1, l1, i1⟩ := take_inv K s e 4294967295 hs hl (by omega) hK
  rw [h1, Option.bind_some]
  dsimp only
  obtain ⟨r2, s2, e2, h2, p2, q2, b2, l2, i2⟩ := take_inv K s1 e1 32 b1 (by omega) (by omega) hK
  rw [h2, Option.bind_some]
  dsimp only
  obtain ⟨r3, s3, e3, h3, p3, q3, b3, l3, i3⟩ := take_inv K s2 e2 65535 b2 (by omega) (by omega) hK
  rw [h3, Option.bind_some]
  refine ⟨_, _, _, s3, e3, rfl, u32b _, u8b _, u16b _, b3, by omega, fun h => ?_⟩
  obtain ⟨g2, t3⟩ := i3 h
  obtain ⟨g1, t2⟩ := i2 g2
  obtain ⟨g0, t1⟩ := i1 g1
  refine ⟨g0, ?_⟩
  rw [u32i r1 (by omega), u8i r2 (by omega), u16i r3 (by omega), ← t3, ← t2]
  exact t1
theorem part_inv (K : Nat) (hK : 25 ≤ K) (kind : Int) (hk : 0 ≤ kind ∧ kind < 256) (s : List Int) (hs : isBytes s) (hl : s.length < 1000000) : ∃ (x : S28) (ok : Bool), message_part.f K kind s = some (x.f0, x.f1, x.f2, x.f3.f0, x.f3.f1, x.f4, x.f5, ok) ∧ okP x ∧ (ok = true → x.f0 = kind ∧ rightB x = true ∧ bodyB x = s) := by
  unfold message_part.f
  by_cases c1 : kind = 1
  · subst c1
    rw [if_pos rfl]
    obtain ⟨r1, s1, e1, h1, p1, q1, b1, l1, i1⟩ := take_inv K s 0 4294967295 hs hl (by omega) hK
    rw [h1, Option.bind_some]
    have hx : okP ⟨1, r1, 0, ⟨0, 0⟩, 0, 0⟩ := ⟨by dsimp only; omega, by dsimp only; omega, by dsimp only; omega, by dsimp only; omega, by dsimp only; omega, by dsimp only; omega, by dsimp only; omega⟩
    obtain ⟨ok, f1, f2⟩ := fin_inv ⟨1, r1, 0, ⟨0, 0⟩, 0, 0⟩ hx s1 e1
    refine ⟨_, ok, f1, hx, fun h => ?_⟩
    obtain ⟨g1, g2, g3⟩ := f2 h
    refine ⟨rfl, g3, ?_⟩
    have := (i1 g1).2
    rw [g2, List.append_nil] at this
    exact this.symm
  · rw [if_neg c1]
    by_cases c2 : kind = 2
    · subst c2
      rw [if_pos rfl]
      obtain ⟨r1, s1, e1, h1, p1, q1, b1, l1, i1⟩ := take_inv K s 0 15 hs hl (by omega) hK
      rw [h1, Option.bind_some]
      dsimp only
      obtain ⟨r2, s2, e2, h2, p2, q2, b2, l2, i2⟩ := take_inv K s1 e1 65535 b1 (by omega) (by omega) hK
      rw [h2, Option.bind_some]
      dsimp only
      rw [i64i r1 (by omega), u16i r2 (by omega)]
      have hx : okP ⟨2, 0, r1, ⟨0, 0⟩, 0, r2⟩ := ⟨by dsimp only; omega, by dsimp only; omega, by dsimp only; omega, by dsimp only; omega, by dsimp only; omega, by dsimp only; omega, by dsimp only; omega⟩
      obtain ⟨ok, f1, f2⟩ := fin_inv ⟨2, 0, r1, ⟨0, 0⟩, 0, r2⟩ hx s2 e2
      refine ⟨_, ok, f1, hx, fun h => ?_⟩
      obtain ⟨g1, g2, g3⟩ := f2 h
      refine ⟨rfl, g3, ?_⟩
      obtain ⟨j1, t2⟩ := i2 g1
      obtain ⟨_, t1⟩ := i1 j1
      rw [g2, List.append_nil] at t2
      rw [t2] at t1
      exact t1.symm
    · rw [if_neg c2]
      by_cases c3 : kind = 3
      · subst c3
        rw [if_pos rfl]
        obtain ⟨r1, s1, e1, h1, p1, q1, b1, l1, i1⟩ := take_inv K s 0 15 hs hl (by omega) hK
        rw [h1, Option.bind_some]
        dsimp only
        obtain ⟨a, b, c, s2, e2, h2, pa, pb, pc, b2, l2, i2⟩ := place_inv K hK s1 e1 b1 (by omega)
        rw [h2, Option.bind_some]
        dsimp only
        obtain ⟨r3, s3, e3, h3, p3, q3, b3, l3, i3⟩ := take_inv K s2 e2 65535 b2 (by omega) (by omega) hK
        rw [h3, Option.bind_some]
        dsimp only
        rw [w64i r1 (by omega), u16i r3 (by omega)]
        have hx : okP ⟨3, 0, r1, ⟨a, b⟩, c, r3⟩ := ⟨by dsimp only; omega, by dsimp only; omega, by dsimp only; omega, pa, pb, pc, by dsimp only; omega⟩
        obtain ⟨ok, f1, f2⟩ := fin_inv ⟨3, 0, r1, ⟨a, b⟩, c, r3⟩ hx s3 e3
        refine ⟨_, ok, f1, hx, fun h => ?_⟩
        obtain ⟨g1, g2, g3⟩ := f2 h
        refine ⟨rfl, g3, ?_⟩
        obtain ⟨j2, t3⟩ := i3 g1
        obtain ⟨j1, t2⟩ := i2 j2
        obtain ⟨_, t1⟩ := i1 j1
        rw [g2, List.append_nil] at t3
        rw [t3] at t2
        rw [t2] at t1
        show C r1.toNat ++ C a.toNat ++ C b.toNat ++ C c.toNat ++ C r3.toNat = s
        rw [t1]
        simp only [List.append_assoc]
      · rw [if_neg c3]
        by_cases c4 : kind = 4
        · subst c4
          rw [if_pos rfl]
          obtain ⟨a, b, c, s2, e2, h2, pa, pb, pc, b2, l2, i2⟩ := place_inv K hK s 0 hs hl
          rw [h2, Option.bind_some]
          dsimp only
          obtain ⟨r3, s3, e3, h3, p3, q3, b3, l3, i3⟩ := take_inv K s2 e2 64 b2 (by omega) (by omega) hK
          rw [h3, Option.bind_some]
          dsimp only
          have hx : okP ⟨4, r3, 0, ⟨a, b⟩, c, 0⟩ := ⟨by dsimp only; omega, by dsimp only; omega, by dsimp only; omega, pa, pb, pc, by dsimp only; omega⟩
          obtain ⟨ok, f1, f2⟩ := fin_inv ⟨4, r3, 0, ⟨a, b⟩, c, 0⟩ hx s3 e3
          refine ⟨_, ok, f1, hx, fun h => ?_⟩
          obtain ⟨g1, g2, g3⟩ := f2 h
          refine ⟨rfl, g3, ?_⟩
          obtain ⟨j2, t3⟩ := i3 g1
          obtain ⟨_, t2⟩ := i2 j2
          rw [g2, List.append_nil] at t3
          rw [t3] at t2
          show C a.toNat ++ C b.toNat ++ C c.toNat ++ C r3.toNat = s
          rw [t2]
          simp only [List.append_assoc]
        · rw [if_neg c4]
          exact ⟨⟨0, 0, 0, ⟨0, 0⟩, 0, 0⟩, false, rfl, ⟨by dsimp only; omega, by dsimp only; omega, by dsimp only; omega, by dsimp only; omega, by dsimp only; omega, by dsimp only; omega, by dsimp only; omega⟩, fun h => by cases h⟩
def readsOk (s : List Int) (e x9 a : Int) (acc : List S28) (t : Int × List S28 × Int × Int) : Prop :=
  (t.2.2.2 ≠ 0 → t.1 = 0 ∧ t.2.1 = [] ∧ t.2.2.1 = 0) ∧ (t.2.2.2 = 0 → t.1 = a ∧ x9 ≤ t.2.2.1 ∧ (t.2.2.1 = x9 → e = 0 ∧ ∃ l, t.2.1 = acc ++ l ∧ (∀ x ∈ l, okP x ∧ rightB x = true) ∧ s = psR l))
theorem j4_ok (k : Nat) (x9 : Int) (e a : Int) (acc : List S28) (ha : acc.length ≤ 300) : ∃ t, message_Decode.j4 (k + 1) x9 [] e a acc = some t ∧ readsOk [] e x9 a acc t := by
  rw [message_Decode.j4, show coin_Purse_Fault.f [] e = some (e, [], e) from rfl, Option.bind_some]
  dsimp only
  by_cases he : e = 0
  · rw [if_pos he, if_neg (by omega)]
    exact ⟨_, rfl, fun h => absurd rfl h, fun _ => ⟨rfl, Int.le_refl _, fun _ => ⟨he, [], by simp, fun x hx => by simp at hx, rfl⟩⟩⟩
  · rw [if_neg he]
    exact ⟨_, rfl, fun _ => ⟨rfl, rfl, rfl⟩, fun h => absurd h (by decide)⟩
theorem j4_bad (k : Nat) (x9 : Int) (s s0 : List Int) (e e0 x90 a a0 : Int) (acc acc0 : List S28) (he : e ≠ 0) : ∃ t, message_Decode.j4 (k + 1) x9 s e a acc = some t ∧ readsOk s0 e0 x90 a0 acc0 t := by
  rw [message_Decode.j4, show coin_Purse_Fault.f s e = some (e, s, e) from rfl, Option.bind_some]
  dsimp only
  rw [if_neg he]
  exact ⟨_, rfl, fun _ => ⟨rfl, rfl, rfl⟩, fun h => absurd h (by decide)⟩
theorem dec_inv (n : Nat) : ∀ (s : List Int) (e x9 a : Int) (acc : List S28) (K : Nat), s.length ≤ n → isBytes s → 0 ≤ x9 → x9 + n ≤ 100000 → acc.length + n ≤ 300 → 4 * n + 60 ≤ K → ∃ t, message_Decode.l0 K x9 s e a acc = some t ∧ readsOk s e x9 a acc t := by
  induction n with
  | zero =>
    intro s e x9 a acc K hn hs hx hx2 ha hK
    obtain ⟨k, rfl⟩ : ∃ k, K = k + 1 + 1 + 1 := ⟨K - 3, by omega⟩
    obtain rfl : s = [] := List.eq_nil_of_length_eq_zero (by omega)
    rw [message_Decode.l0, show coin_Purse_Fault.f [] e = some (e, [], e) from rfl, Option.bind_some]
    dsimp only
    by_cases he : e = 0
    · rw [if_pos he, show coin_Purse_Left.f [] e = some ((([] : List Int).length : Int), [], e) from rfl, Option.bind_some]
      dsimp only
      rw [decide_eq_false (by simp), message_Decode.j2, if_neg (by decide)]
      exact j4_ok _ _ _ _ _ (by omega)
    · rw [if_neg he, message_Decode.j2, if_neg (by decide)]
      exact j4_ok _ _ _ _ _ (by omega)
  | succ n ih =>
    intro s e x9 a acc K hn hs hx hx2 ha hK
    obtain ⟨k, rfl⟩ : ∃ k, K = k + 1 + 1 + 1 := ⟨K - 3, by omega⟩
    rw [message_Decode.l0, show coin_Purse_Fault.f s e = some (e, s, e) from rfl, Option.bind_some]
    dsimp only
    by_cases he : e = 0
    · subst he
      rw [if_pos rfl, show coin_Purse_Left.f s 0 = some ((s.length : Int), s, 0) from rfl, Option.bind_some]
      dsimp only
      match s, hs, hn with
      | [], hs, hn =>
        rw [decide_eq_false (by simp), message_Decode.j2, if_neg (by decide)]
        exact j4_ok _ _ _ _ _ (by omega)
      | h :: s0, hs, hn =>
        rw [decide_eq_true (by rw [List.length_cons]; omega), message_Decode.j2, if_pos rfl]
        have hh := hs h List.mem_cons_self
        have hs0 : isBytes s0 := fun z hz => hs z (List.mem_cons_of_mem _ hz)
        rw [List.length_cons] at hn
        have hB1 := bytes_app [h] s0 1 rfl (by simp)
        rw [show [h] ++ s0 = h :: s0 from rfl] at hB1
        rw [hB1, Option.bind_some]
        dsimp only
        obtain ⟨r1, s1, e1, h1, p1, q1, b1, l1, i1⟩ := take_inv (k + 1) s0 0 1048576 hs0 (by omega) (by omega) (by omega)
        rw [h1, Option.bind_some]
        dsimp only
        rw [show wrap64 r1 = r1 by unfold wrap64; omega]
        obtain ⟨b, s2, e2, h2, bb, b2, l2, lb, i2⟩ := bytes_inv s1 e1 r1 b1 p1 q1
        rw [h2, Option.bind_some]
        dsimp only
        rw [show coin_Purse_Fault.f s2 e2 = some (e2, s2, e2) from rfl, Option.bind_some]
        dsimp only
        have hrd : rd [h] 0 = h := rfl
        by_cases he2 : e2 = 0
        · obtain ⟨j1, t2, t3⟩ := i2 he2
          obtain ⟨_, t1⟩ := i1 j1
          subst he2
          have hw := Aside0.mk (show wrap64 (x9 + 1) = x9 + 1 by unfold wrap64; omega)
          have strange : ∃ t, message_Decode.j3 (k + 1) x9 [h] b true s2 0 a acc = some t ∧ readsOk (h :: s0) 0 x9 a acc t := by
            obtain ⟨t, g1, g2, g3⟩ := ih s2 0 (x9 + 1) a acc k (by omega) b2 (by omega) (by omega) (by omega) (by omega)
            rw [message_Decode.j3, if_pos rfl, hw.out]
            refine ⟨t, g1, g2, fun h0 => ?_⟩
            obtain ⟨u1, u2, u3⟩ := g3 h0
            exact ⟨u1, by omega, fun hq => by omega⟩
          rw [if_pos rfl, if_pos (by simp), hrd]
          by_cases c1 : h < 1
          · rw [if_pos c1]
            exact strange
          · rw [if_neg c1]
            by_cases c2 : h > 4
            · rw [decide_eq_true c2]
              exact strange
            · rw [decide_eq_false c2, message_Decode.j3, if_neg (by decide), if_pos (by simp), hrd]
              obtain ⟨x, ok, f1, f2, f3⟩ := part_inv k (by omega) h hh b bb (by omega)
              rw [f1, Option.bind_some]
              dsimp only
              cases ok with
              | false =>
                rw [if_neg (by decide)]
                exact ⟨_, rfl, fun _ => ⟨rfl, rfl, rfl⟩, fun h => absurd h (by decide)⟩
              | true =>
                rw [if_pos rfl, if_pos (by omega)]
                obtain ⟨v1, v2, v3⟩ := f3 rfl
                obtain ⟨t, g1, g2, g3⟩ := ih s2 0 x9 a (acc ++ [x]) k (by omega) b2 hx (by omega) (by rw [List.length_append, List.length_singleton]; omega) (by omega)
                refine ⟨t, g1, g2, fun h0 => ?_⟩
                obtain ⟨u1, u2, u3⟩ := g3 h0
                refine ⟨u1, u2, fun hq => ⟨rfl, ?_⟩⟩
                obtain ⟨_, l, w1, w2, w3⟩ := u3 hq
                refine ⟨x :: l, by rw [w1]; simp, fun y hy => ?_, ?_⟩
                · rw [List.mem_cons] at hy
                  rcases hy with rfl | hy
                  · exact ⟨f2, v2⟩
                  · exact w2 y hy
                · rw [psR_cons, ← w3]
                  unfold pB
                  rw [v1, v3, t1, t2, ← t3, Int.toNat_natCast]
                  simp only [List.append_assoc, List.singleton_append, List.cons_append, List.nil_append]
        · rw [if_neg he2]
          exact j4_bad _ _ _ _ _ _ _ _ _ _ _ he2
    · rw [if_neg he, message_Decode.j2, if_neg (by decide)]
      exact j4_bad _ _ _ _ _ _ _ _ _ _ _ he
theorem dec_packet (K : Nat) (m : List Int) (hm : isBytes m) (hl : m.length ≤ 110) (hK : 100000 ≤ K) : ∃ fr ps st er, message_Decode.f K (tailed m) = some (fr, ps, st, er) ∧ (er ≠ 0 → fr = 0 ∧ ps = [] ∧ st = 0) ∧ (er = 0 → st = 0 → message_Encode.f K fr ps = some (tailed m)) := by
  obtain ⟨k, rfl⟩ : ∃ k, K = k + 1 := ⟨K - 1, by omega⟩
  have hq : (tailed m).length = m.length + 4 := tailed_parts m
  unfold message_Decode.f
  by_cases c : m.length < 2
  · rw [if_pos (by rw [hq]; unfold wrap64; omega)]
    exact ⟨_, _, _, _, rfl, fun _ => ⟨rfl, rfl, rfl⟩, fun h => absurd h (by decide)⟩
  · have hw : wrap64 (((tailed m).length : Int) - 4) = (m.length : Int) := by rw [hq]; unfold wrap64; omega
    have htk : (tailed m).take m.length = m := by unfold tailed; rw [List.take_left]
    have hdr : (tailed m).drop m.length = t4 (sumN m) := by unfold tailed; rw [List.drop_left]
    have hsum := sum_is (k + 1) m hm (by omega) (by omega)
    rw [show crcV (crcF crcM m) = sumN m from rfl] at hsum
    have h0 : rd (tailed m) 0 = rd m 0 := by
      match m, c with
      | x :: m2, _ => rfl
    rw [hw, if_neg (by omega), if_pos (by omega), if_pos (by omega), Int.toNat_natCast, htk, hsum, Option.bind_some, t4_four _ hm, hdr, if_pos rfl, if_pos (by omega), h0]
    cases hv : ((rd m 0) != 1) with
    | true =>
      rw [message_Decode.j0, if_pos rfl]
      exact ⟨_, _, _, _, rfl, fun _ => ⟨rfl, rfl, rfl⟩, fun h => absurd h (by decide)⟩
    | false =>
      have h1 : rd m 0 = 1 := by simpa using hv
      rw [message_Decode.j0, if_neg (by decide), if_pos (by omega), if_pos (by omega), Int.toNat_natCast, htk]
      have hb : isBytes (m.drop 1) := fun x hx => hm x (List.mem_of_mem_drop hx)
      have hbl : (m.drop 1).length ≤ 110 := by rw [List.length_drop]; omega
      rw [show coin_NewPurse.f (m.drop 1) = some (m.drop 1, 0) from rfl, Option.bind_some]
      dsimp only
      obtain ⟨r1, s1, e1, g1, p1, q1, b1, l1, i1⟩ := take_inv k _ 0 15 hb (by omega) (by omega) (by omega)
      rw [g1, Option.bind_some]
      dsimp only
      rw [w64i r1 (by omega)]
      obtain ⟨⟨fr, ps, st, er⟩, f1, f2, f3⟩ := dec_inv 110 s1 e1 0 r1 [] k (by omega) b1 (by omega) (by omega) (by simp) (by omega)
      dsimp only at f2 f3
      refine ⟨fr, ps, st, er, f1, f2, fun he hs => ?_⟩
      obtain ⟨u1, u2, u3⟩ := f3 he
      obtain ⟨v1, l, v2, v3, v4⟩ := u3 hs
      obtain ⟨_, t1⟩ := i1 v1
      rw [List.nil_append] at v2
      subst u1 v2
      have hll : ps.length ≤ 110 := by
        have : ps.length ≤ (psR ps).length := by
          clear f1 f2 f3 u3 v3 v4 t1
          induction ps with
          | nil => simp
          | cons x l ih =>
            rw [psR_cons, List.length_append, List.length_cons]
            unfold pB
            simp only [List.length_append, List.length_singleton]
            omega
        rw [← v4] at this
        omega
      have henc := enc_is (k + 1) fr.toNat ps (fun x hx => (v3 x hx).1) (by omega) (by omega) (by omega)
      rw [show ((fr.toNat : Nat) : Int) = fr by omega] at henc
      rw [henc]
      refine congrArg some ?_
      unfold encB
      rw [psB_psR ps 0 (fun x hx => (v3 x hx).2) (by omega), ← v4, List.append_assoc, ← t1]
      congr 1
      match m, c, h1 with
      | x :: m2, _, h1 =>
        have : x = 1 := h1
        rw [this]
        rfl
theorem MessageReads : milestonelaw13_MessageReads.Pure := by
  refine ⟨⟨100, awake_100⟩, ?_, ?_⟩
  · intro a0 a1 a2 a3 a4 a5 a6 h0 h1 h2 h3 h4 h5 h6
    have hok : okP ⟨a0, a1, a2, ⟨a3, a4⟩, a5, a6⟩ := okW ⟨a0, a1, a2, ⟨a3, a4⟩, a5, a6⟩ ⟨h0, h1, h2, ⟨h3, h4⟩, h5, h6⟩
    obtain ⟨n1, n2⟩ := near_ok _ hok
    refine ⟨2000, _, _, _, _, _, _, _, pB (nearS ⟨a0, a1, a2, ⟨a3, a4⟩, a5, a6⟩), near_is 2000 (by omega) ⟨a0, a1, a2, ⟨a3, a4⟩, a5, a6⟩ hok, lbytes_is 2000 (by omega) _ n1 n2, fun n hn => ?_, ?_⟩
    · have := pB_bytes _ n1 n hn
      exact Go.WalkArith.wf_u8 ⟨by omega, by omega⟩
    · have := pB_le (nearS ⟨a0, a1, a2, ⟨a3, a4⟩, a5, a6⟩)
      omega
  · intro l hw hl
    have hb : isBytes l := fun n hn => by
      have := Go.bounds_u8 (hw n hn)
      omega
    obtain ⟨fr, ps, st, er, h1, h2, h3⟩ := dec_packet 200000 l hb hl (by omega)
    exact ⟨200000, tailed l, fr, ps, st, er, packet_is 200000 l hb (by omega) (by omega), h1, h3, h2⟩

end Go.Proofs.Ytnfdgpmdakciiaa.Pure
