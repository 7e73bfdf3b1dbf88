/- CoinPurses: what is taken of any bytes, one behind the other: behind the first fault nothing.
For every input; no condition is added to the given statement. -/
import Derived.Test.YtghgaehcejechaaQCoinPursesx5
import Derived.Laws.BitsAllLaws
import Derived.OpenShut
import Derived.Lib.Bytes
namespace Go.Proofs.Ytghgaehcejechaa.Pure
open Go.RowKit Go.Proofs.Ytghgaehcejechaa.QCoinPurses Go.Proofs.YtghgaehcejechaaW.PrintWords Go.Proofs.YtghgaehcejechaaW.PrintLast Go.Proofs.YtghgaehcejechaaW.PrintMore
set_option linter.unusedSimpArgs false
set_option linter.unusedVariables false

abbrev T8 : ByteArray := (⟨#[0, 1, 2, 2, 3, 3, 3, 3, 4, 4, 4, 4, 4, 4, 4, 4, 5, 5, 5, 5, 5, 5, 5, 5, 5, 5, 5, 5, 5, 5, 5, 5, 6, 6, 6, 6, 6, 6, 6, 6, 6, 6, 6, 6, 6, 6, 6, 6, 6, 6, 6, 6, 6, 6, 6, 6, 6, 6, 6, 6, 6, 6, 6, 6, 7, 7, 7, 7, 7, 7, 7, 7, 7, 7, 7, 7, 7, 7, 7, 7, 7, 7, 7, 7, 7, 7, 7, 7, 7, 7, 7, 7, 7, 7, 7, 7, 7, 7, 7, 7, 7, 7, 7, 7, 7, 7, 7, 7, 7, 7, 7, 7, 7, 7, 7, 7, 7, 7, 7, 7, 7, 7, 7, 7, 7, 7, 7, 7, 8, 8, 8, 8, 8, 8, 8, 8, 8, 8, 8, 8, 8, 8, 8, 8, 8, 8, 8, 8, 8, 8, 8, 8, 8, 8, 8, 8, 8, 8, 8, 8, 8, 8, 8, 8, 8, 8, 8, 8, 8, 8, 8, 8, 8, 8, 8, 8, 8, 8, 8, 8, 8, 8, 8, 8, 8, 8, 8, 8, 8, 8, 8, 8, 8, 8, 8, 8, 8, 8, 8, 8, 8, 8, 8, 8, 8, 8, 8, 8, 8, 8, 8, 8, 8, 8, 8, 8, 8, 8, 8, 8, 8, 8, 8, 8, 8, 8, 8, 8, 8, 8, 8, 8, 8, 8, 8, 8, 8, 8, 8, 8, 8, 8, 8, 8, 8, 8, 8, 8, 8, 8, 8, 8, 8, 8, 8, 8]⟩ : ByteArray)
theorem t8_all : ((List.range 256).all fun i => (List.range 9).all fun j => (decide (i < 2 ^ j)) == decide (bt T8 (i : Int) ≤ (j : Int))) = true := by decide +kernel
theorem t8_bd : ((List.range 256).all fun i => decide (0 ≤ bt T8 (i : Int) ∧ bt T8 (i : Int) ≤ 8)) = true := by decide +kernel
theorem t8 (i : Nat) (h : i < 256) : ∃ L : Nat, bt T8 (i : Int) = (L : Int) ∧ L ≤ 8 ∧ ∀ j, j ≤ 8 → (i < 2 ^ j ↔ L ≤ j) := by
  have h1 : ((List.range 9).all fun j => (decide (i < 2 ^ j)) == decide (bt T8 (i : Int) ≤ (j : Int))) = true := List.all_eq_true.1 t8_all i (List.mem_range.2 h)
  have h2 : 0 ≤ bt T8 (i : Int) ∧ bt T8 (i : Int) ≤ 8 := of_decide_eq_true (List.all_eq_true.1 t8_bd i (List.mem_range.2 h))
  refine ⟨(bt T8 (i : Int)).toNat, by omega, by omega, fun j hj => ?_⟩
  have h3 : ((decide (i < 2 ^ j)) == decide (bt T8 (i : Int) ≤ (j : Int))) = true := List.all_eq_true.1 h1 j (List.mem_range.2 (by omega))
  rw [beq_iff_eq, decide_eq_decide] at h3
  omega
theorem up (c B w n L : Nat) (hB : 2 ^ c = B) (hc : B ≤ n) (h : ∀ j, j ≤ w → (n / B < 2 ^ j ↔ L ≤ j)) : ∀ j, j ≤ w + c → (n < 2 ^ j ↔ L + c ≤ j) := by
  intro j hj
  subst hB
  by_cases hcj : c ≤ j
  · obtain ⟨d, rfl⟩ : ∃ d, j = d + c := ⟨j - c, by omega⟩
    have := h d (by omega)
    rw [Nat.div_lt_iff_lt_mul (Nat.two_pow_pos c), ← Nat.pow_add] at this
    omega
  · have : 2 ^ j ≤ 2 ^ c := Nat.pow_le_pow_right (by omega) (by omega)
    omega
theorem wide (w n L : Nat) (hn : n < 2 ^ w) (hL : L ≤ w) (h : ∀ j, j ≤ w → (n < 2 ^ j ↔ L ≤ j)) : ∀ j, (n < 2 ^ j ↔ L ≤ j) := by
  intro j
  by_cases hj : j ≤ w
  · exact h j hj
  · have : 2 ^ w ≤ 2 ^ j := Nat.pow_le_pow_right (by omega) (by omega)
    omega
theorem len_low (k n : Nat) (c : Int) (hc : 0 ≤ c ∧ c ≤ 32) (hn : n < 4294967296) : ∃ L : Nat, bits_Len64.j0 (k + 1) (n : Int) c = some (c + L) ∧ L ≤ 32 ∧ ∀ j, (n < 2 ^ j ↔ L ≤ j) := by
  rw [bits_Len64.j0]
  by_cases a : n ≥ 65536
  · rw [if_pos (by omega)]
    by_cases b : n / 65536 ≥ 256
    · obtain ⟨L, hL, h8, hj⟩ := t8 (n / 65536 / 256) (by omega)
      have e : ((n : Int) / 65536 / 256) % 256 = ((n / 65536 / 256 : Nat) : Int) := by omega
      rw [if_pos (by omega), if_pos (by omega), if_pos (by omega), e, hL]
      refine ⟨L + 8 + 16, ?_, by omega, wide 32 n _ (by omega) (by omega) (up 16 65536 16 n (L + 8) rfl (by omega) (up 8 256 8 (n / 65536) L rfl (by omega) hj))⟩
      refine congrArg some ?_
      unfold wrap64
      omega
    · obtain ⟨L, hL, h8, hj⟩ := t8 (n / 65536) (by omega)
      have e : ((n : Int) / 65536) % 256 = ((n / 65536 : Nat) : Int) := by omega
      rw [if_neg (by omega), if_pos (by omega), if_pos (by omega), e, hL]
      refine ⟨L + 16, ?_, by omega, wide 24 n _ (by omega) (by omega) (up 16 65536 8 n L rfl (by omega) hj)⟩
      refine congrArg some ?_
      unfold wrap64
      omega
  · rw [if_neg (by omega)]
    by_cases b : n ≥ 256
    · obtain ⟨L, hL, h8, hj⟩ := t8 (n / 256) (by omega)
      have e : ((n : Int) / 256) % 256 = ((n / 256 : Nat) : Int) := by omega
      rw [if_pos (by omega), if_pos (by omega), if_pos (by omega), e, hL]
      refine ⟨L + 8, ?_, by omega, wide 16 n _ (by omega) (by omega) (up 8 256 8 n L rfl (by omega) hj)⟩
      refine congrArg some ?_
      unfold wrap64
      omega
    · obtain ⟨L, hL, h8, hj⟩ := t8 n (by omega)
      have e : (n : Int) % 256 = (n : Int) := by omega
      rw [if_neg (by omega), if_pos (by omega), if_pos (by omega), e, hL]
      refine ⟨L, ?_, by omega, wide 8 n _ (by omega) (by omega) hj⟩
      refine congrArg some ?_
      unfold wrap64
      omega
theorem len_is (k n : Nat) (hn : n < 18446744073709551616) : ∃ L : Nat, bits_Len64.f (k + 1) (n : Int) = some (L : Int) ∧ L ≤ 64 ∧ ∀ j, (n < 2 ^ j ↔ L ≤ j) := by
  unfold bits_Len64.f
  by_cases a : n ≥ 4294967296
  · obtain ⟨L, hL, h32, hj⟩ := len_low k (n / 4294967296) 32 (by omega) (by omega)
    have e : (n : Int) / 4294967296 = ((n / 4294967296 : Nat) : Int) := by omega
    rw [if_pos (by omega), e, hL]
    refine ⟨L + 32, ?_, by omega, wide 64 n _ (by omega) (by omega) (up 32 4294967296 32 n L rfl (by omega) (fun j _ => hj j))⟩
    refine congrArg some ?_
    omega
  · obtain ⟨L, hL, h32, hj⟩ := len_low k n 0 (by omega) (by omega)
    rw [if_neg (by omega), hL]
    exact ⟨L, congrArg some (by omega), by omega, hj⟩

theorem size_is (k n : Nat) (hn : n < 18446744073709551616) : ∃ s : Nat, coin_Size.f (k + 1) (n : Int) = some (s : Int) ∧ 1 ≤ s ∧ s ≤ 9 ∧ ∀ i, 1 ≤ i → i ≤ 8 → (s ≤ i ↔ n < 2 ^ (7 * i)) := by
  obtain ⟨L, hL, h64, hj⟩ := len_is k n hn
  refine ⟨max 1 (min 9 ((L + 6) / 7)), ?_, by omega, by omega, fun i h1 h8 => ?_⟩
  · unfold coin_Size.f
    rw [hL, Option.bind_some]
    refine congrArg some ?_
    have e : wrap64 (Int.tdiv (wrap64 ((L : Int) + 6)) 7) = (((L + 6) / 7 : Nat) : Int) := by
      have : wrap64 ((L : Int) + 6) = ((L + 6 : Nat) : Int) := by unfold wrap64; omega
      rw [this, Int.tdiv_eq_ediv_of_nonneg (by omega)]
      unfold wrap64
      omega
    rw [e]
    unfold mx mn
    (repeat' split) <;> omega
  · rw [hj]
    omega
def tl (n : Nat) : Nat → List Int
  | 0 => []
  | i + 1 => ((n / 256 ^ i % 256 : Nat) : Int) :: tl n i
def hd1 (s n : Nat) : Int := if s = 9 then 255 else ((256 - 2 ^ (9 - s) + n / 256 ^ (s - 1) : Nat) : Int)
def cb (s n : Nat) : List Int := hd1 s n :: tl n (s - 1)
/-- how many bytes n takes -/
def Takes (s n : Nat) : Prop := 1 ≤ s ∧ s ≤ 9 ∧ ∀ i, 1 ≤ i → i ≤ 8 → (s ≤ i ↔ n < 2 ^ (7 * i))
theorem tl_length (n : Nat) : ∀ i, (tl n i).length = i
  | 0 => rfl
  | i + 1 => by simp [tl, tl_length n i]
theorem shr_is (n i : Nat) (hi : i ≤ 8) : (shr .u64 (n : Int) ((8 * i : Nat) : Int)) % 256 = ((n / 256 ^ i % 256 : Nat) : Int) := by
  unfold shr
  have e : min ((8 * i : Nat) : Int).toNat IntKind.u64.bits = 8 * i := by
    have : IntKind.u64.bits = 64 := rfl
    omega
  have e2 : (2 : Int) ^ (8 * i) = ((256 ^ i : Nat) : Int) := by
    rw [show (256 : Nat) = 2 ^ 8 from rfl, ← Nat.pow_mul]
    simp
  rw [e, e2]
  omega
theorem put_loop (n : Nat) : ∀ i : Nat, i ≤ 8 → ∀ (k : Nat) (acc : List Int), i < k → acc.length + i < 140737488355328 → coin_Put.l0 k acc (n : Int) ((i : Int) - 1) = some (acc ++ tl n i) := by
  intro i
  induction i with
  | zero =>
    intro _ k acc hk _
    obtain ⟨k, rfl⟩ : ∃ m, k = m + 1 := ⟨k - 1, by omega⟩
    rw [coin_Put.l0, if_neg (by omega), tl, List.append_nil]
  | succ i ih =>
    intro hi k acc hk hl
    obtain ⟨k, rfl⟩ : ∃ m, k = m + 1 := ⟨k - 1, by omega⟩
    have e1 : wrap64 (8 * (((i + 1 : Nat) : Int) - 1)) = ((8 * i : Nat) : Int) := by unfold wrap64; omega
    have e2 : wrap64 (((i + 1 : Nat) : Int) - 1 - 1) = (i : Int) - 1 := by unfold wrap64; omega
    rw [coin_Put.l0, if_pos (by omega), e1, e2, if_pos (by omega), if_pos (by omega), shr_is n i (by omega)]
    rw [ih (by omega) k (acc ++ [((n / 256 ^ i % 256 : Nat) : Int)]) (by omega) (by simp; omega), tl, List.append_assoc]
    rfl
theorem lead_all : ((List.range 8).all fun q => (List.range 128).all fun h => (!decide (h < 2 ^ (7 - q))) || decide (bits .or .u8 (shl .u8 255 ((8 - q : Nat) : Int)) (h : Int) = ((256 - 2 ^ (8 - q) + h : Nat) : Int))) = true := by decide +kernel
theorem lead_is (q h : Nat) (hq : q < 8) (hh : h < 2 ^ (7 - q)) : bits .or .u8 (shl .u8 255 ((8 - q : Nat) : Int)) (h : Int) = ((256 - 2 ^ (8 - q) + h : Nat) : Int) := by
  have h7 : 2 ^ (7 - q) ≤ 2 ^ 7 := Nat.pow_le_pow_right (by omega) (by omega)
  have h1 : ((List.range 128).all fun h => (!decide (h < 2 ^ (7 - q))) || decide (bits .or .u8 (shl .u8 255 ((8 - q : Nat) : Int)) (h : Int) = ((256 - 2 ^ (8 - q) + h : Nat) : Int))) = true := List.all_eq_true.1 lead_all q (List.mem_range.2 hq)
  have h2 : ((!decide (h < 2 ^ (7 - q))) || decide (bits .or .u8 (shl .u8 255 ((8 - q : Nat) : Int)) (h : Int) = ((256 - 2 ^ (8 - q) + h : Nat) : Int))) = true := List.all_eq_true.1 h1 h (List.mem_range.2 (by omega))
  rw [decide_eq_true hh, Bool.not_true, Bool.false_or] at h2
  exact of_decide_eq_true h2
theorem high_small (s n : Nat) (h1 : 1 ≤ s) (h8 : s ≤ 8) (hn : n < 2 ^ (7 * s)) : n / 256 ^ (s - 1) < 2 ^ (8 - s) := by
  apply Nat.div_lt_of_lt_mul
  rw [show (256 : Nat) = 2 ^ 8 from rfl, ← Nat.pow_mul, ← Nat.pow_add]
  rwa [show 8 * (s - 1) + (8 - s) = 7 * s by omega]
theorem put_of (k s n : Nat) (p : List Int) (hs : Takes s n) (hz : coin_Size.f (k + 11) (n : Int) = some (s : Int)) (hp : p.length + 9 < 140737488355328) : coin_Put.f (k + 11) p (n : Int) = some (p ++ cb s n) := by
  obtain ⟨h1, h9, hs⟩ := hs
  have e3 : wrap64 ((s : Int) - 2) = ((s - 1 : Nat) : Int) - 1 := by unfold wrap64; omega
  unfold coin_Put.f
  rw [hz, Option.bind_some]
  by_cases h : s = 9
  · rw [if_pos (by omega), if_pos (by omega), coin_Put.j0, e3, put_loop n (s - 1) (by omega) _ _ (by omega) (by simp; omega), List.append_assoc]
    unfold cb hd1
    rw [if_pos h]
    rfl
  · have hn := (hs s h1 (by omega)).1 (Nat.le_refl _)
    have e1 : wrap64 (9 - (s : Int)) = ((8 - (s - 1) : Nat) : Int) := by unfold wrap64; omega
    have e2 : wrap64 (8 * (wrap64 ((s : Int) - 1))) = ((8 * (s - 1) : Nat) : Int) := by unfold wrap64; omega
    have hh := high_small s n h1 (by omega) hn
    have hb : n / 256 ^ (s - 1) < 2 ^ (7 - (s - 1)) := by rwa [show 7 - (s - 1) = 8 - s by omega]
    have h7 : 2 ^ (7 - (s - 1)) ≤ 2 ^ 7 := Nat.pow_le_pow_right (by omega) (by omega)
    rw [if_neg (by omega), e1, e2, if_pos (by omega), if_pos (by omega), if_pos (by omega), shr_is n (s - 1) (by omega), Nat.mod_eq_of_lt (by omega), lead_is (s - 1) _ (by omega) hb, coin_Put.j0, e3, put_loop n (s - 1) (by omega) _ _ (by omega) (by simp; omega), List.append_assoc]
    unfold cb hd1
    rw [if_neg h, show 8 - (s - 1) = 9 - s by omega]
    rfl
theorem put_is (k n : Nat) (hn : n < 18446744073709551616) : ∃ s, Takes s n ∧ coin_Size.f (k + 11) (n : Int) = some (s : Int) ∧ ∀ p : List Int, p.length + 9 < 140737488355328 → coin_Put.f (k + 11) p (n : Int) = some (p ++ cb s n) := by
  obtain ⟨s, hz, h1, h9, hs⟩ := size_is (k + 10) n hn
  exact ⟨s, ⟨h1, h9, hs⟩, hz, fun p hp => put_of k s n p ⟨h1, h9, hs⟩ hz hp⟩
def isBytes (l : List Int) : Prop := ∀ x ∈ l, 0 ≤ x ∧ x < 256
theorem tl_bytes (n : Nat) : ∀ i, isBytes (tl n i)
  | 0 => by intro x hx; simp [tl] at hx
  | i + 1 => by
    intro x hx
    rw [tl, List.mem_cons] at hx
    rcases hx with rfl | hx
    · omega
    · exact tl_bytes n i x hx
theorem hd1_bytes (s n : Nat) (h : Takes s n) : 0 ≤ hd1 s n ∧ hd1 s n < 256 := by
  obtain ⟨h1, h9, hs⟩ := h
  unfold hd1
  by_cases h : s = 9
  · rw [if_pos h]; omega
  · rw [if_neg h]
    have hh := high_small s n h1 (by omega) ((hs s h1 (by omega)).1 (Nat.le_refl _))
    have e : 2 ^ (9 - s) = 2 * 2 ^ (8 - s) := by rw [show 9 - s = (8 - s) + 1 by omega, Nat.pow_succ]; omega
    have h8 : 2 ^ (8 - s) ≤ 2 ^ 7 := Nat.pow_le_pow_right (by omega) (by omega)
    generalize n / 256 ^ (s - 1) = q at hh ⊢
    omega
theorem cb_bytes (s n : Nat) (h : Takes s n) : isBytes (cb s n) := by
  intro x hx
  rw [cb, List.mem_cons] at hx
  rcases hx with rfl | hx
  · exact hd1_bytes s n h
  · exact tl_bytes n _ x hx
theorem awake_any (k : Nat) : milestonelaw03_awake.f (k + 11) = some true := by
  obtain ⟨s, hs, _, hp⟩ := put_is k 300 (by omega)
  have h2 : s = 2 := by
    have a := (hs.2.2 2 (by omega) (by omega)).2 (by omega)
    have b := hs.2.2 1 (by omega) (by omega)
    omega
  subst h2
  have e : cb 2 300 = [129, 44] := by decide +kernel
  unfold milestonelaw03_awake.f
  have hp0 := hp [] (by simp)
  rw [show ((300 : Nat) : Int) = 300 from rfl] at hp0
  rw [hp0, Option.bind_some, List.nil_append, e]
  simp [rd]
theorem str_list (x : List Int) : (strOfNums x).toList = x.map fun n => UInt8.ofNat n.toNat := by
  rw [Lib.strOfNums_toList]
  rfl
theorem wr64 (n : Int) : IntKind.u64.wrap n = n % 18446744073709551616 := by
  simp [IntKind.wrap, IntKind.signed, IntKind.bits]
def lzOk (b : Nat) : Bool :=
  match bits_LeadingZeros8.f (Go.bits .xor .u8 IntKind.u8.max (b : Int)) with
  | some t => decide (0 ≤ t ∧ t ≤ 8) && (decide (t = 8) || (decide (0 ≤ Go.bits .and .u8 (b : Int) (shr .u8 255 (t + 1))) && decide ((Go.bits .and .u8 (b : Int) (shr .u8 255 (t + 1))).toNat < 2 ^ (7 - t.toNat)) && decide (b = 256 - 2 ^ (8 - t.toNat) + (Go.bits .and .u8 (b : Int) (shr .u8 255 (t + 1))).toNat))) && (!decide (t = 8) || decide (b = 255))
  | none => false
theorem lz_all : ((List.range 256).all lzOk) = true := by decide +kernel
theorem lz_is (b : Nat) (hb : b < 256) : ∃ K : Nat, 1 ≤ K ∧ K ≤ 9 ∧ bits_LeadingZeros8.f (Go.bits .xor .u8 IntKind.u8.max (b : Int)) = some ((K : Int) - 1) ∧ (K = 9 → b = 255) ∧
    (K ≤ 8 → ∃ h : Nat, Go.bits .and .u8 (b : Int) (shr .u8 255 (K : Int)) = (h : Int) ∧ h < 2 ^ (8 - K) ∧ b = 256 - 2 ^ (9 - K) + h) := by
  have h : lzOk b = true := List.all_eq_true.1 lz_all b (List.mem_range.2 hb)
  unfold lzOk at h
  cases e : bits_LeadingZeros8.f (Go.bits .xor .u8 IntKind.u8.max (b : Int)) with
  | none => rw [e] at h; simp at h
  | some t =>
    rw [e] at h
    simp only [Bool.and_eq_true, Bool.or_eq_true, decide_eq_true_eq, Bool.not_eq_true', decide_eq_false_iff_not] at h
    obtain ⟨⟨⟨h0, h8⟩, h1⟩, h2⟩ := h
    refine ⟨(t + 1).toNat, by omega, by omega, by refine congrArg some ?_; omega, fun h => ?_, fun h => ?_⟩
    · rcases h2 with h2 | h2
      · omega
      · exact h2
    · rcases h1 with h1 | ⟨⟨h1, h3⟩, h4⟩
      · omega
      · have e1 : (((t + 1).toNat : Nat) : Int) = t + 1 := by omega
        rw [e1]
        refine ⟨(Go.bits .and .u8 (b : Int) (shr .u8 255 (t + 1))).toNat, by omega, ?_, ?_⟩
        · rwa [show 8 - (t + 1).toNat = 7 - t.toNat by omega]
        · rwa [show 9 - (t + 1).toNat = 8 - t.toNat by omega]
/-- bytes as one number, behind v -/
def foldv (v : Nat) : List Int → Nat
  | [] => v
  | b :: q => foldv (v * 256 + b.toNat) q
theorem foldv_lt : ∀ (q : List Int) (v m : Nat), isBytes q → v < m → foldv v q < m * 256 ^ q.length
  | [], v, m, _, h => by simpa [foldv] using h
  | b :: q, v, m, hq, h => by
    have hb := hq b List.mem_cons_self
    have := foldv_lt q (v * 256 + b.toNat) (m * 256) (fun z hz => hq z (List.mem_cons_of_mem _ hz)) (by omega)
    rw [foldv, List.length_cons, Nat.pow_succ]
    rwa [Nat.mul_assoc, Nat.mul_comm 256] at this
theorem tl_foldv : ∀ (q : List Int) (v : Nat), isBytes q → tl (foldv v q) q.length = q ∧ foldv v q / 256 ^ q.length = v
  | [], v, _ => by simp [tl, foldv]
  | b :: q, v, hq => by
    have hb := hq b List.mem_cons_self
    obtain ⟨h1, h2⟩ := tl_foldv q (v * 256 + b.toNat) (fun z hz => hq z (List.mem_cons_of_mem _ hz))
    rw [foldv, List.length_cons, tl, h1, h2, Nat.pow_succ, ← Nat.div_div_eq_div_mul, h2]
    refine ⟨?_, by omega⟩
    have : (((v * 256 + b.toNat) % 256 : Nat) : Int) = b := by omega
    rw [this]
theorem or_join (x : Nat) (b : Int) (hx : x < 72057594037927936) (h0 : 0 ≤ b) (h1 : b < 256) : Go.bits .or .u64 (IntKind.u64.wrap ((x : Int) * 256)) (IntKind.u64.wrap b) = ((x * 256 + b.toNat : Nat) : Int) := by
  have e1 : IntKind.u64.wrap ((x : Int) * 256) = ((x * 256 : Nat) : Int) := by
    rw [wr64]; omega
  have e2 : IntKind.u64.wrap b = ((b.toNat : Nat) : Int) := by
    rw [wr64]; omega
  rw [e1, e2, u64_or_nat _ _ (by omega) (by omega), nat_join 8 (x * 256) b.toNat (by omega) (by omega)]
theorem rd_drop (q : List Int) (i : Nat) (hi : i < q.length) : q.drop i = rd q i :: q.drop (i + 1) := by
  rw [List.drop_eq_getElem_cons hi]
  congr 1
  unfold rd
  simp [List.getD_eq_getElem?_getD, List.getElem?_eq_getElem hi]
theorem get_loop (q : List Int) (hq : isBytes q) (hl : q.length ≤ 8) (K : Int) (d : Nat) : ∀ (i v k : Nat), i + d = q.length → v < 256 ^ (8 - d) → d + 12 < k →
    ∃ s, Takes s (foldv v (q.drop i)) ∧ coin_Get.l0 k K (v : Int) q (q.length : Int) (i : Int) = if (s : Int) = K then some (((foldv v (q.drop i) : Nat) : Int), K, 0) else some (0, 0, 4) := by
  induction d with
  | zero =>
    intro i v k hi hv hk
    obtain ⟨k, rfl⟩ : ∃ m, k = m + 12 := ⟨k - 12, by omega⟩
    have e : q.drop i = [] := List.drop_eq_nil_of_le (by omega)
    obtain ⟨s, hs, hz, _⟩ := put_is k v (by have : 256 ^ (8 - 0) = 18446744073709551616 := rfl; omega)
    refine ⟨s, by rw [e]; exact hs, ?_⟩
    rw [coin_Get.l0, if_neg (by omega), hz, Option.bind_some, e]
    rfl
  | succ d ih =>
    intro i v k hi hv hk
    obtain ⟨k, rfl⟩ : ∃ m, k = m + 1 := ⟨k - 1, by omega⟩
    have hb := hq (rd q i) (by
      have := rd_drop q i (by omega)
      have h : rd q i ∈ q.drop i := by rw [this]; exact List.mem_cons_self
      exact List.mem_of_mem_drop h)
    have hp : 256 ^ (8 - (d + 1)) ≤ 256 ^ 7 := Nat.pow_le_pow_right (by omega) (by omega)
    have hp2 : 256 ^ 7 = 72057594037927936 := rfl
    have e1 : wrap64 ((i : Int) + 1) = ((i + 1 : Nat) : Int) := by unfold wrap64; omega
    have hv' : v * 256 + (rd q i).toNat < 256 ^ (8 - d) := by
      rw [show 8 - d = (8 - (d + 1)) + 1 by omega, Nat.pow_succ]
      omega
    obtain ⟨s, hs, h⟩ := ih (i + 1) (v * 256 + (rd q i).toNat) k (by omega) hv' (by omega)
    refine ⟨s, ?_, ?_⟩
    · rw [rd_drop q i (by omega), foldv]; exact hs
    · rw [coin_Get.l0, if_pos (by omega), if_pos (by omega), if_pos (by omega), or_join v _ (by omega) hb.1 hb.2, e1, h, rd_drop q i (by omega), foldv]
/-- what is ahead of bytes whose first one is b -/
theorem get_is (k : Nat) (b : Nat) (q : List Int) (hb : b < 256) (hq : isBytes q) (hl : q.length < 140737488355328) : ∃ K h : Nat, 1 ≤ K ∧ K ≤ 9 ∧ (K = 9 → b = 255 ∧ h = 0) ∧ (K ≤ 8 → h < 2 ^ (8 - K) ∧ b = 256 - 2 ^ (9 - K) + h) ∧
    ((q.length + 1 < K ∧ coin_Get.f (k + 25) ((b : Int) :: q) = some (0, 0, 5)) ∨
      (K ≤ q.length + 1 ∧ ∃ s, Takes s (foldv h (q.take (K - 1))) ∧ coin_Get.f (k + 25) ((b : Int) :: q) = if s = K then some (((foldv h (q.take (K - 1)) : Nat) : Int), (K : Int), 0) else some (0, 0, 4))) := by
  obtain ⟨K, h1, h9, hz, hk9, hk8⟩ := lz_is b hb
  have r0 : rd ((b : Int) :: q) 0 = (b : Int) := rfl
  have e1 : wrap64 ((K : Int) - 1 + 1) = (K : Int) := by unfold wrap64; omega
  have hlen : ((((b : Int) :: q).length : Nat) : Int) = ((q.length + 1 : Nat) : Int) := rfl
  have tail : ∀ h : Nat, h < 256 ^ (8 - (K - 1)) → K ≤ q.length + 1 → ∃ s, Takes s (foldv h (q.take (K - 1))) ∧ coin_Get.j0 (k + 25) ((b : Int) :: q) (K : Int) (h : Int) = if s = K then some (((foldv h (q.take (K - 1)) : Nat) : Int), (K : Int), 0) else some (0, 0, 4) := by
    intro h hh hK
    have ed : ((((b : Int) :: q).take ((K : Nat) : Int).toNat).drop 1) = q.take (K - 1) := by
      rw [Int.toNat_natCast]
      obtain ⟨K, rfl⟩ : ∃ m, K = m + 1 := ⟨K - 1, by omega⟩
      rfl
    have ll : (q.take (K - 1)).length = K - 1 := by rw [List.length_take]; omega
    obtain ⟨s, hs, h2⟩ := get_loop (q.take (K - 1)) (fun z hz => hq z (List.mem_of_mem_take hz)) (by omega) (K : Int) (K - 1) 0 h (k + 24) (by omega) hh (by omega)
    refine ⟨s, by simpa using hs, ?_⟩
    have h2' : coin_Get.l0 (k + 24) (K : Int) (h : Int) (q.take (K - 1)) ((q.take (K - 1)).length : Int) 0 = if (s : Int) = (K : Int) then some (((foldv h ((q.take (K - 1)).drop 0) : Nat) : Int), (K : Int), 0) else some (0, 0, 4) := h2
    rw [coin_Get.j0, if_pos (by omega), if_pos (by omega), ed, h2', List.drop_zero]
    by_cases e : s = K
    · rw [if_pos (by omega), if_pos e]
    · rw [if_neg (by omega), if_neg e]
  by_cases h8 : K ≤ 8
  · obtain ⟨h, he, hh, hbe⟩ := hk8 h8
    refine ⟨K, h, h1, h9, fun e => by omega, fun _ => ⟨hh, hbe⟩, ?_⟩
    by_cases hK : q.length + 1 < K
    · refine .inl ⟨hK, ?_⟩
      unfold coin_Get.f
      rw [if_neg (by omega), if_pos (by omega), r0, hz, Option.bind_some, e1, if_pos (by omega)]
    · refine .inr ⟨by omega, ?_⟩
      have hh2 : h < 256 ^ (8 - (K - 1)) := by
        have a : 2 ^ (8 - K) ≤ 2 ^ (8 * (8 - (K - 1))) := Nat.pow_le_pow_right (by omega) (by omega)
        rw [show (256 : Nat) = 2 ^ 8 from rfl, ← Nat.pow_mul]
        omega
      have hh3 : 2 ^ (8 - K) ≤ 2 ^ 8 := Nat.pow_le_pow_right (by omega) (by omega)
      obtain ⟨s, hs, h2⟩ := tail h hh2 (by omega)
      refine ⟨s, hs, ?_⟩
      unfold coin_Get.f
      rw [if_neg (by omega), if_pos (by omega), r0, hz, Option.bind_some, e1, if_neg (by omega), if_pos (by omega), if_pos (by omega), he, wr64, show ((h : Int) % 18446744073709551616) = (h : Int) by omega, h2]
  · have hK9 : K = 9 := by omega
    refine ⟨K, 0, h1, h9, fun e => ⟨hk9 e, rfl⟩, fun e => by omega, ?_⟩
    by_cases hK : q.length + 1 < K
    · refine .inl ⟨hK, ?_⟩
      unfold coin_Get.f
      rw [if_neg (by omega), if_pos (by omega), r0, hz, Option.bind_some, e1, if_pos (by omega)]
    · refine .inr ⟨by omega, ?_⟩
      obtain ⟨s, hs, h2⟩ := tail 0 (Nat.pow_pos (by omega)) (by omega)
      refine ⟨s, hs, ?_⟩
      unfold coin_Get.f
      rw [if_neg (by omega), if_pos (by omega), r0, hz, Option.bind_some, e1, if_neg (by omega), if_neg (by omega)]
      exact h2
theorem refbits_loop (d : Nat) : ∀ (n k : Nat) (c : Nat), n < 2 ^ d → d < k → c + d ≤ 1000 → d ≤ 64 → ∃ L : Nat, milestoneref01_bits.l0 k (n : Int) (c : Int) = some ((c + L : Nat) : Int) ∧ L ≤ d ∧ ∀ j, (n < 2 ^ j ↔ L ≤ j) := by
  induction d with
  | zero =>
    intro n k c hn hk _ _
    obtain ⟨k, rfl⟩ : ∃ m, k = m + 1 := ⟨k - 1, by omega⟩
    have h0 : n = 0 := by omega
    subst h0
    refine ⟨0, ?_, by omega, fun j => ?_⟩
    · rw [milestoneref01_bits.l0, if_neg (by omega)]; rfl
    · have := Nat.two_pow_pos j
      omega
  | succ d ih =>
    intro n k c hn hk hc h64
    obtain ⟨k, rfl⟩ : ∃ m, k = m + 1 := ⟨k - 1, by omega⟩
    have hp : 2 ^ (d + 1) ≤ 2 ^ 64 := Nat.pow_le_pow_right (by omega) (by omega)
    by_cases h0 : n = 0
    · subst h0
      refine ⟨0, ?_, by omega, fun j => ?_⟩
      · rw [milestoneref01_bits.l0, if_neg (by omega)]; rfl
      · have := Nat.two_pow_pos j
        omega
    · obtain ⟨L, hL, hd, hj⟩ := ih (n / 2) k (c + 1) (by rw [Nat.pow_succ] at hn; omega) (by omega) (by omega) (by omega)
      have e1 : IntKind.u64.wrap (Int.tdiv (n : Int) 2) = ((n / 2 : Nat) : Int) := by
        rw [Int.tdiv_eq_ediv_of_nonneg (by omega), wr64]; omega
      have e2 : wrap64 ((c : Int) + 1) = ((c + 1 : Nat) : Int) := by unfold wrap64; omega
      refine ⟨L + 1, ?_, by omega, fun j => ?_⟩
      · rw [milestoneref01_bits.l0, if_pos (by omega), e1, e2, hL]
        refine congrArg some ?_
        omega
      · cases j with
        | zero => omega
        | succ j =>
          have := hj j
          rw [Nat.pow_succ]
          omega
theorem refbits_is (n k : Nat) (hn : n < 18446744073709551616) (hk : 64 < k) : ∃ L : Nat, milestoneref01_bits.f k (n : Int) = some (L : Int) ∧ L ≤ 64 ∧ ∀ j, (n < 2 ^ j ↔ L ≤ j) := by
  obtain ⟨L, hL, h⟩ := refbits_loop 64 n k 0 (by have : 2 ^ 64 = 18446744073709551616 := rfl; omega) hk (by omega) (by omega)
  refine ⟨L, ?_, h⟩
  unfold milestoneref01_bits.f
  rw [show (0 : Int) = ((0 : Nat) : Int) from rfl, hL]
  refine congrArg some ?_
  omega
theorem ref_up (s n : Nat) (hs : Takes s n) (hn : n < 18446744073709551616) (d : Nat) : ∀ (i k : Nat), 1 ≤ i → i + d = s → milestoneref01_Coin.l0 (k + 66 + d + 1) (n : Int) (i : Int) = milestoneref01_Coin.j1 (k + 66) (n : Int) (s : Int) := by
  obtain ⟨h1, h9, hs⟩ := hs
  induction d with
  | zero =>
    intro i k hi hd
    have e : i = s := by omega
    subst e
    rw [milestoneref01_Coin.l0]
    by_cases h : i < 9
    · obtain ⟨L, hL, hl, hj⟩ := refbits_is n (k + 66 + 0) hn (by omega)
      have e7 : wrap64 (7 * (i : Int)) = ((7 * i : Nat) : Int) := by unfold wrap64; omega
      have := (hj (7 * i)).1 ((hs i h1 (by omega)).1 (Nat.le_refl _))
      rw [if_pos (by omega), hL, Option.bind_some, e7, if_neg (by omega)]
    · rw [if_neg (by omega)]
  | succ d ih =>
    intro i k hi hd
    obtain ⟨L, hL, hl, hj⟩ := refbits_is n (k + 66 + (d + 1)) hn (by omega)
    have e7 : wrap64 (7 * (i : Int)) = ((7 * i : Nat) : Int) := by unfold wrap64; omega
    have e1 : wrap64 ((i : Int) + 1) = ((i + 1 : Nat) : Int) := by unfold wrap64; omega
    have h3 : ¬ n < 2 ^ (7 * i) := fun h => by have := (hs i hi (by omega)).2 h; omega
    have := hj (7 * i)
    rw [milestoneref01_Coin.l0, if_pos (by omega), hL, Option.bind_some, e7, if_pos (by omega), e1]
    exact ih (i + 1) k (by omega) (by omega)
theorem ref_nine (n : Nat) : ∀ i : Nat, i ≤ 8 → ∀ (k : Nat) (acc : List Int), i < k → acc.length + i < 140737488355328 → milestoneref01_Coin.l1 k (n : Int) acc ((i : Int) - 1) = some (acc ++ tl n i) := by
  intro i
  induction i with
  | zero =>
    intro _ k acc hk _
    obtain ⟨k, rfl⟩ : ∃ m, k = m + 1 := ⟨k - 1, by omega⟩
    rw [milestoneref01_Coin.l1, if_neg (by omega), tl, List.append_nil]
  | succ i ih =>
    intro hi k acc hk hl
    obtain ⟨k, rfl⟩ : ∃ m, k = m + 1 := ⟨k - 1, by omega⟩
    have e1 : wrap64 (8 * (((i + 1 : Nat) : Int) - 1)) = ((8 * i : Nat) : Int) := by unfold wrap64; omega
    have e2 : wrap64 (((i + 1 : Nat) : Int) - 1 - 1) = (i : Int) - 1 := by unfold wrap64; omega
    rw [milestoneref01_Coin.l1, if_pos (by omega), e1, e2, if_pos (by omega), if_pos (by omega), shr_is n i (by omega)]
    rw [ih (by omega) k (acc ++ [((n / 256 ^ i % 256 : Nat) : Int)]) (by omega) (by simp; omega), tl, List.append_assoc]
    rfl
theorem tl_last (n : Nat) : ∀ i, tl n (i + 1) = tl (n / 256) i ++ [((n % 256 : Nat) : Int)]
  | 0 => by simp [tl]
  | i + 1 => by
    rw [tl, tl_last n i, tl, Nat.div_div_eq_div_mul, Nat.pow_succ, Nat.mul_comm]
    rfl
theorem ref_fill (s : Nat) (hs : s ≤ 8) : ∀ (i m k : Nat) (out : List Int), i ≤ s → out.length = s → m < 18446744073709551616 → milestoneref01_Coin.l2 (k + i + 1) (m : Int) (s : Int) out ((i : Int) - 1) = milestoneref01_Coin.l3 k (s : Int) (tl m i ++ out.drop i) 128 1 := by
  intro i
  induction i with
  | zero =>
    intro m k out _ _ _
    rw [milestoneref01_Coin.l2, if_neg (by omega), tl, List.nil_append, List.drop_zero]
  | succ i ih =>
    intro m k out hi hl hm
    have e1 : IntKind.u64.wrap (Int.tdiv (m : Int) 256) = ((m / 256 : Nat) : Int) := by
      rw [Int.tdiv_eq_ediv_of_nonneg (by omega), wr64]; omega
    have e2 : wrap64 (((i + 1 : Nat) : Int) - 1 - 1) = (i : Int) - 1 := by unfold wrap64; omega
    have e3 : (Int.tmod (m : Int) 256) % 256 = ((m % 256 : Nat) : Int) := by
      rw [Int.tmod_eq_emod_of_nonneg (by omega)]; omega
    have e4 : (((i + 1 : Nat) : Int) - 1).toNat = i := by omega
    rw [show k + (i + 1) + 1 = (k + i + 1) + 1 by omega, milestoneref01_Coin.l2, if_pos (by omega), if_pos (by omega), if_pos (by omega), e1, e2, e3, e4, ih (m / 256) k _ (by omega) (by rw [List.length_set]; exact hl) (by omega), tl_last, List.append_assoc]
    congr 2
    rw [List.drop_eq_getElem_cons (by rw [List.length_set]; omega), List.getElem_set_self]
    have : (out.set i ((m % 256 : Nat) : Int)).drop (i + 1) = out.drop (i + 1) := by
      rw [List.drop_set_of_lt (by omega)]
    rw [this]
    rfl
theorem ref_lead (s : Nat) (hs : s ≤ 8) (rest : List Int) (d : Nat) : ∀ (j k h : Nat), 1 ≤ j → j + d = s → h + (2 ^ (9 - j) - 2 ^ (9 - s)) < 256 →
    milestoneref01_Coin.l3 (k + d + 1) (s : Int) ((h : Int) :: rest) ((2 ^ (8 - j) : Nat) : Int) (j : Int) = some (((h + (2 ^ (9 - j) - 2 ^ (9 - s)) : Nat) : Int) :: rest) := by
  induction d with
  | zero =>
    intro j k h hj hd hh
    have e : j = s := by omega
    subst e
    rw [milestoneref01_Coin.l3, if_neg (by omega), Nat.sub_self, Nat.add_zero]
  | succ d ih =>
    intro j k h hj hd hh
    have hjs : (j : Int) < (s : Int) := by omega
    have hkd : k + (d + 1) + 1 = (k + d + 1) + 1 := by omega
    have hjd : j + 1 + d = s := by omega
    have p1 : 2 ^ (9 - j) = 2 * 2 ^ (8 - j) := by rw [show 9 - j = (8 - j) + 1 by omega, Nat.pow_succ]; omega
    have p2 : 2 ^ (9 - s) ≤ 2 ^ (8 - j) := Nat.pow_le_pow_right (by omega) (by omega)
    have p3 : 2 ^ (8 - j) = 2 * 2 ^ (8 - (j + 1)) := by rw [show 8 - j = (8 - (j + 1)) + 1 by omega, Nat.pow_succ]; omega
    have p4 : 9 - (j + 1) = 8 - j := by omega
    have p5 : 2 ^ (8 - j) ≤ 2 ^ 8 := Nat.pow_le_pow_right (by omega) (by omega)
    have hb : h + 2 ^ (8 - j) < 256 := by
      clear ih
      omega
    have e3 : ((h : Int) + ((2 ^ (8 - j) : Nat) : Int)) % 256 = ((h + 2 ^ (8 - j) : Nat) : Int) := by
      clear ih hh p1 p2 p3 p5
      generalize 2 ^ (8 - j) = z at hb ⊢
      omega
    have e1 : wrap64 ((j : Int) + 1) = ((j + 1 : Nat) : Int) := by unfold wrap64; omega
    have e2 : wrap64 (Int.tdiv ((2 ^ (8 - j) : Nat) : Int) 2) = ((2 ^ (8 - (j + 1)) : Nat) : Int) := by
      rw [Int.tdiv_eq_ediv_of_nonneg (by omega)]
      unfold wrap64
      omega
    have r0 : rd ((h : Int) :: rest) 0 = (h : Int) := rfl
    have hl : (((((h : Int) :: rest).length : Nat)) : Int) = ((rest.length + 1 : Nat) : Int) := rfl
    have hl0 : (0 : Int) < (((((h : Int) :: rest).length : Nat)) : Int) := by rw [hl]; omega
    have hset : ((h : Int) :: rest).set (0 : Int).toNat ((h + 2 ^ (8 - j) : Nat) : Int) = ((h + 2 ^ (8 - j) : Nat) : Int) :: rest := rfl
    have hlast : h + 2 ^ (8 - j) + (2 ^ (8 - j) - 2 ^ (9 - s)) = h + (2 ^ (9 - j) - 2 ^ (9 - s)) := by
      clear ih e1 e2 e3 hset r0 hl hl0
      omega
    have hlt : h + 2 ^ (8 - j) + (2 ^ (9 - (j + 1)) - 2 ^ (9 - s)) < 256 := by
      rw [p4, hlast]; exact hh
    have key := ih (j + 1) k (h + 2 ^ (8 - j)) (Nat.le_add_left 1 j) hjd hlt
    rw [hkd, milestoneref01_Coin.l3, if_pos hjs, if_pos hl0, r0, e1, e2, e3, hset, key, p4, hlast]
theorem coin_is (k s n : Nat) (hs : Takes s n) (hn : n < 18446744073709551616) : milestoneref01_Coin.f (k + 90) (n : Int) = some (cb s n) := by
  obtain ⟨h1, h9, hs'⟩ := hs
  unfold milestoneref01_Coin.f
  rw [show k + 90 = (k + 23 - (s - 1)) + 66 + (s - 1) + 1 by omega, show (1 : Int) = ((1 : Nat) : Int) from rfl, ref_up s n ⟨h1, h9, hs'⟩ hn (s - 1) 1 _ (by omega) (by omega)]
  by_cases h : s = 9
  · rw [show k + 23 - (s - 1) + 66 = (k + 80) + 1 by omega, milestoneref01_Coin.j1, if_pos (by omega), show (7 : Int) = ((8 : Nat) : Int) - 1 from rfl, ref_nine n 8 (by omega) _ _ (by omega) (by simp)]
    unfold cb hd1
    rw [if_pos h, h]
    rfl
  · have hh := high_small s n h1 (by omega) ((hs' s h1 (by omega)).1 (Nat.le_refl _))
    have e1 : wrap64 ((s : Int) - 1) = (s : Int) - 1 := by unfold wrap64; omega
    have p1 : 2 ^ (9 - s) = 2 * 2 ^ (8 - s) := by rw [show 9 - s = (8 - s) + 1 by omega, Nat.pow_succ]; omega
    have p2 : 2 ^ (8 - s) ≤ 2 ^ 7 := Nat.pow_le_pow_right (by omega) (by omega)
    have p3 : 0 < 2 ^ (8 - s) := Nat.two_pow_pos _
    have et : tl n s = ((n / 256 ^ (s - 1) : Nat) : Int) :: tl n (s - 1) := by
      obtain ⟨s, rfl⟩ : ∃ m, s = m + 1 := ⟨s - 1, by omega⟩
      rw [tl, Nat.add_sub_cancel] at *
      rw [Nat.mod_eq_of_lt (by omega)]
    obtain ⟨K, hK⟩ : ∃ K, k + 23 - (s - 1) + 66 = (K + (s - 1) + 1) + s + 1 + 1 := ⟨k + 23 - (s - 1) + 66 - (2 * s + 2), by omega⟩
    rw [hK, milestoneref01_Coin.j1, if_neg (by omega), if_pos (by omega), if_pos (by omega), e1, Int.toNat_natCast, ref_fill s (by omega) s n _ _ (by omega) (by simp) hn, List.drop_eq_nil_of_le (by simp), List.append_nil, et]
    have := ref_lead s (by omega) (tl n (s - 1)) (s - 1) 1 K (n / 256 ^ (s - 1)) (by omega) (by omega) (by have : 2 ^ (9 - 1) = 256 := rfl; omega)
    rw [show ((2 ^ (8 - 1) : Nat) : Int) = 128 from rfl, show ((1 : Nat) : Int) = 1 from rfl] at this
    rw [this]
    unfold cb hd1
    rw [if_neg h]
    refine congrArg some (congrArg (· :: _) ?_)
    have : 2 ^ (9 - 1) = 256 := rfl
    omega
theorem rd_byte (q : List Int) (hq : isBytes q) (i : Nat) (hi : i < q.length) : 0 ≤ rd q i ∧ rd q i < 256 := by
  have := rd_drop q i hi
  have h : rd q i ∈ q.drop i := by rw [this]; exact List.mem_cons_self
  exact hq _ (List.mem_of_mem_drop h)
theorem cb_length (s n : Nat) (h : Takes s n) : (cb s n).length = s := by
  unfold cb
  rw [List.length_cons, tl_length]
  have := h.1
  omega
/-- of any bytes: the number ahead, or none -/
theorem get_any (k : Nat) (b : List Int) (hb : isBytes b) (hl : b.length < 1000000) :
    (∃ (s n : Nat) (rest : List Int), Takes s n ∧ n < 18446744073709551616 ∧ b = cb s n ++ rest ∧ coin_Get.f (k + 25) b = some ((n : Int), (s : Int), 0)) ∨
    (∃ e : Int, (e = 4 ∨ e = 5) ∧ coin_Get.f (k + 25) b = some (0, 0, e)) := by
  match b, hb, hl with
  | [], _, _ =>
    refine .inr ⟨5, .inr rfl, ?_⟩
    unfold coin_Get.f
    rw [if_pos (by simp)]
  | x :: q, hb, hl =>
    have hx := hb x List.mem_cons_self
    have hq : isBytes q := fun z hz => hb z (List.mem_cons_of_mem _ hz)
    obtain ⟨c, rfl⟩ := Int.eq_ofNat_of_zero_le hx.1
    have hl' : q.length < 1000000 := by simp at hl; omega
    obtain ⟨K, h, h1, h9, hk9, hk8, hcase⟩ := get_is k c q (by omega) hq (by omega)
    rcases hcase with ⟨hs, hg⟩ | ⟨hle, s, hT, hg⟩
    · exact .inr ⟨5, .inr rfl, hg⟩
    · by_cases hsK : s = K
      · subst hsK
        rw [if_pos rfl] at hg
        have hql : (q.take (s - 1)).length = s - 1 := by rw [List.length_take]; omega
        have hqb : isBytes (q.take (s - 1)) := fun z hz => hq z (List.mem_of_mem_take hz)
        have htl := tl_foldv (q.take (s - 1)) h hqb
        rw [hql] at htl
        refine .inl ⟨s, foldv h (q.take (s - 1)), q.drop (s - 1), hT, ?_, ?_, hg⟩
        · by_cases hs9 : s = 9
          · obtain ⟨_, h0⟩ := hk9 hs9
            have := foldv_lt (q.take (s - 1)) h 1 hqb (by omega)
            rw [hql, hs9] at this
            subst hs9
            omega
          · obtain ⟨hh, _⟩ := hk8 (by omega)
            have := foldv_lt (q.take (s - 1)) h (2 ^ (8 - s)) hqb hh
            rw [hql] at this
            have e : 2 ^ (8 - s) * 256 ^ (s - 1) ≤ 2 ^ 64 := by
              rw [show (256 : Nat) = 2 ^ 8 from rfl, ← Nat.pow_mul, ← Nat.pow_add]
              exact Nat.pow_le_pow_right (by omega) (by omega)
            exact Nat.lt_of_lt_of_le this e
        · unfold cb
          rw [htl.1, List.cons_append, List.take_append_drop]
          refine congrArg (fun z => z :: q) ?_
          unfold hd1
          by_cases hs9 : s = 9
          · rw [if_pos hs9, (hk9 hs9).1]; rfl
          · rw [if_neg hs9, htl.2, ← (hk8 (by omega)).2]
      · rw [if_neg hsK] at hg
        exact .inr ⟨4, .inl rfl, hg⟩
def leadOk (c K : Nat) : Bool := (List.range 9).all fun i => !(decide (1 ≤ i) && decide (i < K)) || decide (128 ≤ (c * 2 ^ (i - 1)) % 256)
def leadAll : Bool := (List.range 256).all fun c => (List.range 9).all fun K =>
  !(decide (1 ≤ K) && decide (256 - 2 ^ (9 - K) ≤ c) && decide (c < 256 - 2 ^ (9 - K) + 2 ^ (8 - K))) || (leadOk c K && decide ((c * 2 ^ (K - 1)) % 256 < 128))
theorem lead_all2 : leadAll = true := by decide +kernel
theorem lead_255 : leadOk 255 9 = true := by decide +kernel
theorem lead_use (c K : Nat) (hc : c < 256) (h1 : 1 ≤ K) (h9 : K ≤ 9) (hk9 : K = 9 → c = 255) (hk8 : K ≤ 8 → ∃ h, h < 2 ^ (8 - K) ∧ c = 256 - 2 ^ (9 - K) + h) :
    (∀ i, 1 ≤ i → i < K → 128 ≤ (c * 2 ^ (i - 1)) % 256) ∧ (K < 9 → (c * 2 ^ (K - 1)) % 256 < 128) := by
  have use : leadOk c K = true → ∀ i, 1 ≤ i → i < K → 128 ≤ (c * 2 ^ (i - 1)) % 256 := by
    intro h i hi hik
    have := List.all_eq_true.1 h i (List.mem_range.2 (by omega))
    rw [decide_eq_true hi, decide_eq_true hik] at this
    exact of_decide_eq_true (by simpa using this)
  by_cases h : K = 9
  · subst h
    rw [hk9 rfl] at use ⊢
    exact ⟨use lead_255, fun hx => absurd hx (by omega)⟩
  · obtain ⟨g, hg, hcg⟩ := hk8 (by omega)
    have h2 := List.all_eq_true.1 (List.all_eq_true.1 lead_all2 c (List.mem_range.2 hc)) K (List.mem_range.2 (by omega))
    rw [decide_eq_true h1, decide_eq_true (show 256 - 2 ^ (9 - K) ≤ c by omega), decide_eq_true (show c < 256 - 2 ^ (9 - K) + 2 ^ (8 - K) by omega)] at h2
    simp only [Bool.and_true, Bool.not_true, Bool.false_or, Bool.and_eq_true, decide_eq_true_eq] at h2
    exact ⟨use h2.1, fun _ => h2.2⟩
theorem wrN (n : Nat) (h : n < 100000000) : wrap64 ((n : Int) + 1) = ((n + 1 : Nat) : Int) := by unfold wrap64; omega
theorem take_lead (x0 : List Int) (c K : Nat) (h9 : K ≤ 9) (H1 : ∀ i, 1 ≤ i → i < K → 128 ≤ (c * 2 ^ (i - 1)) % 256) (H2 : K < 9 → (c * 2 ^ (K - 1)) % 256 < 128) (k d : Nat) : ∀ i, 1 ≤ i → i + d = K →
    milestoneref01_Take.l0 (k + d + 1) x0 (i : Int) (((c * 2 ^ (i - 1)) % 256 : Nat) : Int) = milestoneref01_Take.j1 k x0 (K : Int) := by
  induction d with
  | zero =>
    intro i h1 hi
    have : i = K := by omega
    subst this
    rw [milestoneref01_Take.l0]
    by_cases h : i = 9
    · rw [if_neg (by omega)]
    · have := H2 (by omega)
      rw [if_pos (by omega), if_neg (by omega)]
  | succ d ih =>
    intro i h1 hi
    have hb := H1 i h1 (by omega)
    have e : ((((c * 2 ^ (i - 1)) % 256 : Nat) : Int) * 2) % 256 = (((c * 2 ^ (i + 1 - 1)) % 256 : Nat) : Int) := by
      obtain ⟨j, rfl⟩ : ∃ j, i = j + 1 := ⟨i - 1, by omega⟩
      rw [show j + 1 + 1 - 1 = j + 1 from rfl, show j + 1 - 1 = j from rfl, Nat.pow_succ, ← Nat.mul_assoc]
      generalize c * 2 ^ j = y
      omega
    rw [show k + (d + 1) + 1 = (k + d + 1) + 1 from rfl, milestoneref01_Take.l0, if_pos (by omega), if_pos (by omega), wrN i (by omega), e]
    exact ih (i + 1) (by omega) (by omega)
theorem take_strip (x0 : List Int) (c K : Nat) (hc : c < 256) (h1 : 1 ≤ K) (h9 : K ≤ 9) (hlo : 256 - 2 ^ (9 - K) ≤ c) (k d : Nat) : ∀ i, 1 ≤ i → i + d = K →
    milestoneref01_Take.l1 (k + d + 1) x0 (K : Int) ((c - (256 - 2 ^ (9 - i)) : Nat) : Int) ((2 ^ (8 - i) / (if i = 9 then 2 else 1) : Nat) : Int) (i : Int) = milestoneref01_Take.j3 k x0 (K : Int) ((c - (256 - 2 ^ (9 - K)) : Nat) : Int) := by
  induction d with
  | zero =>
    intro i hi1 hi
    have : i = K := by omega
    subst this
    rw [milestoneref01_Take.l1, if_neg (by omega)]
  | succ d ih =>
    intro i hi1 hi
    have hp : 0 < 2 ^ (8 - i) := Nat.two_pow_pos _
    have p1 : 2 ^ (9 - i) = 2 * 2 ^ (8 - i) := by rw [show 9 - i = (8 - i) + 1 by omega, Nat.pow_succ]; omega
    have p2 : 2 ^ (9 - K) ≤ 2 ^ (8 - i) := Nat.pow_le_pow_right (by omega) (by omega)
    have p3 : 2 ^ (8 - i) ≤ 128 := Nat.pow_le_pow_right (n := 2) (by omega) (show 8 - i ≤ 7 by omega)
    have p4 : 2 ^ (9 - (i + 1)) = 2 ^ (8 - i) := by rw [show 9 - (i + 1) = 8 - i by omega]
    have p5 : 2 ^ (8 - i) / 2 = 2 ^ (8 - (i + 1)) / (if i + 1 = 9 then 2 else 1) := by
      by_cases h : i = 8
      · subst h; rfl
      · rw [if_neg (by omega), Nat.div_one, show 8 - i = 8 - (i + 1) + 1 by omega, Nat.pow_succ]
        omega
    have e0 : (2 ^ (8 - i) / (if i = 9 then 2 else 1) : Nat) = 2 ^ (8 - i) := by rw [if_neg (by omega), Nat.div_one]
    rw [e0]
    have e1 : IntKind.u64.wrap (((c - (256 - 2 ^ (9 - i)) : Nat) : Int) - ((2 ^ (8 - i) : Nat) : Int)) = ((c - (256 - 2 ^ (9 - (i + 1))) : Nat) : Int) := by
      rw [wr64, p4, p1] at *
      generalize 2 ^ (8 - i) = x at *
      generalize 2 ^ (9 - K) = y at *
      omega
    have e2 : IntKind.u64.wrap (Int.tdiv ((2 ^ (8 - i) : Nat) : Int) 2) = ((2 ^ (8 - (i + 1)) / (if i + 1 = 9 then 2 else 1) : Nat) : Int) := by
      rw [← p5, show Int.tdiv ((2 ^ (8 - i) : Nat) : Int) 2 = ((2 ^ (8 - i) / 2 : Nat) : Int) from rfl, wr64]
      generalize 2 ^ (8 - i) = x at p3
      omega
    rw [show k + (d + 1) + 1 = (k + d + 1) + 1 from rfl, milestoneref01_Take.l1, if_pos (by omega), if_pos (by exact Int.ofNat_lt.2 hp), e1, e2, wrN i (by omega)]
    exact ih (i + 1) (by omega) (by omega)
theorem take_rd (q : List Int) (j : Nat) (h : j < q.length) : q.take (j + 1) = q.take j ++ [rd q (j : Nat)] := by
  rw [List.take_add, rd_drop q j h]
  rfl
theorem foldv_append (q r : List Int) : ∀ v, foldv v (q ++ r) = foldv (foldv v q) r := by
  induction q with
  | nil => intro v; rfl
  | cons x q ih => intro v; rw [List.cons_append, foldv, foldv, ih]
theorem bytes_toList (a b : List Int) (ha : isBytes a) (hb : isBytes b) : (strOfNums a).toList = (strOfNums b).toList ↔ a = b := by
  rw [str_list, str_list]
  constructor
  · intro h
    have h2 := congrArg (List.map fun z : UInt8 => (z.toNat : Int)) h
    rw [List.map_map, List.map_map] at h2
    have id_ : ∀ l : List Int, isBytes l → l.map ((fun z : UInt8 => (z.toNat : Int)) ∘ fun n : Int => UInt8.ofNat n.toNat) = l := by
      intro l hl
      refine (List.map_congr_left (g := id) fun n hn => ?_).trans (List.map_id l)
      have := hl n hn
      show ((UInt8.ofNat n.toNat).toNat : Int) = n
      rw [UInt8.toNat_ofNat']
      omega
    rwa [id_ a ha, id_ b hb] at h2
  · rintro rfl; rfl
/-- the bytes behind the first one -/
theorem take_fold (x : Int) (q : List Int) (hq : isBytes q) (hql : q.length < 1000000) (K : Nat) (h1 : 1 ≤ K) (h9 : K ≤ 9) (hK : K ≤ q.length + 1) (h : Nat) (hh : h < 2 ^ (64 - 8 * (K - 1))) (k s : Nat) (d : Nat) : ∀ (i : Nat), 1 ≤ i → i + d = K →
    milestoneref01_Take.l2 (k + d + 1) (x :: q) (K : Int) ((foldv h (q.take (i - 1)) : Nat) : Int) (i : Int) = milestoneref01_Take.l2 (k + 1) (x :: q) (K : Int) ((foldv h (q.take (K - 1)) : Nat) : Int) (K : Int) := by
  induction d with
  | zero =>
    intro i hi1 hi
    have : i = K := by omega
    subst this
    rfl
  | succ d ih =>
    intro i hi1 hi
    obtain ⟨j, rfl⟩ : ∃ j, i = j + 1 := ⟨i - 1, by omega⟩
    have hj : j < q.length := by omega
    have hlt : foldv h (q.take (j + 1)) < 18446744073709551616 := by
      have := foldv_lt (q.take (j + 1)) h (2 ^ (64 - 8 * (K - 1))) (fun z hz => hq z (List.mem_of_mem_take hz)) hh
      rw [List.length_take, Nat.min_eq_left (by omega)] at this
      refine Nat.lt_of_lt_of_le this ?_
      rw [show (256 : Nat) = 2 ^ 8 from rfl, ← Nat.pow_mul, ← Nat.pow_add, show (18446744073709551616 : Nat) = 2 ^ 64 from rfl]
      exact Nat.pow_le_pow_right (by omega) (by omega)
    have hrd : rd (x :: q) ((j + 1 : Nat) : Int) = rd q (j : Nat) := rfl
    have hb := rd_byte q hq j hj
    have htk : q.take (j + 1) = q.take j ++ [rd q (j : Nat)] := take_rd q j hj
    have hf : foldv h (q.take (j + 1)) = foldv h (q.take j) * 256 + (rd q (j : Nat)).toNat := by rw [htk, foldv_append]; rfl
    have hw : IntKind.u64.wrap (IntKind.u64.wrap (((foldv h (q.take (j + 1 - 1)) : Nat) : Int) * 256) + IntKind.u64.wrap (rd q (j : Nat))) = ((foldv h (q.take (j + 1)) : Nat) : Int) := by
      rw [wr64, wr64, wr64, show j + 1 - 1 = j from rfl]
      rw [hf] at hlt ⊢
      omega
    rw [show k + (d + 1) + 1 = (k + d + 1) + 1 from rfl, milestoneref01_Take.l2, if_pos (by omega), if_pos (by omega), if_pos (by rw [List.length_cons]; omega), hrd, hw, wrN (j + 1) (by omega)]
    exact ih (j + 2) (by omega) (by omega)
theorem take_any (k : Nat) (b : List Int) (hb : isBytes b) (hl : b.length < 1000000) :
    ∃ r, coin_Get.f (k + 25) b = some r ∧ milestoneref01_Take.f (k + 150) b = some r := by
  match b, hb, hl with
  | [], _, _ =>
    refine ⟨(0, 0, 5), ?_, ?_⟩
    · unfold coin_Get.f; rw [if_pos (by simp)]
    · unfold milestoneref01_Take.f; rw [if_pos (by simp)]
  | x :: q, hb, hl =>
    have hx := hb x List.mem_cons_self
    have hq : isBytes q := fun z hz => hb z (List.mem_cons_of_mem _ hz)
    obtain ⟨c, rfl⟩ := Int.eq_ofNat_of_zero_le hx.1
    have hl' : q.length < 1000000 := by simp at hl; omega
    have hc : c < 256 := by omega
    obtain ⟨K, h, h1, h9, hk9, hk8, hcase⟩ := get_is k c q hc hq (by omega)
    have hlead := lead_use c K hc h1 h9 (fun e => (hk9 e).1) (fun e => ⟨h, hk8 e⟩)
    have hlen : (((c : Int) :: q).length : Int) = ((q.length + 1 : Nat) : Int) := rfl
    have start_1 : milestoneref01_Take.f (k + 150) ((c : Int) :: q) = milestoneref01_Take.j1 (k + 149 - (K - 1)) ((c : Int) :: q) (K : Int) := by
      unfold milestoneref01_Take.f
      rw [hlen, if_neg (by omega), if_pos (by omega)]
      have := take_lead ((c : Int) :: q) c K h9 hlead.1 hlead.2 (k + 149 - (K - 1)) (K - 1) 1 (Nat.le_refl _) (by omega)
      rw [show k + 149 - (K - 1) + (K - 1) + 1 = k + 150 by omega, show (c * 2 ^ (1 - 1)) % 256 = c by simp; omega] at this
      exact this
    obtain ⟨z, hz⟩ : ∃ z, k + 149 - (K - 1) = z + 120 := ⟨k + 29 - (K - 1), by omega⟩
    rw [start_1, hz, show z + 120 = (z + 119) + 1 from rfl, milestoneref01_Take.j1, hlen]
    rcases hcase with ⟨hs, hg⟩ | ⟨hle, s, hT, hg⟩
    · rw [if_pos (by omega)]
      exact ⟨_, hg, rfl⟩
    · have hlo : 256 - 2 ^ (9 - K) ≤ c ∧ c - (256 - 2 ^ (9 - K)) = h := by
        by_cases e9 : K = 9
        · subst e9
          rw [(hk9 rfl).1, (hk9 rfl).2]
          exact ⟨by decide, by decide⟩
        · have := hk8 (by omega)
          omega
      have hh : h < 2 ^ (64 - 8 * (K - 1)) := by
        by_cases e9 : K = 9
        · rw [(hk9 e9).2]; exact Nat.two_pow_pos _
        · exact Nat.lt_of_lt_of_le (hk8 (by omega)).1 (Nat.pow_le_pow_right (by omega) (by omega))
      have hv : foldv h (q.take (K - 1)) < 18446744073709551616 := by
        have := foldv_lt (q.take (K - 1)) h (2 ^ (64 - 8 * (K - 1))) (fun z hz => hq z (List.mem_of_mem_take hz)) hh
        rw [List.length_take, Nat.min_eq_left (by omega)] at this
        refine Nat.lt_of_lt_of_le this ?_
        rw [show (256 : Nat) = 2 ^ 8 from rfl, ← Nat.pow_mul, ← Nat.pow_add, show (18446744073709551616 : Nat) = 2 ^ 64 from rfl]
        exact Nat.pow_le_pow_right (by omega) (by omega)
      have hql : (q.take (K - 1)).length = K - 1 := by rw [List.length_take]; omega
      have hqb : isBytes (q.take (K - 1)) := fun z hz => hq z (List.mem_of_mem_take hz)
      have hstrip := take_strip ((c : Int) :: q) c K hc h1 h9 hlo.1 (z + 119 - K) (K - 1) 1 (Nat.le_refl _) (by omega)
      rw [hlo.2, show z + 119 - K + (K - 1) + 1 = z + 119 by omega, show c - (256 - 2 ^ (9 - 1)) = c from rfl] at hstrip
      have hfold := take_fold (c : Int) q hq hl' K h1 h9 hle h hh (z + 118 - K - K) s (K - 1) 1 (Nat.le_refl _) (by omega)
      rw [show z + 118 - K - K + (K - 1) + 1 = z + 118 - K by omega] at hfold
      have hcoin := coin_is (z + 118 - K - K - 90) s _ hT hv
      rw [show z + 118 - K - K - 90 + 90 = z + 118 - K - K by omega] at hcoin
      have hcw : IntKind.u64.wrap (rd ((c : Int) :: q) 0) = (c : Int) := by
        show IntKind.u64.wrap (c : Int) = _
        rw [wr64]
        omega
      have hstr : ((strOfNums (cb s (foldv h (q.take (K - 1))))).toList = (strOfNums (((c : Int) :: q).take K)).toList) ↔ s = K := by
        rw [bytes_toList _ _ (cb_bytes s _ hT) (fun z hz => hb z (List.mem_of_mem_take hz))]
        constructor
        · intro e
          have := congrArg List.length e
          rw [cb_length s _ hT, List.length_take, List.length_cons] at this
          omega
        · intro e
          subst e
          have htl := tl_foldv (q.take (s - 1)) h hqb
          rw [hql] at htl
          obtain ⟨t, rfl⟩ : ∃ t, s = t + 1 := ⟨s - 1, by omega⟩
          rw [List.take_succ_cons]
          unfold cb
          rw [show t + 1 - 1 = t from rfl] at htl ⊢
          rw [htl.1]
          refine congrArg (fun z => z :: q.take t) ?_
          unfold hd1
          by_cases hs9 : t + 1 = 9
          · rw [if_pos hs9, (hk9 hs9).1]; rfl
          · rw [if_neg hs9, show t + 1 - 1 = t from rfl, htl.2, ← (hk8 (by omega)).2]
      refine ⟨if s = K then (((foldv h (q.take (K - 1)) : Nat) : Int), (K : Int), 0) else (0, 0, 4), hg.trans (apply_ite some _ _ _).symm, ?_⟩
      rw [if_neg (by omega), if_pos (by omega), hcw]
      refine hstrip.trans ?_
      rw [show z + 119 - K = (z + 118 - K) + 1 by omega, milestoneref01_Take.j3]
      refine hfold.trans ?_
      rw [milestoneref01_Take.l2, if_neg (by omega), hcoin, Option.bind_some, if_pos (by omega), if_pos (by rw [hlen]; omega), Int.toNat_natCast]
      by_cases hsK : s = K
      · rw [if_pos hsK, if_pos (hstr.2 hsK)]
      · rw [if_neg hsK, if_neg (fun e => hsK (hstr.1 e))]
theorem CoinPurses : milestonelaw03_CoinPurses.Pure := by
  refine ⟨⟨0 + 11, awake_any 0⟩, ?_⟩
  intro l hw hl
  have hb : isBytes l := fun n hn => by
    have := Go.bounds_u8 (hw n hn)
    omega
  obtain ⟨⟨n, j, e⟩, h1, h2⟩ := take_any 0 l hb (by omega)
  have h3 := at_rounds (fun k => coin_Get.mono l k) (show 0 + 25 ≤ 0 + 150 by omega) h1
  refine ⟨0 + 150, n, j, e, h3, h2, ?_⟩
  rcases get_any 0 l hb (by omega) with ⟨s, m, rest, hT, hm, hlr, hg⟩ | ⟨e1, he, hg⟩
  · rw [h1, Option.some.injEq, Prod.mk.injEq, Prod.mk.injEq] at hg
    obtain ⟨rfl, rfl, rfl⟩ := hg
    have hlen : l.length = s + rest.length := by rw [hlr, List.length_append, cb_length s m hT]
    exact ⟨by omega, by omega, fun _ => ⟨by omega, by omega⟩⟩
  · rw [h1, Option.some.injEq, Prod.mk.injEq, Prod.mk.injEq] at hg
    obtain ⟨rfl, rfl, rfl⟩ := hg
    exact ⟨by omega, by omega, fun h => by omega⟩

end Go.Proofs.Ytghgaehcejechaa.Pure
