/- Numbers below 0 as numbers that are not, and back: Fold and Open are each other's inverse, and Fold is 2 n, or -2 n - 1.
For every input; no condition is added to the given statement. -/
import Derived.Test.YtghgaehcejechaaQCoinFoldsx1
import Derived.Laws.BitsAllLaws
import Derived.OpenShut
namespace Go.Proofs.Ytghgaehcejechaa.Pure
open Go.RowKit Go.Proofs.Ytghgaehcejechaa.QCoinFolds Go.Proofs.YtghgaehcejechaaW.PrintWords Go.Proofs.YtghgaehcejechaaW.PrintLast

theorem wr64 (n : Int) : IntKind.u64.wrap n = n % 18446744073709551616 := by
  simp [IntKind.wrap, IntKind.signed, IntKind.bits]

theorem u64_ones (x : Int) (h0 : 0 ≤ x) (h1 : x < 18446744073709551616) : bits .xor .u64 x 18446744073709551615 = 18446744073709551615 - x := by
  show IntKind.u64.wrap ((BitVec.ofInt 64 x ^^^ BitVec.ofInt 64 18446744073709551615).toNat : Int) = _
  have e : BitVec.ofInt 64 18446744073709551615 = BitVec.allOnes 64 := by decide
  have e2 : (BitVec.ofInt 64 x).toNat = x.toNat := by
    rw [BitVec.toNat_ofInt]
    congr 1
    omega
  rw [e, BitVec.xor_allOnes, BitVec.toNat_not, e2, wr64]
  omega

theorem u64_none (x : Int) (h0 : 0 ≤ x) (h1 : x < 18446744073709551616) : bits .xor .u64 x 0 = x := by
  rw [u64_xor x 0 h0 h1 (by omega) (by omega)]
  simp
  omega

theorem i64_ones (x : Int) (h0 : -9223372036854775808 ≤ x) (h1 : x < 9223372036854775808) : bits .xor .i64 x (-1) = -x - 1 := by
  show IntKind.i64.wrap ((BitVec.ofInt 64 x ^^^ BitVec.ofInt 64 (-1)).toNat : Int) = _
  have e : BitVec.ofInt 64 (-1) = BitVec.allOnes 64 := by decide
  have e2 : (BitVec.ofInt 64 x).toNat = (x % 18446744073709551616).toNat := by
    rw [BitVec.toNat_ofInt]
    congr 1
  rw [e, BitVec.xor_allOnes, BitVec.toNat_not, e2, IntKind.wrap_i64]
  omega

theorem i64_none (x : Int) (h0 : -9223372036854775808 ≤ x) (h1 : x < 9223372036854775808) : bits .xor .i64 x 0 = x := by
  show IntKind.i64.wrap ((BitVec.ofInt 64 x ^^^ BitVec.ofInt 64 0).toNat : Int) = _
  have e : BitVec.ofInt 64 0 = 0#64 := by decide
  have e2 : (BitVec.ofInt 64 x).toNat = (x % 18446744073709551616).toNat := by
    rw [BitVec.toNat_ofInt]
    congr 1
  rw [e, BitVec.xor_zero, e2, IntKind.wrap_i64]
  omega

theorem fold_is (n : Int) (h0 : -9223372036854775808 ≤ n) (h1 : n ≤ 9223372036854775807) : coin_Fold.f n = some (if n < 0 then -2 * n - 1 else 2 * n) := by
  unfold coin_Fold.f
  congr 1
  have e1 : IntKind.u64.wrap (wrap64 (n * 2)) = (2 * n) % 18446744073709551616 := by
    rw [wr64]
    unfold wrap64
    omega
  rw [e1]
  split
  · have e2 : IntKind.u64.wrap (n / 9223372036854775808) = 18446744073709551615 := by
      rw [wr64]
      omega
    rw [e2, u64_ones _ (by omega) (by omega)]
    omega
  · have e2 : IntKind.u64.wrap (n / 9223372036854775808) = 0 := by
      rw [wr64]
      omega
    rw [e2, u64_none _ (by omega) (by omega)]
    omega

theorem open_is (m : Int) (h0 : 0 ≤ m) (h1 : m ≤ 18446744073709551615) : coin_Open.f m = some (if m % 2 = 0 then m / 2 else -(m / 2) - 1) := by
  unfold coin_Open.f
  congr 1
  have e1 : bits .and .u64 m 1 = m % 2 := by
    rw [u64_and m 1 h0 (by omega) (by omega) (by omega)]
    have : m.toNat &&& (1 : Int).toNat = m.toNat % 2 := Nat.and_one_is_mod _
    rw [this]
    omega
  rw [e1]
  have e2 : wrap64 (m / 2) = m / 2 := by
    unfold wrap64
    omega
  rw [e2]
  split
  · next h =>
    have e3 : wrap64 (-(wrap64 (m % 2))) = 0 := by
      rw [h]
      unfold wrap64
      omega
    rw [e3, i64_none _ (by omega) (by omega)]
  · next h =>
    have e3 : wrap64 (-(wrap64 (m % 2))) = -1 := by
      have : m % 2 = 1 := by omega
      rw [this]
      unfold wrap64
      omega
    rw [e3, i64_ones _ (by omega) (by omega)]

theorem put_tail : coin_Put.l0 5 [129] 300 0 = some [129, 44] := by
  have w1 : wrap64 (8 * 0) = 0 := by unfold wrap64; omega
  have w2 : wrap64 (0 - 1) = -1 := by unfold wrap64; omega
  have s1 : (shr .u64 300 0) % 256 = 44 := by decide +kernel
  rw [coin_Put.l0, w1, w2, s1, coin_Put.l0]
  simp
theorem size_300 : coin_Size.f 6 300 = some 2 := by decide +kernel
theorem put_300 : coin_Put.f 6 [] 300 = some [129, 44] := by
  unfold coin_Put.f
  rw [size_300]; simp only [Option.bind_some]
  have w1 : wrap64 (9 - 2) = 7 := by unfold wrap64; omega
  have w2 : wrap64 (8 * wrap64 (2 - 1)) = 8 := by unfold wrap64; omega
  have w3 : wrap64 (2 - 2) = 0 := by unfold wrap64; omega
  have s1 : bits .or .u8 (shl .u8 255 7) ((shr .u64 300 8) % 256) = 129 := by decide +kernel
  rw [if_neg (by omega), w1, w2, if_pos (by omega), if_pos (by omega), if_pos (by simp), List.nil_append, s1, coin_Put.j0, w3]
  exact put_tail
theorem awake_coin : milestonelaw03_awake.f 6 = some true := by
  unfold milestonelaw03_awake.f
  rw [put_300]; simp only [Option.bind_some]
  simp [rd]

theorem folds_key (n m : Int) (hn : -9223372036854775808 ≤ n ∧ n ≤ 9223372036854775807) (hm : 0 ≤ m ∧ m ≤ 18446744073709551615) (k : Nat) (hk : milestonelaw03_awake.f k = some true) (x : Int)
    (hx : x = (if n < 0 then -2 * n - 1 else 2 * n)) : milestonelaw03_CoinFolds.j0 (k + 1) n m x = some true := by
  have hx0 : 0 ≤ x := by rw [hx]; split <;> omega
  have hx1 : x ≤ 18446744073709551615 := by rw [hx]; split <;> omega
  simp only [milestonelaw03_CoinFolds.j0]
  rw [hk, Option.bind_some, if_pos rfl]
  rw [fold_is n hn.1 hn.2, Option.bind_some]
  rw [if_pos hx.symm, open_is x hx0 hx1, Option.bind_some]
  have e : (if x % 2 = 0 then x / 2 else -(x / 2) - 1) = n := by
    rw [hx]
    by_cases h : n < 0
    · rw [if_pos h, if_neg (by omega)]; omega
    · rw [if_neg h, if_pos (by omega)]; omega
  rw [if_pos e, open_is m hm.1 hm.2, Option.bind_some]
  have hb : -9223372036854775808 ≤ (if m % 2 = 0 then m / 2 else -(m / 2) - 1) ∧ (if m % 2 = 0 then m / 2 else -(m / 2) - 1) ≤ 9223372036854775807 := by
    split <;> omega
  rw [fold_is _ hb.1 hb.2, Option.bind_some]
  congr 1
  rw [beq_iff_eq]
  by_cases h : m % 2 = 0
  · rw [if_pos h, if_neg (by omega)]; omega
  · rw [if_neg h, if_pos (by omega)]; omega

theorem want_is (n : Int) (h0 : -9223372036854775808 ≤ n) (h : n < 0) : IntKind.u64.wrap ((IntKind.u64.wrap ((IntKind.u64.wrap (wrap64 (-(wrap64 (n + 1))))) * 2)) + 1) = -2 * n - 1 := by
  have e : wrap64 (-(wrap64 (n + 1))) = -(n + 1) := by unfold wrap64; omega
  rw [e, wr64, wr64, wr64]
  omega

theorem want_up (n : Int) (h1 : n ≤ 9223372036854775807) (h : ¬ n < 0) : IntKind.u64.wrap ((IntKind.u64.wrap n) * 2) = 2 * n := by
  rw [wr64, wr64]
  omega

theorem CoinFolds : milestonelaw03_CoinFolds.Pure := by
  intro n m hn hm
  have hn := Go.bounds_i64 hn
  have hm := Go.bounds_u64 hm
  refine ⟨6 + 1, ?_⟩
  unfold milestonelaw03_CoinFolds.f
  by_cases h : n < 0
  · rw [if_pos h, want_is n hn.1 h]
    exact folds_key n m hn hm 6 awake_coin _ (by rw [if_pos h])
  · rw [if_neg h, want_up n hn.2 h]
    exact folds_key n m hn hm 6 awake_coin _ (by rw [if_neg h])

end Go.Proofs.Ytghgaehcejechaa.Pure
