/- Of hellos some of which are lost: the way is there as long as of the last three two came.
For every input; no condition is added to the given statement. -/
import Derived.Test.YtkdjpkgaknfdeaaQLinkMissesx2
import Derived.Laws.BitsAllLaws
import Derived.OpenShut
import Derived.Lib.Bytes
namespace Go.Proofs.Ytkdjpkgaknfdeaa.Pure
open Go.RowKit Go.Proofs.Ytkdjpkgaknfdeaa.QLinkMisses Go.Proofs.YtkdjpkgaknfdeaaW.PrintWords Go.Proofs.YtkdjpkgaknfdeaaW.PrintLast Go.Proofs.YtkdjpkgaknfdeaaW.PrintMore
set_option linter.unusedSimpArgs false
set_option linter.unusedVariables false

/-! ## a link over natural numbers -/
theorem u64w (n : Nat) (h : n < 18446744073709551616) : IntKind.u64.wrap (n : Int) = (n : Int) := by
  simp [IntKind.wrap, IntKind.signed, IntKind.bits]
  omega
theorem u16w (n : Nat) : IntKind.u16.wrap (n : Int) = ((n % 65536 : Nat) : Int) := by
  simp [IntKind.wrap, IntKind.signed, IntKind.bits]
def pop : Nat → Nat
  | 0 => 0 | 1 => 1 | 2 => 1 | 3 => 2 | 4 => 1 | 5 => 2 | 6 => 2 | 7 => 3 | _ => 0
theorem pop_is (x : Nat) (h : x < 8) : bits_OnesCount16.f (x : Int) = some ((pop x : Nat) : Int) := by
  match x, h with
  | 0, _ => decide +kernel
  | 1, _ => decide +kernel
  | 2, _ => decide +kernel
  | 3, _ => decide +kernel
  | 4, _ => decide +kernel
  | 5, _ => decide +kernel
  | 6, _ => decide +kernel
  | 7, _ => decide +kernel
theorem and7 (c : Nat) (h : c < 65536) : Go.bits .and .u16 (c : Int) 7 = ((c % 8 : Nat) : Int) := by
  have := u16_and_nat c 7 h (by omega)
  rw [show (7 : Nat) = 2 ^ 3 - 1 from rfl, Nat.and_two_pow_sub_one_eq_mod] at this
  exact this
def recv (c : Nat) : Nat := if pop (c % 8) < 2 then 65535 else 96
theorem recv_is (c : Nat) (h : c < 65536) (n p u q : Int) : link_Link_Receives.f (c : Int) n p u q = some (((recv c : Nat) : Int), (c : Int), n, p, u, q) := by
  unfold link_Link_Receives.f
  rw [and7 c h, pop_is _ (Nat.mod_lt _ (by omega)), Option.bind_some]
  unfold recv
  by_cases hp : pop (c % 8) < 2
  · rw [if_pos (by omega), if_pos hp]
    rfl
  · rw [if_neg (by omega), if_neg hp]
    rfl
theorem cost_is (c : Nat) (h : c < 65536) (n p u q : Int) : link_Link_Cost.f (c : Int) n p u q = some (if recv c = 65535 then 65535 else p, (c : Int), n, p, u, q) := by
  unfold link_Link_Cost.f
  rw [recv_is c h, Option.bind_some]
  by_cases hp : recv c = 65535
  · rw [if_pos hp, if_pos (by rw [hp]; rfl)]
  · have : ¬ ((recv c : Nat) : Int) = 65535 := by omega
    rw [if_neg hp, if_neg this]
theorem or_one (a : Nat) : 2 * a ||| 1 = 2 * a + 1 := by
  have := Nat.two_pow_add_eq_or_of_lt (i := 1) (b := 1) (by omega) a
  simpa using this.symm
/-- what came, behind one more hello, so many behind the newest one -/
def hel (c gap : Nat) : Nat := if gap ≥ 16 ∨ c = 0 then 1 else (c * 2 ^ (gap + 1)) % 65536 + 1
theorem hel_lt (c gap : Nat) : hel c gap < 65536 := by
  unfold hel
  split
  · omega
  · have e : (c * 2 ^ (gap + 1)) % 65536 = 2 * ((c * 2 ^ gap) % 32768) := by
      rw [Nat.pow_succ, show (65536 : Nat) = 2 * 32768 from rfl, ← Nat.mul_assoc, Nat.mul_comm _ 2, Nat.mul_mod_mul_left]
    rw [e]
    have := Nat.mod_lt (c * 2 ^ gap) (show 32768 > 0 by omega)
    omega
theorem hello_is (c n a b : Nat) (hc : c < 65536) (hn : n ≤ a) (ha : a < 1000000000) (hb : b < 1000000000) (p u q : Int) :
    link_Link_Hello.f (c : Int) (n : Int) p u q (a : Int) (b : Int) = some (((hel c (a - n) : Nat) : Int), ((a + 1 : Nat) : Int), p, u, ((b + 6 : Nat) : Int)) := by
  unfold link_Link_Hello.f
  have e1 : IntKind.u64.wrap ((a : Int) - (n : Int)) = ((a - n : Nat) : Int) := by
    rw [show (a : Int) - (n : Int) = ((a - n : Nat) : Int) by omega]
    exact u64w _ (by omega)
  have e2 : IntKind.u64.wrap ((a : Int) + 1) = ((a + 1 : Nat) : Int) := u64w (a + 1) (by omega)
  have e3 : IntKind.u64.wrap ((b : Int) + 6) = ((b + 6 : Nat) : Int) := u64w (b + 6) (by omega)
  have e4 : IntKind.u64.wrap (((a - n : Nat) : Int) + 1) = ((a - n + 1 : Nat) : Int) := u64w (a - n + 1) (by omega)
  rw [e1, e2, e3, e4, if_neg (by omega)]
  clear e1 e2 e3 e4
  unfold hel
  by_cases h1 : a - n ≥ 16
  · rw [if_pos (by omega), if_pos (.inl h1)]
    rfl
  · rw [if_neg (by omega)]
    by_cases h2 : c = 0
    · rw [if_pos (by omega), if_pos (.inr h2)]
      rfl
    · rw [if_neg (by omega), if_pos (by omega), if_neg (by omega)]
      have e5 : shl .u16 (c : Int) ((a - n + 1 : Nat) : Int) = (((c * 2 ^ (a - n + 1)) % 65536 : Nat) : Int) := by
        unfold shl
        have em : min (((a - n + 1 : Nat) : Int)).toNat IntKind.u16.bits = a - n + 1 := by
          have : IntKind.u16.bits = 16 := rfl
          omega
        rw [em, show (c : Int) * 2 ^ (a - n + 1) = ((c * 2 ^ (a - n + 1) : Nat) : Int) by simp, u16w]
      have e6 : (c * 2 ^ (a - n + 1)) % 65536 = 2 * ((c * 2 ^ (a - n)) % 32768) := by
        rw [Nat.pow_succ, show (65536 : Nat) = 2 * 32768 from rfl, ← Nat.mul_assoc, Nat.mul_comm _ 2, Nat.mul_mod_mul_left]
      have e7 : Go.bits .or .u16 (((c * 2 ^ (a - n + 1)) % 65536 : Nat) : Int) 1 = (((c * 2 ^ (a - n + 1)) % 65536 + 1 : Nat) : Int) := by
        rw [e6, ← or_one]
        have := Nat.mod_lt (c * 2 ^ (a - n)) (show 32768 > 0 by omega)
        exact u16_or_nat _ 1 (by omega) (by omega)
      rw [e5, e7]
theorem alive_is (c : Nat) (n p u q : Int) : link_Link_Alive.f (c : Int) n p u q = some (decide (c ≠ 0), (c : Int), n, p, u, q) := by
  unfold link_Link_Alive.f
  by_cases h : c = 0
  · subst h; rfl
  · have h2 : ¬ ((c : Int) = 0) := by omega
    rw [decide_eq_true h]
    have : ((c : Int) != 0) = true := bne_iff_ne.2 h2
    rw [this]
theorem heard_is (c n p u q : Int) (a b : Nat) (hb : b < 1000000000) : link_Link_Heard.f c n p u q (a : Int) (b : Int) = some (c, n, ((max a 1 : Nat) : Int), ((b + 20 : Nat) : Int), q) := by
  unfold link_Link_Heard.f
  have e : IntKind.u64.wrap ((b : Int) + 20) = ((b + 20 : Nat) : Int) := u64w (b + 20) (by omega)
  have e2 : mx (a : Int) 1 = ((max a 1 : Nat) : Int) := by unfold mx; split <;> omega
  rw [e, e2]
theorem new_is (b : Nat) (hb : b < 1000000000) : link_New.f (b : Int) = some (0, 0, 65535, 0, ((b + 6 : Nat) : Int)) := by
  unfold link_New.f
  have e : IntKind.u64.wrap ((b : Int) + 6) = ((b + 6 : Nat) : Int) := u64w (b + 6) (by omega)
  rw [e]
theorem awake_is : milestonelaw14_awake.f = some true := by decide +kernel

/-! ## a tick -/
theorem recv_two (c : Nat) (h : c % 4 = 3) : recv c = 96 := by
  unfold recv
  have : c % 8 = 3 ∨ c % 8 = 7 := by omega
  rcases this with e | e <;> rw [e] <;> rfl
theorem hel_next (c : Nat) (h : c % 2 = 1) : hel c 0 % 4 = 3 := by
  unfold hel
  rw [if_neg (by omega)]
  omega

/-! ## LinkMisses -/
def At (L : List Bool) (j : Nat) : Bool := L.getD j false
theorem at_false (L : List Bool) (j : Nat) : At (L ++ [false]) j = At L j := by
  unfold At
  rw [List.getD_eq_getElem?_getD, List.getD_eq_getElem?_getD]
  by_cases h : j < L.length
  · rw [List.getElem?_append_left h]
  · rw [List.getElem?_append_right (by omega), List.getElem?_eq_none (show L.length ≤ j by omega)]
    by_cases h2 : j - L.length = 0
    · rw [h2]; rfl
    · rw [List.getElem?_eq_none (by simp; omega)]
theorem at_true (L : List Bool) (j : Nat) : At (L ++ [true]) j = if j = L.length then true else At L j := by
  unfold At
  rw [List.getD_eq_getElem?_getD, List.getD_eq_getElem?_getD]
  by_cases h : j < L.length
  · rw [List.getElem?_append_left h, if_neg (by omega)]
  · by_cases h2 : j = L.length
    · subst h2
      rw [if_pos rfl, List.getElem?_append_right (Nat.le_refl _), Nat.sub_self]
      rfl
    · rw [if_neg h2, List.getElem?_append_right (by omega), List.getElem?_eq_none (show [true].length ≤ j - L.length by simp; omega), List.getElem?_eq_none (show L.length ≤ j by omega)]
theorem rd_at (L : List Bool) (j : Nat) : rdOf false L (j : Int) = At L j := rfl
def b1 (b : Bool) : Nat := if b then 1 else 0
theorem m_l1 (k : Nat) (x0 L : List Bool) (x5 : Int) (n j : Nat) (x7 a b c d e : Int) (hj : j < L.length) (h3 : L.length ≤ j + 3) (hL : L.length < 1000) (hn : n < 1000) :
    milestonelaw14_LinkMisses.l1 (k + 2) x0 L x5 (n : Int) x7 (j : Int) a b c d e = milestonelaw14_LinkMisses.l1 k x0 L x5 ((n + b1 (At L j) : Nat) : Int) x7 ((j : Int) - 1) a b c d e := by
  have e1 : Aside0 (wrap64 ((L.length : Int) - 3) = (L.length : Int) - 3) := ⟨by unfold wrap64; omega⟩
  have e2 : Aside0 (wrap64 ((j : Int) - 1) = (j : Int) - 1) := ⟨by unfold wrap64; omega⟩
  have e3 : Aside0 (wrap64 ((n : Int) + 1) = ((n + 1 : Nat) : Int)) := ⟨by unfold wrap64; omega⟩
  have hd : (decide ((j : Int) ≥ (L.length : Int) - 3)) = true := decide_eq_true (by omega)
  rw [milestonelaw14_LinkMisses.l1, if_pos (by omega), e1.out, hd, milestonelaw14_LinkMisses.j3, if_pos rfl, if_pos (by omega), if_pos (by omega), rd_at, e2.out, e3.out]
  by_cases h : At L j = true
  · rw [if_pos h, h]; rfl
  · rw [if_neg h, eq_false_of_ne_true h]; rfl
theorem m_l1_end (k : Nat) (x0 L : List Bool) (x5 : Int) (x6 x7 x8 a b c d e : Int) (h : x8 < 0 ∨ x8 < (L.length : Int) - 3) (hL : L.length < 1000) (h2 : 2 ≤ L.length ∨ L.length = 1) :
    milestonelaw14_LinkMisses.l1 (k + 2) x0 L x5 x6 x7 x8 a b c d e = milestonelaw14_LinkMisses.l2 k x0 L x5 x6 x7 ((L.length : Int) - 2) a b c d e := by
  have e1 : Aside0 (wrap64 ((L.length : Int) - 3) = (L.length : Int) - 3) := ⟨by unfold wrap64; omega⟩
  have e2 : Aside0 (wrap64 ((L.length : Int) - 2) = (L.length : Int) - 2) := ⟨by unfold wrap64; omega⟩
  rw [milestonelaw14_LinkMisses.l1]
  by_cases h8 : x8 ≥ 0
  · have hd : (decide (x8 ≥ (L.length : Int) - 3)) = false := decide_eq_false (by omega)
    rw [if_pos h8, e1.out, hd, milestonelaw14_LinkMisses.j3, if_neg (by decide), e2.out]
  · rw [if_neg h8, milestonelaw14_LinkMisses.j3, if_neg (by decide), e2.out]
/-- of the last three, behind a hello: how many came -/
def three (L : List Bool) : Nat := 1 + b1 (decide (1 ≤ L.length) && At L (L.length - 1)) + b1 (decide (2 ≤ L.length) && At L (L.length - 2))
theorem at_end (L : List Bool) : At (L ++ [true]) L.length = true := by rw [at_true, if_pos rfl]
theorem at_old (L : List Bool) (j : Nat) (h : j < L.length) : At (L ++ [true]) j = At L j := by rw [at_true, if_neg (by omega)]
theorem m_three (K : Nat) (hK : 8 < K) (x0 L : List Bool) (hL : L.length < 100) (x5 x7 a b c d e : Int) :
    ∃ k, K ≤ k + 8 ∧ milestonelaw14_LinkMisses.l1 K x0 (L ++ [true]) x5 0 x7 (L.length : Int) a b c d e = milestonelaw14_LinkMisses.l2 k x0 (L ++ [true]) x5 ((three L : Nat) : Int) x7 ((L.length : Int) - 1) a b c d e := by
  have hl : (L ++ [true]).length = L.length + 1 := by simp
  have hr : ((L ++ [true]).length : Int) - 2 = (L.length : Int) - 1 := by omega
  have h0 : ((0 : Nat) : Int) = 0 := rfl
  by_cases c0 : L.length = 0
  · obtain ⟨k, rfl⟩ : ∃ m, K = m + 2 + 2 := ⟨K - 4, by omega⟩
    have s1 := m_l1 (k + 2) x0 (L ++ [true]) x5 0 L.length x7 a b c d e (by omega) (by omega) (by omega) (by omega)
    have s2 := m_l1_end k x0 (L ++ [true]) x5 ((0 + b1 (At (L ++ [true]) L.length) : Nat) : Int) x7 ((L.length : Int) - 1) a b c d e (.inl (by omega)) (by omega) (.inr (by omega))
    rw [at_end] at s1 s2
    have e3 : three L = 0 + b1 true := by
      unfold three
      rw [decide_eq_false (show ¬ 1 ≤ L.length by omega), decide_eq_false (show ¬ 2 ≤ L.length by omega)]
      rfl
    refine ⟨k, by omega, ?_⟩
    rw [← hr, e3, ← s2, ← s1]
    rfl
  · by_cases c1 : L.length = 1
    · obtain ⟨k, rfl⟩ : ∃ m, K = m + 2 + 2 + 2 := ⟨K - 6, by omega⟩
      have s1 := m_l1 (k + 2 + 2) x0 (L ++ [true]) x5 0 L.length x7 a b c d e (by omega) (by omega) (by omega) (by omega)
      rw [at_end] at s1
      have s2 := m_l1 (k + 2) x0 (L ++ [true]) x5 (0 + b1 true) (L.length - 1) x7 a b c d e (by omega) (by omega) (by omega) (by decide)
      rw [at_old L _ (by omega)] at s2
      have i1 : ((L.length - 1 : Nat) : Int) = (L.length : Int) - 1 := by omega
      rw [i1] at s2
      have s3 := m_l1_end k x0 (L ++ [true]) x5 ((0 + b1 true + b1 (At L (L.length - 1)) : Nat) : Int) x7 ((L.length : Int) - 1 - 1) a b c d e (.inl (by omega)) (by omega) (.inl (by omega))
      have e3 : three L = 0 + b1 true + b1 (At L (L.length - 1)) := by
        unfold three
        rw [decide_eq_true (show 1 ≤ L.length by omega), decide_eq_false (show ¬ 2 ≤ L.length by omega)]
        simp [b1]
      refine ⟨k, by omega, ?_⟩
      rw [← hr, e3, ← s3, ← s2, ← s1]
      rfl
    · obtain ⟨k, rfl⟩ : ∃ m, K = m + 2 + 2 + 2 + 2 := ⟨K - 8, by omega⟩
      have s1 := m_l1 (k + 2 + 2 + 2) x0 (L ++ [true]) x5 0 L.length x7 a b c d e (by omega) (by omega) (by omega) (by omega)
      rw [at_end] at s1
      have s2 := m_l1 (k + 2 + 2) x0 (L ++ [true]) x5 (0 + b1 true) (L.length - 1) x7 a b c d e (by omega) (by omega) (by omega) (by decide)
      rw [at_old L _ (by omega)] at s2
      have i1 : ((L.length - 1 : Nat) : Int) = (L.length : Int) - 1 := by omega
      rw [i1] at s2
      have hb : 0 + b1 true + b1 (At L (L.length - 1)) < 1000 := by
        cases At L (L.length - 1) <;> decide
      have s3 := m_l1 (k + 2) x0 (L ++ [true]) x5 (0 + b1 true + b1 (At L (L.length - 1))) (L.length - 2) x7 a b c d e (by omega) (by omega) (by omega) hb
      rw [at_old L _ (by omega)] at s3
      have i2 : ((L.length - 2 : Nat) : Int) = (L.length : Int) - 1 - 1 := by omega
      rw [i2] at s3
      have s4 := m_l1_end k x0 (L ++ [true]) x5 ((0 + b1 true + b1 (At L (L.length - 1)) + b1 (At L (L.length - 2)) : Nat) : Int) x7 ((L.length : Int) - 1 - 1 - 1) a b c d e (.inr (by omega)) (by omega) (.inl (by omega))
      have e3 : three L = 0 + b1 true + b1 (At L (L.length - 1)) + b1 (At L (L.length - 2)) := by
        unfold three
        rw [decide_eq_true (show 1 ≤ L.length by omega), decide_eq_true (show 2 ≤ L.length by omega)]
        simp [b1]
      refine ⟨k, by omega, ?_⟩
      rw [← hr, e3, ← s4, ← s3, ← s2, ← s1]
      rfl
theorem m_gap (x0 L : List Bool) (n : Nat) (hL : L.length < 100) (hn : n ≤ L.length) (hz : ∀ j, n ≤ j → At L j = false) (ht : 1 ≤ n → At L (n - 1) = true) (x5 x6 a b c d f : Int) (e : Nat) : ∀ (k x7 : Nat), n + e ≤ L.length → x7 + e < 1000 →
    milestonelaw14_LinkMisses.l2 (k + e + 1) x0 (L ++ [true]) x5 x6 (x7 : Int) (((n + e : Nat) : Int) - 1) a b c d f = milestonelaw14_LinkMisses.j5 k x0 (L ++ [true]) x5 x6 ((x7 + e : Nat) : Int) a b c d f := by
  have hl : (L ++ [true]).length = L.length + 1 := by simp
  induction e with
  | zero =>
    intro k x7 h1 h2
    rw [milestonelaw14_LinkMisses.l2]
    by_cases h0 : n = 0
    · rw [if_neg (by omega)]
      rfl
    · have hr : ((n + 0 : Nat) : Int) - 1 = ((n - 1 : Nat) : Int) := by omega
      rw [hr, if_pos (by omega), if_pos (by omega), if_pos (by omega), rd_at, at_old L _ (by omega), if_pos (ht (by omega))]
      rfl
  | succ e ih =>
    intro k x7 h1 h2
    have hr : ((n + (e + 1) : Nat) : Int) - 1 = ((n + e : Nat) : Int) := by omega
    have e1 : Aside0 (wrap64 ((x7 : Int) + 1) = ((x7 + 1 : Nat) : Int)) := ⟨by unfold wrap64; omega⟩
    have e2 : Aside0 (wrap64 (((n + e : Nat) : Int) - 1) = ((n + e : Nat) : Int) - 1) := ⟨by unfold wrap64; omega⟩
    have hf : ¬ At L (n + e) = true := by rw [hz (n + e) (by omega)]; decide
    have key := ih k (x7 + 1) (by omega) (by omega)
    rw [milestonelaw14_LinkMisses.l2, hr, if_pos (by omega), if_pos (by omega), if_pos (by omega), rd_at, at_old L _ (by omega), if_neg hf, e1.out, e2.out, show k + (e + 1) = k + e + 1 by omega, key, show x7 + 1 + e = x7 + (e + 1) by omega]
/-- what stands at a round's head -/
def MInv (L : List Bool) (c n : Nat) : Prop := c < 65536 ∧ n ≤ L.length ∧ (∀ j, n ≤ j → At L j = false) ∧ (1 ≤ n → At L (n - 1) = true) ∧ ((c = 0 ∧ n = 0) ∨ (c % 2 = 1 ∧ 1 ≤ n))
theorem m_meets (L : List Bool) (c n : Nat) (h : MInv L c n) : (recv (hel c (L.length - n)) = 96 ↔ (if L.length - n ≥ 16 then 1 else three L) ≥ 2) ∧ hel c (L.length - n) % 2 = 1 := by
  obtain ⟨hc, hn, hz, ht, ⟨rfl, rfl⟩ | ⟨hodd, h1⟩⟩ := h
  · have e0 : hel 0 (L.length - 0) = 1 := by
      unfold hel
      rw [if_pos (.inr rfl)]
    have e1 : three L = 1 := by
      unfold three
      rw [hz _ (Nat.zero_le _), hz _ (Nat.zero_le _), Bool.and_false, Bool.and_false]
      rfl
    rw [e0, e1]
    exact ⟨⟨fun h => absurd h (by decide), fun h => by split at h <;> omega⟩, rfl⟩
  · by_cases g16 : L.length - n ≥ 16
    · have e0 : hel c (L.length - n) = 1 := by
        unfold hel
        rw [if_pos (.inl g16)]
      rw [e0, if_pos g16]
      exact ⟨⟨fun h => absurd h (by decide), fun h => by omega⟩, rfl⟩
    · rw [if_neg g16]
      by_cases g0 : L.length - n = 0
      · rw [g0]
        have h3 := hel_next c hodd
        refine ⟨⟨fun _ => ?_, fun _ => recv_two _ h3⟩, by omega⟩
        unfold three
        have hh := ht h1
        rw [show L.length - 1 = n - 1 by omega, hh, decide_eq_true (show 1 ≤ L.length by omega)]
        have : b1 (true && true) = 1 := rfl
        omega
      · by_cases g1 : L.length - n = 1
        · rw [g1]
          have h5 : hel c 1 % 8 = 5 := by
            unfold hel
            rw [if_neg (by omega)]
            omega
          have hr : recv (hel c 1) = 96 := by
            unfold recv
            rw [h5]
            rfl
          refine ⟨⟨fun _ => ?_, fun _ => hr⟩, by omega⟩
          unfold three
          have hh := ht h1
          rw [show L.length - 2 = n - 1 by omega, hh, decide_eq_true (show 2 ≤ L.length by omega)]
          have : b1 (true && true) = 1 := rfl
          omega
        · have h8 : hel c (L.length - n) % 8 = 1 := by
            unfold hel
            rw [if_neg (by omega)]
            obtain ⟨g, hg⟩ : ∃ g, L.length - n = g + 2 := ⟨L.length - n - 2, by omega⟩
            rw [hg, show g + 2 + 1 = 3 + g by omega, Nat.pow_add, show (2 : Nat) ^ 3 = 8 from rfl, ← Nat.mul_assoc, Nat.mul_comm c 8, Nat.mul_assoc, show (65536 : Nat) = 8 * 8192 from rfl, Nat.mul_mod_mul_left]
            omega
          have hr : recv (hel c (L.length - n)) = 65535 := by
            unfold recv
            rw [h8]
            rfl
          have e1 : three L = 1 := by
            unfold three
            rw [hz _ (by omega), hz _ (by omega), Bool.and_false, Bool.and_false]
            rfl
          rw [hr, e1]
          exact ⟨⟨fun h => absurd h (by decide), fun h => by omega⟩, by omega⟩
theorem misses_loop (x0 : List Bool) (h60 : x0.length ≤ 60) (d : Nat) : ∀ (K : Nat) (L : List Bool) (c n : Nat) (p u q : Int), L.length + d = x0.length → MInv L c n → 100 * d < K →
    milestonelaw14_LinkMisses.l0 K x0 L (L.length : Int) (c : Int) (n : Int) p u q = some true := by
  induction d with
  | zero =>
    intro K L c n p u q hd hI hK
    obtain ⟨k, rfl⟩ : ∃ m, K = m + 1 := ⟨K - 1, by omega⟩
    rw [milestonelaw14_LinkMisses.l0, if_neg (by omega)]
  | succ d ih =>
    intro K L c n p u q hd hI hK
    obtain ⟨k, rfl⟩ : ∃ m, K = m + 1 := ⟨K - 1, by omega⟩
    have e1 : Aside0 (wrap64 ((L.length : Int) + 1) = ((L.length + 1 : Nat) : Int)) := ⟨by unfold wrap64; omega⟩
    have e2 : Aside0 (wrap64 (2 * (L.length : Int)) = ((2 * L.length : Nat) : Int)) := ⟨by unfold wrap64; omega⟩
    have e3 : Aside0 (IntKind.u64.wrap (L.length : Int) = (L.length : Int)) := ⟨u64w _ (by omega)⟩
    have e4 : Aside0 (IntKind.u64.wrap ((2 * L.length : Nat) : Int) = ((2 * L.length : Nat) : Int)) := ⟨u64w _ (by omega)⟩
    have hlt : L.length < 140737488355328 := by omega
    rw [milestonelaw14_LinkMisses.l0, if_pos (by omega), if_pos (by omega), e1.out, e2.out, e3.out, e4.out]
    by_cases hl : rdOf false x0 (L.length : Int) = true
    · rw [if_pos hl, if_pos hlt]
      have key := ih k (L ++ [false]) c n p u q (by simp; omega) ⟨hI.1, by have := hI.2.1; simp; omega, fun j hj => by rw [at_false]; exact hI.2.2.1 j hj, fun h => by rw [at_false]; exact hI.2.2.2.1 h, hI.2.2.2.2⟩ (by omega)
      rw [show ((L ++ [false]).length : Int) = ((L.length + 1 : Nat) : Int) by simp] at key
      exact key
    · have hh := hello_is c n L.length (2 * L.length) hI.1 hI.2.1 (by omega) (by omega) p u q
      have hm := m_meets L c n hI
      have hlh := hel_lt c (L.length - n)
      obtain ⟨k2, hk2, h3⟩ := m_three k (by omega) x0 L (by omega) (L.length : Int) 0 ((hel c (L.length - n) : Nat) : Int) ((L.length + 1 : Nat) : Int) p u ((2 * L.length + 6 : Nat) : Int)
      obtain ⟨k3, rfl⟩ : ∃ m, k2 = m + 1 + 1 + (L.length - n) + 1 := ⟨k2 - 3 - (L.length - n), by omega⟩
      have hg := m_gap x0 L n (by omega) hI.2.1 hI.2.2.1 hI.2.2.2.1 (L.length : Int) ((three L : Nat) : Int) ((hel c (L.length - n) : Nat) : Int) ((L.length + 1 : Nat) : Int) p u ((2 * L.length + 6 : Nat) : Int) (L.length - n) (k3 + 1 + 1) 0 (by have := hI.2.1; omega) (by omega)
      rw [show n + (L.length - n) = L.length by have := hI.2.1; omega] at hg
      have z0 : ((0 : Nat) : Int) = 0 := rfl
      rw [z0] at hg
      have e5 : Aside0 (wrap64 (((L ++ [true]).length : Int) - 1) = (L.length : Int)) := ⟨by simp; unfold wrap64; omega⟩
      have key := ih k3 (L ++ [true]) (hel c (L.length - n)) (L.length + 1) p u ((2 * L.length + 6 : Nat) : Int) (by simp; omega) ⟨hlh, by simp, fun j hj => by rw [at_true, if_neg (by omega)]; exact hI.2.2.1 j (by have := hI.2.1; omega), fun _ => by rw [at_true, if_pos (by omega)], .inr ⟨hm.2, by omega⟩⟩ (by omega)
      rw [show ((L ++ [true]).length : Int) = ((L.length + 1 : Nat) : Int) by simp] at key
      have hal := alive_is (hel c (L.length - n)) ((L.length + 1 : Nat) : Int) p u ((2 * L.length + 6 : Nat) : Int)
      rw [decide_eq_true (show hel c (L.length - n) ≠ 0 by omega)] at hal
      have hj6 : ∀ m : Nat, (recv (hel c (L.length - n)) = 96 ↔ m ≥ 2) → milestonelaw14_LinkMisses.j6 (k3 + 1) x0 (L ++ [true]) (L.length : Int) (m : Int) ((hel c (L.length - n) : Nat) : Int) ((L.length + 1 : Nat) : Int) p u ((2 * L.length + 6 : Nat) : Int) = some true := by
        intro m hm2
        have eb : ((((recv (hel c (L.length - n)) : Nat) : Int) == 96) != (decide ((m : Int) ≥ 2))) = false := by
          by_cases h2 : m ≥ 2
          · rw [decide_eq_true (show (m : Int) ≥ 2 by omega), hm2.2 h2]
            rfl
          · have h96 : ¬ ((recv (hel c (L.length - n)) : Nat) : Int) = 96 := fun h => h2 (hm2.1 (by omega))
            rw [decide_eq_false (show ¬ (m : Int) ≥ 2 by omega), beq_eq_false_iff_ne.2 h96]
            rfl
        rw [milestonelaw14_LinkMisses.j6, recv_is _ hlh, Option.bind_some, eb, if_neg (by decide), hal, Option.bind_some, if_pos rfl, e1.out]
        exact key
      have hj5 : milestonelaw14_LinkMisses.j5 (k3 + 1 + 1) x0 (L ++ [true]) (L.length : Int) ((three L : Nat) : Int) ((0 + (L.length - n) : Nat) : Int) ((hel c (L.length - n) : Nat) : Int) ((L.length + 1 : Nat) : Int) p u ((2 * L.length + 6 : Nat) : Int) = some true := by
        rw [milestonelaw14_LinkMisses.j5]
        have hm1 := hm.1
        by_cases hx : L.length - n ≥ 16
        · rw [if_pos hx] at hm1
          rw [if_pos (by omega)]
          exact hj6 1 hm1
        · rw [if_neg hx] at hm1
          rw [if_neg (by omega)]
          exact hj6 _ hm1
      rw [if_neg hl, if_pos hlt, Option.bind_some, hh, Option.bind_some, e5.out, h3, hg]
      exact hj5
theorem LinkMisses : milestonelaw14_LinkMisses.Pure := by
  intro l0 _ _
  refine ⟨7002, ?_⟩
  unfold milestonelaw14_LinkMisses.f
  rw [awake_is, Option.bind_some, if_pos rfl, milestonelaw14_LinkMisses.j0]
  by_cases h : (l0.length : Int) > 60
  · rw [decide_eq_true h, if_pos rfl, awake_is, Option.bind_some]
  · have hn := new_is 0 (by omega)
    have hn' : link_New.f 0 = some (0, 0, 65535, 0, ((0 + 6 : Nat) : Int)) := hn
    rw [decide_eq_false h, if_neg (by decide), hn', Option.bind_some]
    exact misses_loop l0 (by omega) l0.length 7001 [] 0 0 65535 0 ((0 + 6 : Nat) : Int) (by simp) ⟨by omega, by simp, fun j _ => rfl, fun h => by omega, .inl ⟨rfl, rfl⟩⟩ (by omega)

end Go.Proofs.Ytkdjpkgaknfdeaa.Pure
