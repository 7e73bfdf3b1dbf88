/- A neighbor that isn't heard any more costs, soon, more than any way; later nothing is known of it.
For every input; no condition is added to the given statement. -/
import Derived.Test.YtkdjpkgaknfdeaaQLinkDiesx2
import Derived.Laws.BitsAllLaws
import Derived.OpenShut
import Derived.Lib.Bytes
namespace Go.Proofs.Ytkdjpkgaknfdeaa.Pure
open Go.RowKit Go.Proofs.Ytkdjpkgaknfdeaa.QLinkDies Go.Proofs.YtkdjpkgaknfdeaaW.PrintWords Go.Proofs.YtkdjpkgaknfdeaaW.PrintLast Go.Proofs.YtkdjpkgaknfdeaaW.PrintMore
set_option linter.unusedSimpArgs false
set_option linter.unusedVariables false

/-! ## a link over natural numbers -/
theorem u64w (n : Nat) (h : n < 18446744073709551616) : IntKind.u64.wrap (n : Int) = (n : Int) := by
  simp [IntKind.wrap, IntKind.signed, IntKind.bits]
  omega
theorem u16w (n : Nat) : IntKind.u16.wrap (n : Int) = ((n % 65536 : Nat) : Int) := by
  simp [IntKind.wrap, IntKind.signed, IntKind.bits]
def pop : Nat → Nat
  | 0 => 0 | 1 => 1 | 2 => 1 | 3 => 2 | 4 => 1 | 5 => 2 | 6 => 2 | 7 => 3 | _ => 0
theorem pop_is (x : Nat) (h : x < 8) : bits_OnesCount16.f (x : Int) = some ((pop x : Nat) : Int) := by
  match x, h with
  | 0, _ => decide +kernel
  | 1, _ => decide +kernel
  | 2, _ => decide +kernel
  | 3, _ => decide +kernel
  | 4, _ => decide +kernel
  | 5, _ => decide +kernel
  | 6, _ => decide +kernel
  | 7, _ => decide +kernel
theorem and7 (c : Nat) (h : c < 65536) : Go.bits .and .u16 (c : Int) 7 = ((c % 8 : Nat) : Int) := by
  have := u16_and_nat c 7 h (by omega)
  rw [show (7 : Nat) = 2 ^ 3 - 1 from rfl, Nat.and_two_pow_sub_one_eq_mod] at this
  exact this
def recv (c : Nat) : Nat := if pop (c % 8) < 2 then 65535 else 96
theorem recv_is (c : Nat) (h : c < 65536) (n p u q : Int) : link_Link_Receives.f (c : Int) n p u q = some (((recv c : Nat) : Int), (c : Int), n, p, u, q) := by
  unfold link_Link_Receives.f
  rw [and7 c h, pop_is _ (Nat.mod_lt _ (by omega)), Option.bind_some]
  unfold recv
  by_cases hp : pop (c % 8) < 2
  · rw [if_pos (by omega), if_pos hp]
    rfl
  · rw [if_neg (by omega), if_neg hp]
    rfl
theorem cost_is (c : Nat) (h : c < 65536) (n p u q : Int) : link_Link_Cost.f (c : Int) n p u q = some (if recv c = 65535 then 65535 else p, (c : Int), n, p, u, q) := by
  unfold link_Link_Cost.f
  rw [recv_is c h, Option.bind_some]
  by_cases hp : recv c = 65535
  · rw [if_pos hp, if_pos (by rw [hp]; rfl)]
  · have : ¬ ((recv c : Nat) : Int) = 65535 := by omega
    rw [if_neg hp, if_neg this]
theorem or_one (a : Nat) : 2 * a ||| 1 = 2 * a + 1 := by
  have := Nat.two_pow_add_eq_or_of_lt (i := 1) (b := 1) (by omega) a
  simpa using this.symm
/-- what came, behind one more hello, so many behind the newest one -/
def hel (c gap : Nat) : Nat := if gap ≥ 16 ∨ c = 0 then 1 else (c * 2 ^ (gap + 1)) % 65536 + 1
theorem hel_lt (c gap : Nat) : hel c gap < 65536 := by
  unfold hel
  split
  · omega
  · have e : (c * 2 ^ (gap + 1)) % 65536 = 2 * ((c * 2 ^ gap) % 32768) := by
      rw [Nat.pow_succ, show (65536 : Nat) = 2 * 32768 from rfl, ← Nat.mul_assoc, Nat.mul_comm _ 2, Nat.mul_mod_mul_left]
    rw [e]
    have := Nat.mod_lt (c * 2 ^ gap) (show 32768 > 0 by omega)
    omega
theorem hello_is (c n a b : Nat) (hc : c < 65536) (hn : n ≤ a) (ha : a < 1000000000) (hb : b < 1000000000) (p u q : Int) :
    link_Link_Hello.f (c : Int) (n : Int) p u q (a : Int) (b : Int) = some (((hel c (a - n) : Nat) : Int), ((a + 1 : Nat) : Int), p, u, ((b + 6 : Nat) : Int)) := by
  unfold link_Link_Hello.f
  have e1 : IntKind.u64.wrap ((a : Int) - (n : Int)) = ((a - n : Nat) : Int) := by
    rw [show (a : Int) - (n : Int) = ((a - n : Nat) : Int) by omega]
    exact u64w _ (by omega)
  have e2 : IntKind.u64.wrap ((a : Int) + 1) = ((a + 1 : Nat) : Int) := u64w (a + 1) (by omega)
  have e3 : IntKind.u64.wrap ((b : Int) + 6) = ((b + 6 : Nat) : Int) := u64w (b + 6) (by omega)
  have e4 : IntKind.u64.wrap (((a - n : Nat) : Int) + 1) = ((a - n + 1 : Nat) : Int) := u64w (a - n + 1) (by omega)
  rw [e1, e2, e3, e4, if_neg (by omega)]
  clear e1 e2 e3 e4
  unfold hel
  by_cases h1 : a - n ≥ 16
  · rw [if_pos (by omega), if_pos (.inl h1)]
    rfl
  · rw [if_neg (by omega)]
    by_cases h2 : c = 0
    · rw [if_pos (by omega), if_pos (.inr h2)]
      rfl
    · rw [if_neg (by omega), if_pos (by omega), if_neg (by omega)]
      have e5 : shl .u16 (c : Int) ((a - n + 1 : Nat) : Int) = (((c * 2 ^ (a - n + 1)) % 65536 : Nat) : Int) := by
        unfold shl
        have em : min (((a - n + 1 : Nat) : Int)).toNat IntKind.u16.bits = a - n + 1 := by
          have : IntKind.u16.bits = 16 := rfl
          omega
        rw [em, show (c : Int) * 2 ^ (a - n + 1) = ((c * 2 ^ (a - n + 1) : Nat) : Int) by simp, u16w]
      have e6 : (c * 2 ^ (a - n + 1)) % 65536 = 2 * ((c * 2 ^ (a - n)) % 32768) := by
        rw [Nat.pow_succ, show (65536 : Nat) = 2 * 32768 from rfl, ← Nat.mul_assoc, Nat.mul_comm _ 2, Nat.mul_mod_mul_left]
      have e7 : Go.bits .or .u16 (((c * 2 ^ (a - n + 1)) % 65536 : Nat) : Int) 1 = (((c * 2 ^ (a - n + 1)) % 65536 + 1 : Nat) : Int) := by
        rw [e6, ← or_one]
        have := Nat.mod_lt (c * 2 ^ (a - n)) (show 32768 > 0 by omega)
        exact u16_or_nat _ 1 (by omega) (by omega)
      rw [e5, e7]
theorem alive_is (c : Nat) (n p u q : Int) : link_Link_Alive.f (c : Int) n p u q = some (decide (c ≠ 0), (c : Int), n, p, u, q) := by
  unfold link_Link_Alive.f
  by_cases h : c = 0
  · subst h; rfl
  · have h2 : ¬ ((c : Int) = 0) := by omega
    rw [decide_eq_true h]
    have : ((c : Int) != 0) = true := bne_iff_ne.2 h2
    rw [this]
theorem heard_is (c n p u q : Int) (a b : Nat) (hb : b < 1000000000) : link_Link_Heard.f c n p u q (a : Int) (b : Int) = some (c, n, ((max a 1 : Nat) : Int), ((b + 20 : Nat) : Int), q) := by
  unfold link_Link_Heard.f
  have e : IntKind.u64.wrap ((b : Int) + 20) = ((b + 20 : Nat) : Int) := u64w (b + 20) (by omega)
  have e2 : mx (a : Int) 1 = ((max a 1 : Nat) : Int) := by unfold mx; split <;> omega
  rw [e, e2]
theorem new_is (b : Nat) (hb : b < 1000000000) : link_New.f (b : Int) = some (0, 0, 65535, 0, ((b + 6 : Nat) : Int)) := by
  unfold link_New.f
  have e : IntKind.u64.wrap ((b : Int) + 6) = ((b + 6 : Nat) : Int) := u64w (b + 6) (by omega)
  rw [e]
theorem awake_is : milestonelaw14_awake.f = some true := by decide +kernel

/-! ## a tick -/
theorem tick_still (k : Nat) (c n p : Int) (u q b : Nat) (h : b < q) : link_Link_Tick.f (k + 1) c n p (u : Int) (q : Int) (b : Int) = some (c, n, if u ≤ b then 65535 else p, (u : Int), (q : Int)) := by
  unfold link_Link_Tick.f
  have e : link_Link_Tick.l0 (k + 1) c n (q : Int) (b : Int) = some (c, n, (q : Int)) := by
    rw [link_Link_Tick.l0]
    by_cases h0 : c = 0
    · rw [if_pos h0]
    · rw [if_neg h0, if_neg (by omega)]
  rw [e, Option.bind_some]
  by_cases h1 : u ≤ b
  · rw [if_pos (by omega), if_pos h1]
  · rw [if_neg (by omega), if_neg h1]
theorem tick_none (k : Nat) (n p q : Int) (u b : Nat) : link_Link_Tick.f (k + 1) 0 n p (u : Int) q (b : Int) = some (0, n, if u ≤ b then 65535 else p, (u : Int), q) := by
  unfold link_Link_Tick.f
  have e : link_Link_Tick.l0 (k + 1) 0 n q (b : Int) = some (0, n, q) := by
    rw [link_Link_Tick.l0, if_pos rfl]
  rw [e, Option.bind_some]
  by_cases h1 : u ≤ b
  · rw [if_pos (by omega), if_pos h1]
  · rw [if_neg (by omega), if_neg h1]
theorem tick_miss (k c n : Nat) (p : Int) (u q b : Nat) (hc : c ≠ 0) (hn : n < 1000000) (hq : q < 1000000) (h : q ≤ b) (h2 : b < q + 6) :
    link_Link_Tick.f (k + 2) (c : Int) (n : Int) p (u : Int) (q : Int) (b : Int) = some (((c * 2 % 65536 : Nat) : Int), ((n + 1 : Nat) : Int), if u ≤ b then 65535 else p, (u : Int), ((q + 6 : Nat) : Int)) := by
  unfold link_Link_Tick.f
  have e : link_Link_Tick.l0 (k + 2) (c : Int) (n : Int) (q : Int) (b : Int) = some (((c * 2 % 65536 : Nat) : Int), ((n + 1 : Nat) : Int), ((q + 6 : Nat) : Int)) := by
    have e1 : IntKind.u16.wrap ((c : Int) * 2) = ((c * 2 % 65536 : Nat) : Int) := u16w (c * 2)
    have e2 : IntKind.u64.wrap ((n : Int) + 1) = ((n + 1 : Nat) : Int) := u64w (n + 1) (by omega)
    have e3 : IntKind.u64.wrap ((q : Int) + 6) = ((q + 6 : Nat) : Int) := u64w (q + 6) (by omega)
    rw [link_Link_Tick.l0, if_neg (by omega), if_pos (by omega), e1, e2, e3, link_Link_Tick.l0]
    by_cases h0 : ((c * 2 % 65536 : Nat) : Int) = 0
    · rw [if_pos h0]
    · rw [if_neg h0, if_neg (by omega)]
  rw [e, Option.bind_some]
  by_cases h1 : u ≤ b
  · rw [if_pos (by omega), if_pos h1]
  · rw [if_neg (by omega), if_neg h1]
theorem recv_two (c : Nat) (h : c % 4 = 3) : recv c = 96 := by
  unfold recv
  have : c % 8 = 3 ∨ c % 8 = 7 := by omega
  rcases this with e | e <;> rw [e] <;> rfl
theorem hel_next (c : Nat) (h : c % 2 = 1) : hel c 0 % 4 = 3 := by
  unfold hel
  rw [if_neg (by omega)]
  omega

/-! ## LinkDies -/
theorem dvd_step {c m : Nat} (hc : c < 65536) (h : 2 ^ m ∣ c) (hm : m ≤ 15) : 2 ^ (m + 1) ∣ c * 2 % 65536 := by
  obtain ⟨z, rfl⟩ := h
  refine (Nat.dvd_mod_iff ?_).2 ?_
  · exact Nat.pow_dvd_pow 2 (show m + 1 ≤ 16 by omega)
  · exact ⟨z, by rw [Nat.pow_succ]; ac_rfl⟩
/-- so many ticks behind the last hello, of which so many were missed -/
def DSt (T i m c n q : Nat) : Prop := c < 65536 ∧ n < 2000 ∧ (c = 0 ∨ (2 ^ m ∣ c ∧ m ≤ 15 ∧ q = T + 6 * m + 6 ∧ 6 * m ≤ i ∧ i < 6 * m + 6 ∧ n ≤ 1000 + m))
theorem dies_tick (T i m c n q : Nat) (hT : T < 1000) (hi : i < 1000) (h : DSt T i m c n q) (p : Int) (u k : Nat) :
    ∃ m' c' n' q' : Nat, link_Link_Tick.f (k + 2) (c : Int) (n : Int) p (u : Int) (q : Int) ((T + (i + 1) : Nat) : Int) = some ((c' : Int), (n' : Int), (if u ≤ T + (i + 1) then 65535 else p), (u : Int), (q' : Int)) ∧ DSt T (i + 1) m' c' n' q' := by
  obtain ⟨hc, hn, h0 | ⟨hd, hm, hq, hlo, hhi, hnm⟩⟩ := h
  · subst h0
    exact ⟨m, 0, n, q, tick_none (k + 1) (n : Int) p (q : Int) u (T + (i + 1)), hc, hn, .inl rfl⟩
  · by_cases hz : c = 0
    · subst hz
      exact ⟨m, 0, n, q, tick_none (k + 1) (n : Int) p (q : Int) u (T + (i + 1)), hc, hn, .inl rfl⟩
    · by_cases hb : T + (i + 1) < q
      · exact ⟨m, c, n, q, tick_still (k + 1) (c : Int) (n : Int) p u q (T + (i + 1)) hb, hc, hn, .inr ⟨hd, hm, hq, by omega, by omega, hnm⟩⟩
      · refine ⟨m + 1, c * 2 % 65536, n + 1, q + 6, tick_miss k c n p u q (T + (i + 1)) hz (by omega) (by omega) (by omega) (by omega), Nat.mod_lt _ (by omega), by omega, ?_⟩
        have hs := dvd_step hc hd hm
        by_cases hm2 : m = 15
        · subst hm2
          have hlt : c * 2 % 65536 < 65536 := Nat.mod_lt _ (by omega)
          have : (2 : Nat) ^ (15 + 1) = 65536 := rfl
          rw [this] at hs
          exact .inl (Nat.eq_zero_of_dvd_of_lt hs hlt)
        · exact .inr ⟨hs, by omega, by omega, by omega, by omega, by omega⟩
theorem dies_two (lost : Bool) (hl : lost = true) (T : Nat) (hT : T < 1000) (d : Nat) : ∀ (i j m c n q k : Nat) (p : Int) (u : Nat), j + d = 120 → i = 20 + j → DSt T i m c n q → 2 * d + 10 < k →
    milestonelaw14_LinkDies.l2 k ((T + i : Nat) : Int) lost (j : Int) (c : Int) (n : Int) p (u : Int) (q : Int) = some true := by
  induction d with
  | zero =>
    intro i j m c n q k p u hj hi hD hk
    obtain ⟨k, rfl⟩ : ∃ m, k = m + 1 := ⟨k - 1, by omega⟩
    have hc0 : c = 0 := by
      obtain ⟨hc, hn, h0 | ⟨hd, hm, hq, hlo, hhi, hnm⟩⟩ := hD
      · exact h0
      · omega
    subst hc0
    have ha := alive_is 0 (n : Int) p (u : Int) (q : Int)
    have hr := recv_is 0 (by omega) (n : Int) p (u : Int) (q : Int)
    rw [milestonelaw14_LinkDies.l2, if_neg (by omega), if_pos hl, ha, Option.bind_some, if_neg (by simp), hr, Option.bind_some]
    rfl
  | succ d ih =>
    intro i j m c n q k p u hj hi hD hk
    obtain ⟨k, rfl⟩ : ∃ m, k = m + 2 + 1 := ⟨k - 3, by omega⟩
    obtain ⟨m', c', n', q', ht, hD'⟩ := dies_tick T i m c n q hT (by omega) hD p u k
    have key := fun p' => ih (i + 1) (j + 1) m' c' n' q' (k + 2) p' u (by omega) (by omega) hD' (by omega)
    have e1 : Aside0 (IntKind.u64.wrap (((T + i : Nat) : Int) + 1) = ((T + (i + 1) : Nat) : Int)) := ⟨u64w (T + i + 1) (by omega)⟩
    have e2 : Aside0 (wrap64 ((j : Int) + 1) = ((j + 1 : Nat) : Int)) := ⟨by unfold wrap64; omega⟩
    rw [milestonelaw14_LinkDies.l2, if_pos (by omega), e1.out, e2.out, ht, Option.bind_some]
    exact key _
theorem dies_one (T : Nat) (hT : T < 1000) (d : Nat) : ∀ (i m c n q k : Nat) (p : Int), i + d = 20 → DSt T i m c n q → (i = 20 → p = 65535) → 2 * d + 300 < k →
    milestonelaw14_LinkDies.l1 k ((T + i : Nat) : Int) (i : Int) (c : Int) (n : Int) p ((T + 20 : Nat) : Int) (q : Int) = some true := by
  induction d with
  | zero =>
    intro i m c n q k p hi hD hp hk
    obtain ⟨k, rfl⟩ : ∃ m, k = m + 1 := ⟨k - 1, by omega⟩
    have hi20 : i = 20 := by omega
    have hc := hD.1
    have key := dies_two true rfl T hT 120 i 0 m c n q k p (T + 20) (by omega) (by omega) hD (by omega)
    rw [hp hi20] at key ⊢
    rw [milestonelaw14_LinkDies.l1, if_neg (by omega), cost_is c hc, Option.bind_some]
    have e : (if recv c = 65535 then (65535 : Int) else 65535) = 65535 := by split <;> rfl
    rw [e]
    exact key
  | succ d ih =>
    intro i m c n q k p hi hD hp hk
    obtain ⟨k, rfl⟩ : ∃ m, k = m + 2 + 1 := ⟨k - 3, by omega⟩
    obtain ⟨m', c', n', q', ht, hD'⟩ := dies_tick T i m c n q hT (by omega) hD p (T + 20) k
    have key := ih (i + 1) m' c' n' q' (k + 2) (if T + 20 ≤ T + (i + 1) then 65535 else p) (by omega) hD' (fun h => by rw [if_pos (by omega)]) (by omega)
    have e1 : Aside0 (IntKind.u64.wrap (((T + i : Nat) : Int) + 1) = ((T + (i + 1) : Nat) : Int)) := ⟨u64w (T + i + 1) (by omega)⟩
    have e2 : Aside0 (wrap64 ((i : Int) + 1) = ((i + 1 : Nat) : Int)) := ⟨by unfold wrap64; omega⟩
    rw [milestonelaw14_LinkDies.l1, if_pos (by omega), e1.out, e2.out, ht, Option.bind_some]
    exact key
theorem dies_loop (S R C : Nat) (hC : C < 65536) (hS : S < 256) (hR : R < 256) (d : Nat) : ∀ (i k c : Nat) (p u q : Int), i + d = 2 + R % 30 → c < 65536 → (i = 0 → c = 0) → (i = 1 → c % 2 = 1) → (2 ≤ i → c % 4 = 3) → (0 < i → q = ((S + 2 * i + 6 : Nat) : Int)) → 2 * d + 500 < k →
    milestonelaw14_LinkDies.l0 k (R : Int) (C : Int) ((S + 2 * i : Nat) : Int) (i : Int) (c : Int) (i : Int) p u q = some true := by
  induction d with
  | zero =>
    intro i k c p u q hi hc h0 h1 h2 hq hk
    obtain ⟨k, rfl⟩ : ∃ m, k = m + 2 := ⟨k - 2, by omega⟩
    have h3 := h2 (by omega)
    have hq' := hq (by omega)
    have key := dies_one (S + 2 * i) (by omega) 20 0 0 c i (S + 2 * i + 6) k ((max C 1 : Nat) : Int) (by omega) ⟨hc, by omega, .inr ⟨⟨c, by omega⟩, by omega, by omega, by omega, by omega, by omega⟩⟩ (fun h => by omega) (by omega)
    have hd := heard_is (c : Int) (i : Int) p u q C (S + 2 * i) (by omega)
    have e1 : Aside0 (wrap64 (R : Int) = (R : Int)) := ⟨by unfold wrap64; omega⟩
    have e3 : Aside0 (Int.tmod (R : Int) 30 = ((R % 30 : Nat) : Int)) := ⟨by rw [Int.tmod_eq_emod_of_nonneg (Int.natCast_nonneg _)]; omega⟩
    have e2 : Aside0 (wrap64 (2 + ((R % 30 : Nat) : Int)) = ((2 + R % 30 : Nat) : Int)) := ⟨by unfold wrap64; omega⟩
    have ha := alive_is c (i : Int) ((max C 1 : Nat) : Int) ((S + 2 * i + 20 : Nat) : Int) q
    rw [decide_eq_true (show c ≠ 0 by omega)] at ha
    have hcst : link_Link_Cost.f (c : Int) (i : Int) ((max C 1 : Nat) : Int) ((S + 2 * i + 20 : Nat) : Int) q = some (((max C 1 : Nat) : Int), (c : Int), (i : Int), ((max C 1 : Nat) : Int), ((S + 2 * i + 20 : Nat) : Int), q) := by
      rw [cost_is c hc, recv_two c h3, if_neg (by decide)]
    have j1 : milestonelaw14_LinkDies.j1 (k + 1) ((S + 2 * i : Nat) : Int) false (c : Int) (i : Int) ((max C 1 : Nat) : Int) ((S + 2 * i + 20 : Nat) : Int) q = some true := by
      rw [milestonelaw14_LinkDies.j1, if_neg (by decide), hq']
      exact key
    rw [milestonelaw14_LinkDies.l0, e1.out, e3.out, e2.out, if_neg (by omega), hd, Option.bind_some, hcst, Option.bind_some, ha, Option.bind_some]
    by_cases hx : ((max C 1 : Nat) : Int) = 65535
    · rw [if_pos hx, if_pos (by omega)]
      exact j1
    · rw [if_neg hx]
      exact j1
  | succ d ih =>
    intro i k c p u q hi hc h0 h1 h2 hq hk
    obtain ⟨k, rfl⟩ : ∃ m, k = m + 1 := ⟨k - 1, by omega⟩
    have e1 : Aside0 (wrap64 (R : Int) = (R : Int)) := ⟨by unfold wrap64; omega⟩
    have e3 : Aside0 (Int.tmod (R : Int) 30 = ((R % 30 : Nat) : Int)) := ⟨by rw [Int.tmod_eq_emod_of_nonneg (Int.natCast_nonneg _)]; omega⟩
    have e2 : Aside0 (wrap64 (2 + ((R % 30 : Nat) : Int)) = ((2 + R % 30 : Nat) : Int)) := ⟨by unfold wrap64; omega⟩
    have e4 : Aside0 (IntKind.u64.wrap (i : Int) = (i : Int)) := ⟨u64w i (by omega)⟩
    have e5 : Aside0 (wrap64 ((i : Int) + 1) = ((i + 1 : Nat) : Int)) := ⟨by unfold wrap64; omega⟩
    have e6 : Aside0 (IntKind.u64.wrap (((S + 2 * i : Nat) : Int) + 2) = ((S + 2 * (i + 1) : Nat) : Int)) := ⟨u64w (S + 2 * (i + 1)) (by omega)⟩
    have hh := hello_is c i i (S + 2 * (i + 1)) hc (Nat.le_refl _) (by omega) (by omega) p u q
    have hl := hel_lt c (i - i)
    rw [Nat.sub_self] at hh hl
    have n1 : i = 0 → hel c 0 % 2 = 1 := fun h => by rw [h0 h]; rfl
    have n2 : 1 ≤ i → hel c 0 % 4 = 3 := fun h => hel_next c (by
      by_cases hi1 : i = 1
      · exact h1 hi1
      · have := h2 (by omega)
        omega)
    generalize hel c 0 = c' at *
    have key := ih (i + 1) k c' p u ((S + 2 * (i + 1) + 6 : Nat) : Int) (by omega) hl (by omega) (fun h => n1 (by omega)) (fun h => n2 (by omega)) (fun _ => rfl) (by omega)
    rw [milestonelaw14_LinkDies.l0, e1.out, e3.out, e2.out, if_pos (by omega), e4.out, e6.out, hh, Option.bind_some, e5.out]
    exact key
theorem LinkDies : milestonelaw14_LinkDies.Pure := by
  intro a0 a1 a2 h0 h1 h2
  have h0 := Go.bounds_u8 h0
  have h1 := Go.bounds_u8 h1
  have h2 := Go.bounds_u16 h2
  refine ⟨3001, ?_⟩
  obtain ⟨S, rfl⟩ := Int.eq_ofNat_of_zero_le h0.1
  obtain ⟨R, rfl⟩ := Int.eq_ofNat_of_zero_le h1.1
  obtain ⟨C, rfl⟩ := Int.eq_ofNat_of_zero_le h2.1
  have e1 : Aside0 (IntKind.u64.wrap (S : Int) = (S : Int)) := ⟨u64w S (by omega)⟩
  unfold milestonelaw14_LinkDies.f
  rw [awake_is, Option.bind_some, if_pos rfl, e1.out, new_is S (by omega), Option.bind_some]
  exact dies_loop S R C (by omega) (by omega) (by omega) (2 + R % 30) 0 3001 0 65535 0 ((S + 6 : Nat) : Int) (by omega) (by omega) (fun _ => rfl) (fun h => by omega) (fun h => by omega) (fun h => by omega) (by omega)

end Go.Proofs.Ytkdjpkgaknfdeaa.Pure
