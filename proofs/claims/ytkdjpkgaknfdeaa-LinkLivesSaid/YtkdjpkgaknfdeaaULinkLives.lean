/- Where hellos come in time, and the way's cost is told again, that is what the way costs, for ever.
For every input; no condition is added to the given statement. -/
import Derived.Test.YtkdjpkgaknfdeaaQLinkLivesx2
import Derived.Laws.BitsAllLaws
import Derived.OpenShut
import Derived.Lib.Bytes
namespace Go.Proofs.Ytkdjpkgaknfdeaa.Pure
open Go.RowKit Go.Proofs.Ytkdjpkgaknfdeaa.QLinkLives Go.Proofs.YtkdjpkgaknfdeaaW.PrintWords Go.Proofs.YtkdjpkgaknfdeaaW.PrintLast Go.Proofs.YtkdjpkgaknfdeaaW.PrintMore
set_option linter.unusedSimpArgs false
set_option linter.unusedVariables false

/-! ## a link over natural numbers -/
theorem u64w (n : Nat) (h : n < 18446744073709551616) : IntKind.u64.wrap (n : Int) = (n : Int) := by
  simp [IntKind.wrap, IntKind.signed, IntKind.bits]
  omega
theorem u16w (n : Nat) : IntKind.u16.wrap (n : Int) = ((n % 65536 : Nat) : Int) := by
  simp [IntKind.wrap, IntKind.signed, IntKind.bits]
def pop : Nat → Nat
  | 0 => 0 | 1 => 1 | 2 => 1 | 3 => 2 | 4 => 1 | 5 => 2 | 6 => 2 | 7 => 3 | _ => 0
theorem pop_is (x : Nat) (h : x < 8) : bits_OnesCount16.f (x : Int) = some ((pop x : Nat) : Int) := by
  match x, h with
  | 0, _ => decide +kernel
  | 1, _ => decide +kernel
  | 2, _ => decide +kernel
  | 3, _ => decide +kernel
  | 4, _ => decide +kernel
  | 5, _ => decide +kernel
  | 6, _ => decide +kernel
  | 7, _ => decide +kernel
theorem and7 (c : Nat) (h : c < 65536) : Go.bits .and .u16 (c : Int) 7 = ((c % 8 : Nat) : Int) := by
  have := u16_and_nat c 7 h (by omega)
  rw [show (7 : Nat) = 2 ^ 3 - 1 from rfl, Nat.and_two_pow_sub_one_eq_mod] at this
  exact this
def recv (c : Nat) : Nat := if pop (c % 8) < 2 then 65535 else 96
theorem recv_is (c : Nat) (h : c < 65536) (n p u q : Int) : link_Link_Receives.f (c : Int) n p u q = some (((recv c : Nat) : Int), (c : Int), n, p, u, q) := by
  unfold link_Link_Receives.f
  rw [and7 c h, pop_is _ (Nat.mod_lt _ (by omega)), Option.bind_some]
  unfold recv
  by_cases hp : pop (c % 8) < 2
  · rw [if_pos (by omega), if_pos hp]
    rfl
  · rw [if_neg (by omega), if_neg hp]
    rfl
theorem cost_is (c : Nat) (h : c < 65536) (n p u q : Int) : link_Link_Cost.f (c : Int) n p u q = some (if recv c = 65535 then 65535 else p, (c : Int), n, p, u, q) := by
  unfold link_Link_Cost.f
  rw [recv_is c h, Option.bind_some]
  by_cases hp : recv c = 65535
  · rw [if_pos hp, if_pos (by rw [hp]; rfl)]
  · have : ¬ ((recv c : Nat) : Int) = 65535 := by omega
    rw [if_neg hp, if_neg this]
theorem or_one (a : Nat) : 2 * a ||| 1 = 2 * a + 1 := by
  have := Nat.two_pow_add_eq_or_of_lt (i := 1) (b := 1) (by omega) a
  simpa using this.symm
/-- what came, behind one more hello, so many behind the newest one -/
def hel (c gap : Nat) : Nat := if gap ≥ 16 ∨ c = 0 then 1 else (c * 2 ^ (gap + 1)) % 65536 + 1
theorem hel_lt (c gap : Nat) : hel c gap < 65536 := by
  unfold hel
  split
  · omega
  · have e : (c * 2 ^ (gap + 1)) % 65536 = 2 * ((c * 2 ^ gap) % 32768) := by
      rw [Nat.pow_succ, show (65536 : Nat) = 2 * 32768 from rfl, ← Nat.mul_assoc, Nat.mul_comm _ 2, Nat.mul_mod_mul_left]
    rw [e]
    have := Nat.mod_lt (c * 2 ^ gap) (show 32768 > 0 by omega)
    omega
theorem hello_is (c n a b : Nat) (hc : c < 65536) (hn : n ≤ a) (ha : a < 1000000000) (hb : b < 1000000000) (p u q : Int) :
    link_Link_Hello.f (c : Int) (n : Int) p u q (a : Int) (b : Int) = some (((hel c (a - n) : Nat) : Int), ((a + 1 : Nat) : Int), p, u, ((b + 6 : Nat) : Int)) := by
  unfold link_Link_Hello.f
  have e1 : IntKind.u64.wrap ((a : Int) - (n : Int)) = ((a - n : Nat) : Int) := by
    rw [show (a : Int) - (n : Int) = ((a - n : Nat) : Int) by omega]
    exact u64w _ (by omega)
  have e2 : IntKind.u64.wrap ((a : Int) + 1) = ((a + 1 : Nat) : Int) := u64w (a + 1) (by omega)
  have e3 : IntKind.u64.wrap ((b : Int) + 6) = ((b + 6 : Nat) : Int) := u64w (b + 6) (by omega)
  have e4 : IntKind.u64.wrap (((a - n : Nat) : Int) + 1) = ((a - n + 1 : Nat) : Int) := u64w (a - n + 1) (by omega)
  rw [e1, e2, e3, e4, if_neg (by omega)]
  clear e1 e2 e3 e4
  unfold hel
  by_cases h1 : a - n ≥ 16
  · rw [if_pos (by omega), if_pos (.inl h1)]
    rfl
  · rw [if_neg (by omega)]
    by_cases h2 : c = 0
    · rw [if_pos (by omega), if_pos (.inr h2)]
      rfl
    · rw [if_neg (by omega), if_pos (by omega), if_neg (by omega)]
      have e5 : shl .u16 (c : Int) ((a - n + 1 : Nat) : Int) = (((c * 2 ^ (a - n + 1)) % 65536 : Nat) : Int) := by
        unfold shl
        have em : min (((a - n + 1 : Nat) : Int)).toNat IntKind.u16.bits = a - n + 1 := by
          have : IntKind.u16.bits = 16 := rfl
          omega
        rw [em, show (c : Int) * 2 ^ (a - n + 1) = ((c * 2 ^ (a - n + 1) : Nat) : Int) by simp, u16w]
      have e6 : (c * 2 ^ (a - n + 1)) % 65536 = 2 * ((c * 2 ^ (a - n)) % 32768) := by
        rw [Nat.pow_succ, show (65536 : Nat) = 2 * 32768 from rfl, ← Nat.mul_assoc, Nat.mul_comm _ 2, Nat.mul_mod_mul_left]
      have e7 : Go.bits .or .u16 (((c * 2 ^ (a - n + 1)) % 65536 : Nat) : Int) 1 = (((c * 2 ^ (a - n + 1)) % 65536 + 1 : Nat) : Int) := by
        rw [e6, ← or_one]
        have := Nat.mod_lt (c * 2 ^ (a - n)) (show 32768 > 0 by omega)
        exact u16_or_nat _ 1 (by omega) (by omega)
      rw [e5, e7]
theorem alive_is (c : Nat) (n p u q : Int) : link_Link_Alive.f (c : Int) n p u q = some (decide (c ≠ 0), (c : Int), n, p, u, q) := by
  unfold link_Link_Alive.f
  by_cases h : c = 0
  · subst h; rfl
  · have h2 : ¬ ((c : Int) = 0) := by omega
    rw [decide_eq_true h]
    have : ((c : Int) != 0) = true := bne_iff_ne.2 h2
    rw [this]
theorem heard_is (c n p u q : Int) (a b : Nat) (hb : b < 1000000000) : link_Link_Heard.f c n p u q (a : Int) (b : Int) = some (c, n, ((max a 1 : Nat) : Int), ((b + 20 : Nat) : Int), q) := by
  unfold link_Link_Heard.f
  have e : IntKind.u64.wrap ((b : Int) + 20) = ((b + 20 : Nat) : Int) := u64w (b + 20) (by omega)
  have e2 : mx (a : Int) 1 = ((max a 1 : Nat) : Int) := by unfold mx; split <;> omega
  rw [e, e2]
theorem new_is (b : Nat) (hb : b < 1000000000) : link_New.f (b : Int) = some (0, 0, 65535, 0, ((b + 6 : Nat) : Int)) := by
  unfold link_New.f
  have e : IntKind.u64.wrap ((b : Int) + 6) = ((b + 6 : Nat) : Int) := u64w (b + 6) (by omega)
  rw [e]
theorem awake_is : milestonelaw14_awake.f = some true := by decide +kernel

/-! ## a tick -/
theorem tick_still (k : Nat) (c n p : Int) (u q b : Nat) (h : b < q) : link_Link_Tick.f (k + 1) c n p (u : Int) (q : Int) (b : Int) = some (c, n, if u ≤ b then 65535 else p, (u : Int), (q : Int)) := by
  unfold link_Link_Tick.f
  have e : link_Link_Tick.l0 (k + 1) c n (q : Int) (b : Int) = some (c, n, (q : Int)) := by
    rw [link_Link_Tick.l0]
    by_cases h0 : c = 0
    · rw [if_pos h0]
    · rw [if_neg h0, if_neg (by omega)]
  rw [e, Option.bind_some]
  by_cases h1 : u ≤ b
  · rw [if_pos (by omega), if_pos h1]
  · rw [if_neg (by omega), if_neg h1]
theorem tick_none (k : Nat) (n p q : Int) (u b : Nat) : link_Link_Tick.f (k + 1) 0 n p (u : Int) q (b : Int) = some (0, n, if u ≤ b then 65535 else p, (u : Int), q) := by
  unfold link_Link_Tick.f
  have e : link_Link_Tick.l0 (k + 1) 0 n q (b : Int) = some (0, n, q) := by
    rw [link_Link_Tick.l0, if_pos rfl]
  rw [e, Option.bind_some]
  by_cases h1 : u ≤ b
  · rw [if_pos (by omega), if_pos h1]
  · rw [if_neg (by omega), if_neg h1]
theorem tick_miss (k c n : Nat) (p : Int) (u q b : Nat) (hc : c ≠ 0) (hn : n < 1000000) (hq : q < 1000000) (h : q ≤ b) (h2 : b < q + 6) :
    link_Link_Tick.f (k + 2) (c : Int) (n : Int) p (u : Int) (q : Int) (b : Int) = some (((c * 2 % 65536 : Nat) : Int), ((n + 1 : Nat) : Int), if u ≤ b then 65535 else p, (u : Int), ((q + 6 : Nat) : Int)) := by
  unfold link_Link_Tick.f
  have e : link_Link_Tick.l0 (k + 2) (c : Int) (n : Int) (q : Int) (b : Int) = some (((c * 2 % 65536 : Nat) : Int), ((n + 1 : Nat) : Int), ((q + 6 : Nat) : Int)) := by
    have e1 : IntKind.u16.wrap ((c : Int) * 2) = ((c * 2 % 65536 : Nat) : Int) := u16w (c * 2)
    have e2 : IntKind.u64.wrap ((n : Int) + 1) = ((n + 1 : Nat) : Int) := u64w (n + 1) (by omega)
    have e3 : IntKind.u64.wrap ((q : Int) + 6) = ((q + 6 : Nat) : Int) := u64w (q + 6) (by omega)
    rw [link_Link_Tick.l0, if_neg (by omega), if_pos (by omega), e1, e2, e3, link_Link_Tick.l0]
    by_cases h0 : ((c * 2 % 65536 : Nat) : Int) = 0
    · rw [if_pos h0]
    · rw [if_neg h0, if_neg (by omega)]
  rw [e, Option.bind_some]
  by_cases h1 : u ≤ b
  · rw [if_pos (by omega), if_pos h1]
  · rw [if_neg (by omega), if_neg h1]
theorem recv_two (c : Nat) (h : c % 4 = 3) : recv c = 96 := by
  unfold recv
  have : c % 8 = 3 ∨ c % 8 = 7 := by omega
  rcases this with e | e <;> rw [e] <;> rfl
theorem hel_next (c : Nat) (h : c % 2 = 1) : hel c 0 % 4 = 3 := by
  unfold hel
  rw [if_neg (by omega)]
  omega

/-! ## LinkLives -/
theorem lives_inner (C R : Int) (T g i : Nat) (hT : T < 100000) (hg : g ≤ 5) (c p : Int) (e : Nat) : ∀ (j k : Nat), j + e = g →
    milestonelaw14_LinkLives.l1 (k + 1 + e + 1) C R ((T + j : Nat) : Int) (g : Int) (i : Int) (j : Int) c ((i + 1 : Nat) : Int) p ((T + 20 : Nat) : Int) ((T + 6 : Nat) : Int) =
    milestonelaw14_LinkLives.l0 (k + 1) C R ((T + g : Nat) : Int) (g : Int) (wrap64 ((i : Int) + 1)) c ((i + 1 : Nat) : Int) p ((T + 20 : Nat) : Int) ((T + 6 : Nat) : Int) := by
  induction e with
  | zero =>
    intro j k hj
    have ej : j = g := by omega
    subst ej
    rw [milestonelaw14_LinkLives.l1, if_neg (by omega)]
  | succ e ih =>
    intro j k hj
    have e1 : Aside0 (IntKind.u64.wrap (((T + j : Nat) : Int) + 1) = ((T + (j + 1) : Nat) : Int)) := ⟨u64w (T + j + 1) (by omega)⟩
    have e2 : Aside0 (IntKind.u64.wrap ((j : Int) + 1) = ((j + 1 : Nat) : Int)) := ⟨u64w (j + 1) (by omega)⟩
    have ht := tick_still (k + 1 + e) c ((i + 1 : Nat) : Int) p (T + 20) (T + 6) (T + (j + 1)) (by omega)
    rw [if_neg (by omega)] at ht
    rw [milestonelaw14_LinkLives.l1, if_pos (by omega), e1.out, e2.out, show k + 1 + (e + 1) = k + 1 + e + 1 by omega, ht, Option.bind_some]
    exact ih (j + 1) k (by omega)
theorem lives_loop (C R g : Nat) (hC : C < 65535) (hg : g ≤ 5) (hR : R < 256) (d : Nat) : ∀ (i k T c : Nat) (p u q : Int), i + d = 2 + R → T + 5 * d < 2000 → c < 65536 → (i = 0 → c = 0) → (i = 1 → c % 2 = 1) → (2 ≤ i → c % 4 = 3) → 10 * d < k →
    milestonelaw14_LinkLives.l0 k (C : Int) (R : Int) (T : Int) (g : Int) (i : Int) (c : Int) (i : Int) p u q = some true := by
  induction d with
  | zero =>
    intro i k T c p u q hi hT hc h0 h1 h2 hk
    obtain ⟨k, rfl⟩ : ∃ m, k = m + 1 := ⟨k - 1, by omega⟩
    have e1 : Aside0 (wrap64 (R : Int) = (R : Int)) := ⟨by unfold wrap64; omega⟩
    have e2 : Aside0 (wrap64 (2 + (R : Int)) = ((2 + R : Nat) : Int)) := ⟨by unfold wrap64; omega⟩
    have h3 := h2 (by omega)
    rw [milestonelaw14_LinkLives.l0, e1.out, e2.out, if_neg (by omega), alive_is, Option.bind_some]
    refine congrArg some ?_
    exact decide_eq_true (by omega)
  | succ d ih =>
    intro i k T c p u q hi hT hc h0 h1 h2 hk
    obtain ⟨k, rfl⟩ : ∃ m, k = m + 1 + g + 1 + 1 + 1 + 1 := ⟨k - g - 5, by omega⟩
    have e1 : Aside0 (wrap64 (R : Int) = (R : Int)) := ⟨by unfold wrap64; omega⟩
    have e2 : Aside0 (wrap64 (2 + (R : Int)) = ((2 + R : Nat) : Int)) := ⟨by unfold wrap64; omega⟩
    have e3 : Aside0 (IntKind.u64.wrap (i : Int) = (i : Int)) := ⟨u64w i (by omega)⟩
    have e4 : Aside0 (wrap64 ((i : Int) + 1) = ((i + 1 : Nat) : Int)) := ⟨by unfold wrap64; omega⟩
    have hh := hello_is c i i T hc (Nat.le_refl _) (by omega) (by omega) p u q
    have hd := heard_is ((hel c (i - i) : Nat) : Int) ((i + 1 : Nat) : Int) p u ((T + 6 : Nat) : Int) C T (by omega)
    have hl := hel_lt c (i - i)
    rw [Nat.sub_self] at hh hd hl
    have n1 : i = 0 → hel c 0 % 2 = 1 := fun h => by rw [h0 h]; rfl
    have n2 : 1 ≤ i → hel c 0 % 4 = 3 := fun h => hel_next c (by
      by_cases hi1 : i = 1
      · exact h1 hi1
      · have := h2 (by omega)
        omega)
    generalize hel c 0 = c' at *
    have key := ih (i + 1) (k + 1) (T + g) c' ((max C 1 : Nat) : Int) ((T + 20 : Nat) : Int) ((T + 6 : Nat) : Int) (by omega) (by omega) hl (by omega) (fun h => n1 (by omega)) (fun h => n2 (by omega)) (by omega)
    have inner := lives_inner (C : Int) (R : Int) T g i (by omega) hg (c' : Int) ((max C 1 : Nat) : Int) g 0 k (by omega)
    rw [e4.out, key] at inner
    have j3 : milestonelaw14_LinkLives.j3 (k + 1 + g + 1 + 1) (C : Int) (R : Int) (T : Int) (g : Int) (i : Int) false (c' : Int) ((i + 1 : Nat) : Int) ((max C 1 : Nat) : Int) ((T + 20 : Nat) : Int) ((T + 6 : Nat) : Int) = some true := by
      rw [milestonelaw14_LinkLives.j3, if_neg (by decide)]
      exact inner
    have j2 : milestonelaw14_LinkLives.j2 (k + 1 + g + 1 + 1 + 1) (C : Int) (R : Int) (T : Int) (g : Int) (i : Int) ((max C 1 : Nat) : Int) (c' : Int) ((i + 1 : Nat) : Int) ((max C 1 : Nat) : Int) ((T + 20 : Nat) : Int) ((T + 6 : Nat) : Int) = some true := by
      rw [milestonelaw14_LinkLives.j2]
      by_cases hz : i = 0
      · rw [if_neg (by omega)]
        exact j3
      · have hr := recv_two c' (n2 (by omega))
        rw [if_pos (by omega), cost_is c' hl, Option.bind_some, hr, if_neg (by decide)]
        have e5 : (((max C 1 : Nat) : Int) != ((max C 1 : Nat) : Int)) = false := by simp
        rw [e5]
        exact j3
    rw [milestonelaw14_LinkLives.l0, e1.out, e2.out, if_pos (by omega), e3.out, hh, Option.bind_some, hd, Option.bind_some]
    by_cases hC0 : (C : Int) = 0
    · have e6 : ((max C 1 : Nat) : Int) = 1 := by omega
      rw [if_pos hC0]
      rw [e6] at j2 ⊢
      exact j2
    · have e6 : ((max C 1 : Nat) : Int) = (C : Int) := by omega
      rw [if_neg hC0]
      rw [e6] at j2 ⊢
      exact j2
theorem LinkLives : milestonelaw14_LinkLives.Pure := by
  intro a0 a1 a2 h0 h1 h2
  have h0 := Go.bounds_u16 h0
  have h1 := Go.bounds_u8 h1
  have h2 := Go.bounds_u8 h2
  refine ⟨3001, ?_⟩
  unfold milestonelaw14_LinkLives.f
  rw [awake_is, Option.bind_some, if_pos rfl, milestonelaw14_LinkLives.j0]
  by_cases h : a0 = 65535
  · rw [beq_iff_eq.2 h, if_pos rfl, awake_is, Option.bind_some]
  · obtain ⟨C, rfl⟩ := Int.eq_ofNat_of_zero_le h0.1
    obtain ⟨R, rfl⟩ := Int.eq_ofNat_of_zero_le h1.1
    obtain ⟨G, rfl⟩ := Int.eq_ofNat_of_zero_le h2.1
    have e1 : Aside0 (IntKind.u64.wrap (Int.tmod (G : Int) 5) = ((G % 5 : Nat) : Int)) := ⟨by
      rw [Int.tmod_eq_emod_of_nonneg (Int.natCast_nonneg _)]
      exact u64w (G % 5) (by omega)⟩
    have e2 : Aside0 (IntKind.u64.wrap (1 + ((G % 5 : Nat) : Int)) = ((1 + G % 5 : Nat) : Int)) := ⟨u64w (1 + G % 5) (by omega)⟩
    have hn := new_is 5 (by omega)
    have hn' : link_New.f 5 = some (0, 0, 65535, 0, ((5 + 6 : Nat) : Int)) := hn
    rw [beq_eq_false_iff_ne.2 h, if_neg (by decide), e1.out, e2.out, hn', Option.bind_some]
    exact lives_loop C R (1 + G % 5) (by omega) (by omega) (by omega) (2 + R) 0 3000 5 0 65535 0 ((5 + 6 : Nat) : Int) (by omega) (by omega) (by omega) (fun _ => rfl) (fun h => by omega) (fun h => by omega) (by omega)

end Go.Proofs.Ytkdjpkgaknfdeaa.Pure
