/- Marks that are lowered: the nearest one of each prefix; what is feasible; which serial would be.
For every input; no condition is added to the given statement. -/
import Derived.Test.YtkngncckidlniaaQSourcePlaysx8
import Derived.Laws.BitsAllLaws
import Derived.OpenShut
import Derived.Lib.Bytes
namespace Go.Proofs.Ytkngncckidlniaa.Pure
open Go.RowKit Go.Proofs.Ytkngncckidlniaa.QSourcePlays Go.Proofs.YtkngncckidlniaaW.PrintWords Go.Proofs.YtkngncckidlniaaW.PrintLast Go.Proofs.YtkngncckidlniaaW.PrintMore
set_option linter.unusedSimpArgs false
set_option linter.unusedVariables false

def nearB (a b c d : Int) : Bool := (milestoneref01_Nearer.f a b c d).getD false
theorem near_is (a b c d : Int) : milestoneref01_Nearer.f a b c d = some (nearB a b c d) := by
  have h : ∃ r, milestoneref01_Nearer.f a b c d = some r := by
    unfold milestoneref01_Nearer.f
    split
    · exact ⟨_, rfl⟩
    · unfold milestoneref01_Newer.f
      split
      · exact ⟨_, rfl⟩
      · exact ⟨_, rfl⟩
  obtain ⟨r, h⟩ := h
  unfold nearB
  rw [h]
  rfl
theorem t3 (q : Nat) : Int.tmod (q : Int) 3 = ((q % 3 : Nat) : Int) := rfl
theorem d3 (q : Nat) : Int.tdiv (q : Int) 3 = ((q / 3 : Nat) : Int) := rfl
theorem d6 (q : Nat) : Int.tdiv (q : Int) 6 = ((q / 6 : Nat) : Int) := rfl
theorem prefix18 (k p : Nat) (hp : p < 256) : milestoneref07_Prefix.f k (p : Int) = milestoneref07_Prefix.f k ((p % 18 : Nat) : Int) := by
  unfold milestoneref07_Prefix.f
  rw [t3, t3, d3, d3, d6, d6]
  have e1 : (p % 18 : Nat) % 3 = p % 3 := by omega
  have e2 : (((p % 18 / 3 : Nat) : Int)) % 2 = ((p / 3 : Nat) : Int) % 2 := by omega
  have e3 : (((p % 18 / 6 : Nat) : Int)) % 256 % 3 = ((p / 6 : Nat) : Int) % 256 % 3 := by omega
  rw [e1, e2, e3]
theorem u8of (x : Int) (h : (Lit.int .u8 x).wf = true) : ∃ p : Nat, p < 256 ∧ x = (p : Int) := by
  simp [Lit.wf, IntKind.signed, IntKind.bits, IntKind.min, IntKind.max] at h
  exact ⟨x.toNat, by omega, by omega⟩
theorem rowPos_here (T : List S71) (i : Nat) (h : i < T.length) (hs : rowSrt T) : rowPos T T[i].f0.f0 T[i].f0.f1 = i := by
  have h1 := rowPos_lt T T[i].f0.f0 T[i].f0.f1 hs i h
  have h0 : cmpI T[i].f0.f0 T[i].f0.f1 T[i].f0.f0 T[i].f0.f1 = 0 := cmpI_eq.2 ⟨rfl, rfl⟩
  have h2 : ¬ i < rowPos T T[i].f0.f0 T[i].f0.f1 := fun h3 => by have := h1.2 h3; omega
  have h3 : ∀ j, j < i → j < rowPos T T[i].f0.f0 T[i].f0.f1 := fun j hj => (rowPos_lt T _ _ hs j (by omega)).1 (List.pairwise_iff_getElem.1 hs j i (by omega) h hj)
  rcases Nat.lt_trichotomy (rowPos T T[i].f0.f0 T[i].f0.f1) i with h4 | h4 | h4
  · exact absurd (h3 _ h4) (Nat.lt_irrefl _)
  · exact h4
  · exact absurd h4 h2
theorem near_eq (a b c d : Int) (ha : 0 ≤ a ∧ a < 65536) (hc : 0 ≤ c ∧ c < 65536) : serial_Nearer.f a b c d = some (nearB a b c d) := by
  have h := near_is a b c d
  rw [← h]
  unfold serial_Nearer.f serial_Newer.f milestoneref01_Nearer.f milestoneref01_Newer.f
  by_cases e : a = c
  · subst e
    simp
  · have e1 : IntKind.u16.wrap (a - c) = (a - c) % 65536 := by unfold IntKind.wrap; simp [IntKind.signed, IntKind.bits]
    have e2 : Int.tmod (wrap64 ((wrap64 ((wrap64 a) - (wrap64 c))) + 65536)) 65536 = (a - c) % 65536 := by
      have w : wrap64 ((wrap64 ((wrap64 a) - (wrap64 c))) + 65536) = a - c + 65536 := by unfold wrap64; omega
      rw [w, Int.tmod_eq_emod_of_nonneg (by omega)]
      omega
    rw [e1, e2]
    simp only [if_neg e, Option.bind_some]
    have hp : (a - c) % 65536 ≥ 1 := by omega
    rw [if_pos hp, Option.bind_some]
    by_cases hlt : (a - c) % 65536 < 32768
    · rw [decide_eq_true hlt, if_pos rfl, decide_eq_true (show (a - c) % 65536 ≤ 32767 by omega)]
    · rw [decide_eq_false hlt, if_neg (by simp), decide_eq_false (show ¬ (a - c) % 65536 ≤ 32767 by omega)]
theorem best_eq (a b c d : Int) (ha : 0 ≤ a ∧ a < 65536) (hc : 0 ≤ c ∧ c < 65536) : serial_Best.f a b c d = some (if nearB c d a b = false then (a, b) else (c, d)) := by
  unfold serial_Best.f
  rw [near_eq c d a b hc ha, Option.bind_some]
  cases nearB c d a b <;> rfl
theorem near_self (a b : Int) : nearB a b a b = false := by
  unfold nearB milestoneref01_Nearer.f
  rw [if_pos rfl]
  simp

/-! ## marks that are lowered: the nearest one of each prefix -/
def pk (k : Nat) : Int × Int := (milestoneref07_Prefix.f 60 (k : Int)).getD (0, 0)
def fk (k : Nat) : Nat := ((milestoneref07_First.f 60 (pk k).1 (pk k).2).getD 0).toNat
def kOk (k : Nat) : Bool := decide (milestoneref07_Prefix.f 60 (k : Int) = some (pk k)) && decide (milestoneref07_First.f 60 (pk k).1 (pk k).2 = some (fk k : Int)) && decide (fk k < 18) && decide (fk (fk k) = fk k) && decide (prefix_Right.f (pk k).1 (pk k).2 = some true)
theorem k_all : ((List.range 18).all kOk) = true := by decide +kernel
theorem k_is (k : Nat) (h : k < 18) : milestoneref07_Prefix.f 60 (k : Int) = some (pk k) ∧ milestoneref07_First.f 60 (pk k).1 (pk k).2 = some (fk k : Int) ∧ fk k < 18 ∧ fk (fk k) = fk k ∧ prefix_Right.f (pk k).1 (pk k).2 = some true := by
  have h1 := k_all
  rw [List.all_eq_true] at h1
  have h2 := h1 k (List.mem_range.2 h)
  unfold kOk at h2
  simp only [Bool.and_eq_true, decide_eq_true_eq] at h2
  exact ⟨h2.1.1.1.1, h2.1.1.1.2, h2.1.1.2, h2.1.2, h2.2⟩
theorem fk_of {k j : Nat} (h : pk k = pk j) : fk k = fk j := by unfold fk; rw [h]
def key (k : Nat) : S31 := ⟨(pk k).1, (pk k).2⟩
theorem key_ne {k j : Nat} (hk : fk k = k) (hj : fk j = j) (h : k ≠ j) : key k ≠ key j := fun e => h (by
  unfold key at e
  injection e with e1 e2
  rw [← hk, ← hj]
  exact fk_of (Prod.ext e1 e2))
def ent (k : Nat) (m : Int × Int) : S71 := ⟨key k, ⟨m.1, m.2⟩⟩
def mOk (m : Int × Int) : Prop := 0 ≤ m.1 ∧ m.1 < 65536
/-! ### a sorted list of entries by its keys -/
theorem hit_mem (T : List S71) (hs : rowSrt T) (x : S71) (hx : x ∈ T) : rowHit T x.f0.f0 x.f0.f1 = true ∧ rd_T71 T (rowPos T x.f0.f0 x.f0.f1 : Int) = x ∧ rowPos T x.f0.f0 x.f0.f1 < T.length := by
  obtain ⟨i, hi, rfl⟩ := List.getElem_of_mem hx
  have h := rowPos_here T i hi hs
  unfold rowHit
  rw [h, rd_cast T i hi]
  exact ⟨by rw [decide_eq_true hi, cmpI_eq.2 ⟨rfl, rfl⟩]; rfl, rfl, hi⟩
theorem hit_not (T : List S71) (p : S31) (h : ∀ x ∈ T, x.f0 ≠ p) : rowHit T p.f0 p.f1 = false := by
  unfold rowHit
  by_cases hl : rowPos T p.f0 p.f1 < T.length
  · rw [decide_eq_true hl, rd_cast T _ hl, Bool.true_and, beq_eq_false_iff_ne]
    intro e
    obtain ⟨e1, e2⟩ := cmpI_eq.1 e
    refine h T[rowPos T p.f0 p.f1] (List.getElem_mem hl) ?_
    show (⟨_, _⟩ : S31) = ⟨_, _⟩
    rw [e1, e2]
  · rw [decide_eq_false hl, Bool.false_and]
theorem srt_ne (T : List S71) (hs : rowSrt T) (i j : Nat) (hi : i < T.length) (hj : j < T.length) (h : i ≠ j) : T[i].f0 ≠ T[j].f0 := by
  intro e
  have hp := List.pairwise_iff_getElem.1 hs
  rcases Nat.lt_or_gt_of_ne h with h1 | h1
  · have := hp i j hi hj h1
    rw [e] at this
    have h0 : cmpI T[j].f0.f0 T[j].f0.f1 T[j].f0.f0 T[j].f0.f1 = 0 := cmpI_eq.2 ⟨rfl, rfl⟩
    omega
  · have := hp j i hj hi h1
    rw [e] at this
    have h0 : cmpI T[j].f0.f0 T[j].f0.f1 T[j].f0.f0 T[j].f0.f1 = 0 := cmpI_eq.2 ⟨rfl, rfl⟩
    omega
theorem set_mem (T : List S71) (hs : rowSrt T) (i : Nat) (hi : i < T.length) (y : S71) : y ∈ T.set i y ∧ (∀ z ∈ T.set i y, z = y ∨ (z ∈ T ∧ z.f0 ≠ T[i].f0)) ∧ ∀ z ∈ T, z.f0 ≠ T[i].f0 → z ∈ T.set i y := by
  refine ⟨?_, fun z hz => ?_, fun z hz hne => ?_⟩
  · exact List.mem_iff_getElem.2 ⟨i, by rw [List.length_set]; exact hi, by rw [List.getElem_set_self]⟩
  · obtain ⟨j, hj, rfl⟩ := List.getElem_of_mem hz
    rw [List.length_set] at hj
    rw [List.getElem_set]
    by_cases e : i = j
    · left; rw [if_pos e]
    · right; rw [if_neg e]; exact ⟨List.getElem_mem hj, srt_ne T hs j i hj hi (fun h => e h.symm)⟩
  · obtain ⟨j, hj, rfl⟩ := List.getElem_of_mem hz
    have e : i ≠ j := fun e => by subst e; exact hne rfl
    exact List.mem_iff_getElem.2 ⟨j, by rw [List.length_set]; exact hj, by rw [List.getElem_set_ne e]⟩
theorem ins_mem (T : List S71) (i : Nat) (y z : S71) : z ∈ T.take i ++ y :: T.drop i ↔ z = y ∨ z ∈ T := by
  rw [List.mem_append, List.mem_cons]
  constructor
  · rintro (h | h | h)
    · exact .inr (List.mem_of_mem_take h)
    · exact .inl h
    · exact .inr (List.mem_of_mem_drop h)
  · rintro (h | h)
    · exact .inr (.inl h)
    · have h2 : z ∈ T.take i ++ T.drop i := by rw [List.take_append_drop]; exact h
      rcases List.mem_append.1 h2 with h3 | h3
      · exact .inl h3
      · exact .inr (.inr h3)
/-! ### the invariant -/
def InvS (T : List S71) (M : Nat → Int × Int) (H : Nat → Bool) (n : Nat) : Prop :=
  rowSrt T ∧ T.length = n ∧ ∀ k, k < 18 → fk k = k → (H k = true → ent k (M k) ∈ T ∧ mOk (M k)) ∧ (H k = false → ∀ x ∈ T, x.f0 ≠ key k)
theorem u16w (x : Int) : IntKind.u16.wrap x = x % 65536 := by unfold IntKind.wrap; simp [IntKind.signed, IntKind.bits]
theorem rbest (a b c d : Int) : milestoneref01_Best.f a b c d = some (if nearB c d a b = false then (a, b) else (c, d)) := by
  unfold milestoneref01_Best.f
  rw [near_is, Option.bind_some]
  cases nearB c d a b <;> rfl
theorem hit_is {T : List S71} {M : Nat → Int × Int} {H : Nat → Bool} {n k : Nat} (h : InvS T M H n) (hk : k < 18) (hf : fk k = k) :
    rowHit T (pk k).1 (pk k).2 = H k ∧ (H k = true → rd_T71 T (rowPos T (pk k).1 (pk k).2 : Int) = ent k (M k) ∧ rowPos T (pk k).1 (pk k).2 < T.length ∧ mOk (M k)) := by
  obtain ⟨hs, hl, hm⟩ := h
  obtain ⟨h1, h2⟩ := hm k hk hf
  cases hh : H k
  · exact ⟨hit_not T (key k) (h2 hh), fun q => by cases q⟩
  · obtain ⟨g1, g2⟩ := h1 hh
    obtain ⟨q1, q2, q3⟩ := hit_mem T hs (ent k (M k)) g1
    exact ⟨q1, fun _ => ⟨q2, q3, g2⟩⟩
theorem act_pre (x : Int) (h : (Lit.int .u8 x).wf = true) : ∃ q : Nat, q < 18 ∧ milestoneref07_Prefix.f 60 x = some (pk q) := by
  obtain ⟨p, hp, rfl⟩ := u8of x h
  refine ⟨p % 18, Nat.mod_lt _ (by omega), ?_⟩
  rw [prefix18 60 p hp]
  exact (k_is _ (Nat.mod_lt _ (by omega))).1
theorem step_is : milestonelaw15_SourcePlays.Step InvS := by
  intro T M H n x hx hn hI
  obtain ⟨q, hq, hp⟩ := act_pre x.f0 hx.1
  obtain ⟨_, q2, q3, q4, _⟩ := k_is q hq
  obtain ⟨f1, f2, f3, f4, f5⟩ := k_is (fk q) q3
  obtain ⟨g1, g2⟩ := hit_is hI q3 q4
  have hr : ∃ r : Int, milestonelaw15_mark.f x.f0 x.f1 x.f2 = some (r, x.f2) ∧ 0 ≤ r ∧ r < 65536 := ⟨_, rfl, by rw [u16w]; omega, by rw [u16w]; omega⟩
  obtain ⟨r, hr1, hr2, hr3⟩ := hr
  obtain ⟨hs, hl, hm⟩ := hI
  generalize fk q = k at *
  by_cases hm5 : x.f2 = 65535
  · refine ⟨60, k, (pk q).1, (pk q).2, (pk k).1, (pk k).2, r, 1, T, hp, q2, q3, hr1, f1, ?_, fun _ => ⟨rfl, hs, hl, hm⟩, fun h => absurd hm5 h⟩
    unfold source_Source_Lower.f
    rw [f5, Option.bind_some, if_neg (fun h => h.2 hm5)]
  · cases hh : H k
    · rw [hh] at g1
      have hins : T.take (rowPos T (pk k).1 (pk k).2) ++ ent k (r, x.f2) :: T.drop (rowPos T (pk k).1 (pk k).2) = T.take (rowPos T (pk k).1 (pk k).2) ++ ent k (r, x.f2) :: T.drop (rowPos T (pk k).1 (pk k).2) := rfl
      refine ⟨60, k, (pk q).1, (pk q).2, (pk k).1, (pk k).2, r, 0, T.take (rowPos T (pk k).1 (pk k).2) ++ ent k (r, x.f2) :: T.drop (rowPos T (pk k).1 (pk k).2), hp, q2, q3, hr1, f1, ?_, fun h => absurd h hm5, fun _ => ⟨rfl, fun h => (by rw [hh] at h; cases h), fun _ => ⟨r, x.f2, ?_, ?_⟩⟩⟩
      · unfold source_Source_Lower.f
        rw [f5, Option.bind_some, if_pos ⟨rfl, hm5⟩, g1, if_neg (by simp), if_neg (by omega)]
        rfl
      · rw [rbest, near_self, if_pos rfl]
      · refine ⟨rowIns_srt T (ent k (r, x.f2)) hs g1, ?_, fun j hj hfj => ?_⟩
        · have hle := rowPos_le T (pk k).1 (pk k).2
          rw [List.length_append, List.length_cons, List.length_take, List.length_drop]
          omega
        · by_cases e : j = k
          · subst e
            rw [milestonelaw15_SourcePlays.up_at, milestonelaw15_SourcePlays.up_at]
            exact ⟨fun _ => ⟨(ins_mem _ _ _ _).2 (.inl rfl), hr2, hr3⟩, fun h => by cases h⟩
          · have e1 : milestonelaw15_SourcePlays.up H k true j = H j := if_neg e
            have e2 : milestonelaw15_SourcePlays.up (milestonelaw15_SourcePlays.up M k (r, x.f2)) k (r, x.f2) j = M j := (if_neg e).trans (if_neg e)
            rw [e1, e2]
            obtain ⟨m1, m2⟩ := hm j hj hfj
            refine ⟨fun h => ⟨(ins_mem _ _ _ _).2 (.inr (m1 h).1), (m1 h).2⟩, fun h z hz => ?_⟩
            rcases (ins_mem _ _ _ _).1 hz with rfl | hz
            · exact key_ne q4 hfj (fun h => e h.symm)
            · exact m2 h z hz
    · obtain ⟨r1, r2, r3⟩ := g2 hh
      rw [hh] at g1
      obtain ⟨b0, b1, hb⟩ : ∃ b0 b1 : Int, (if nearB r x.f2 (M k).1 (M k).2 = false then ((M k).1, (M k).2) else (r, x.f2)) = (b0, b1) := ⟨_, _, rfl⟩
      have hbo : mOk (b0, b1) := by
        by_cases c : nearB r x.f2 (M k).1 (M k).2 = false
        · rw [if_pos c] at hb
          rw [← hb]; exact r3
        · rw [if_neg c] at hb
          rw [← hb]; exact ⟨hr2, hr3⟩
      have hT : T[rowPos T (pk k).1 (pk k).2] = ent k (M k) := by rw [← rd_cast T _ r2]; exact r1
      obtain ⟨s1, s2, s3⟩ := set_mem T hs _ r2 (ent k (b0, b1))
      refine ⟨60, k, (pk q).1, (pk q).2, (pk k).1, (pk k).2, r, 0, T.set (rowPos T (pk k).1 (pk k).2) (ent k (b0, b1)), hp, q2, q3, hr1, f1, ?_, fun h => absurd h hm5, fun _ => ⟨rfl, fun _ => ⟨b0, b1, ?_, ?_⟩, fun h => by rw [hh] at h; cases h⟩⟩
      · unfold source_Source_Lower.f
        rw [f5, Option.bind_some, if_pos ⟨rfl, hm5⟩, g1, if_pos rfl, r1]
        show (serial_Best.f (M k).1 (M k).2 r x.f2).bind _ = _
        rw [best_eq _ _ _ _ r3 ⟨hr2, hr3⟩, Option.bind_some, hb]
        rfl
      · rw [rbest, hb]
      · refine ⟨rowSet_srt T _ _ hs r2 (by rw [hT]; rfl) (by rw [hT]; rfl), by rw [List.length_set]; exact hl, fun j hj hfj => ?_⟩
        rw [hT] at s2 s3
        by_cases e : j = k
        · subst e
          rw [milestonelaw15_SourcePlays.up_at, milestonelaw15_SourcePlays.up_at]
          exact ⟨fun _ => ⟨s1, hbo⟩, fun h => by cases h⟩
        · have e1 : milestonelaw15_SourcePlays.up H k true j = H j := if_neg e
          have e2 : milestonelaw15_SourcePlays.up M k (b0, b1) j = M j := if_neg e
          rw [e1, e2]
          obtain ⟨m1, m2⟩ := hm j hj hfj
          have hne : key j ≠ key k := key_ne hfj q4 e
          refine ⟨fun h => ⟨s3 _ (m1 h).1 hne, (m1 h).2⟩, fun h z hz => ?_⟩
          rcases s2 z hz with rfl | ⟨hz, _⟩
          · exact fun h => hne h.symm
          · exact m2 h z hz
theorem look_is : milestonelaw15_SourcePlays.Look InvS := by
  intro T M H n k hk hI
  obtain ⟨f1, f2, f3, f4, f5⟩ := k_is k hk
  refine ⟨60, (pk k).1, (pk k).2, _, f1, f2, fun hj => ?_⟩
  have hf : fk k = k := by omega
  obtain ⟨g1, g2⟩ := hit_is hI hk hf
  have e1 : source_Source_Mark.f T (pk k).1 (pk k).2 = some (if H k = true then (rd_T71 T (rowPos T (pk k).1 (pk k).2 : Int)).f1.f0 else 0, if H k = true then (rd_T71 T (rowPos T (pk k).1 (pk k).2 : Int)).f1.f1 else 0, H k, T) := by
    rw [← g1]; rfl
  have e2 : source_Source_Wants.f T (pk k).1 (pk k).2 = some (if H k = true then IntKind.u16.wrap ((rd_T71 T (rowPos T (pk k).1 (pk k).2 : Int)).f1.f0 + IntKind.u16.wrap 1) else 0, H k, T) := by
    rw [← g1]; rfl
  refine ⟨_, _, _, e1, e2, fun h => ?_⟩
  obtain ⟨r1, _, _⟩ := g2 h
  rw [if_pos h, if_pos h, if_pos h, r1]
  exact ⟨rfl, rfl, rfl⟩
theorem asks_is : milestonelaw15_SourcePlays.Asks InvS := by
  intro T M H n x hx hI
  obtain ⟨q, hq, hp⟩ := act_pre x.f0 hx.1
  obtain ⟨_, q2, q3, q4, _⟩ := k_is q hq
  obtain ⟨f1, f2, f3, f4, f5⟩ := k_is (fk q) q3
  obtain ⟨g1, g2⟩ := hit_is hI q3 q4
  have hr : ∃ r : Int, milestonelaw15_mark.f x.f0 x.f1 x.f2 = some (r, x.f2) ∧ 0 ≤ r ∧ r < 65536 := ⟨_, rfl, by rw [u16w]; omega, by rw [u16w]; omega⟩
  obtain ⟨r, hr1, hr2, hr3⟩ := hr
  generalize fk q = k at *
  cases hh : H k
  · rw [hh] at g1
    refine ⟨60, k, (pk q).1, (pk q).2, (pk k).1, (pk k).2, r, true, hp, q2, q3, hr1, f1, ?_, fun _ => rfl, fun _ _ => rfl, fun _ h => (by rw [hh] at h; cases h)⟩
    unfold source_Source_Feasible.f
    rw [g1, if_neg (by simp), if_neg (by simp), near_eq r x.f2 0 0 ⟨hr2, hr3⟩ ⟨by omega, by omega⟩, Option.bind_some]
    simp
  · obtain ⟨r1, _, r3⟩ := g2 hh
    rw [hh] at g1
    refine ⟨60, k, (pk q).1, (pk q).2, (pk k).1, (pk k).2, r, (x.f2 == 65535) || nearB r x.f2 (M k).1 (M k).2, hp, q2, q3, hr1, f1, ?_, fun h => (by rw [h]; rfl), fun _ h => (by rw [hh] at h; cases h), fun h _ => ?_⟩
    · unfold source_Source_Feasible.f
      rw [g1, if_pos rfl, if_pos rfl, r1]
      show (serial_Nearer.f r x.f2 (M k).1 (M k).2).bind _ = _
      rw [near_eq r x.f2 _ _ ⟨hr2, hr3⟩ r3, Option.bind_some]
      rfl
    · rw [near_is, beq_eq_false_iff_ne.2 h]
      rfl
theorem awake_srcp : milestonelaw15_awake.f = some true := by decide +kernel
theorem SourcePlays : milestonelaw15_SourcePlays.Pure :=
  ⟨awake_srcp, InvS, ⟨List.Pairwise.nil, rfl, fun k _ _ => ⟨fun h => (by cases h), fun _ x hx => (by simp at hx)⟩⟩, step_is, look_is, asks_is, fun T M H n h => h.2.1⟩

end Go.Proofs.Ytkngncckidlniaa.Pure
