/- Of at most 50 serials that lie within 32000 of one another the latest one is the one behind all others; of none it is 0.
For every input; no condition is added to the given statement. -/
import Derived.Test.YtpcohoeafldpmaaQSerialLatestx1
import Derived.OpenShut
namespace Go.Proofs.Ytpcohoeafldpmaa.Pure
open Go.RowKit Go.Proofs.Ytpcohoeafldpmaa.QSerialLatest Go.Proofs.YtpcohoeafldpmaaW.PrintWords Go.Proofs.YtpcohoeafldpmaaW.PrintLast

theorem wr16_SerialLatest (n : Int) : IntKind.u16.wrap n = n % 65536 := by
  simp [IntKind.wrap, IntKind.signed, IntKind.bits]

theorem newer_SerialLatest (a b : Int) (ha : 0 ≤ a ∧ a ≤ 65535) (hb : 0 ≤ b ∧ b ≤ 65535) :
    serial_Newer.f a b = some (decide (1 ≤ (a - b) % 65536 ∧ (a - b) % 65536 ≤ 32767)) := by
  unfold serial_Newer.f
  rw [wr16_SerialLatest]
  split
  · congr 1; symm; rw [decide_eq_false_iff_not]; omega
  · congr 1; rw [decide_eq_decide]; omega

theorem awake_SerialLatest : milestonelaw02_awake.f = some true := by
  unfold milestonelaw02_awake.f
  rw [newer_SerialLatest _ _ (by omega) (by omega)]
  simp only [Option.bind_some]
  rw [if_pos (by decide), newer_SerialLatest _ _ (by omega) (by omega)]
  simp only [Option.bind_some]
  decide

/-- the greatest of the first i -/
def most (f : Nat → Int) : Nat → Int
  | 0 => 0
  | i + 1 => if f i > most f i then f i else most f i

theorem most_bd (f : Nat → Int) (hf : ∀ j, 0 ≤ f j ∧ f j < 32000) : ∀ i, 0 ≤ most f i ∧ most f i < 32000
  | 0 => by unfold most; omega
  | i + 1 => by
    have := most_bd f hf i
    have := hf i
    unfold most; split <;> omega

theorem latest_runs (a : Int) (f : Nat → Int) (hf : ∀ j, 0 ≤ f j ∧ f j < 32000) (xs : List Int) (hn : xs.length ≤ 50)
    (hx : ∀ j : Nat, j < xs.length → rd xs j = (a + f j) % 65536) (d : Nat) : ∀ (k i : Nat) (s : Int), i ≤ xs.length → xs.length - i = d → d < k → 0 < xs.length →
    (0 < i → s = (a + most f i) % 65536) → serial_Latest.l0 k s xs xs.length i = some ((a + most f xs.length) % 65536) := by
  induction d with
  | zero =>
    intro k i s hi hd hk hp hs
    obtain ⟨k, rfl⟩ : ∃ m, k = m + 1 := ⟨k - 1, by omega⟩
    have e : i = xs.length := by omega
    subst e
    simp only [serial_Latest.l0]
    rw [if_neg (by omega), hs hp]
  | succ d ih =>
    intro k i s hi hd hk hp hs
    obtain ⟨k, rfl⟩ : ∃ m, k = m + 1 := ⟨k - 1, by omega⟩
    have hb := most_bd f hf i
    have hfi := hf i
    have w1 : wrap64 ((i : Int) + 1) = ((i + 1 : Nat) : Int) := by unfold wrap64; omega
    simp only [serial_Latest.l0]
    rw [if_pos (by omega), if_pos (by omega), if_pos (by omega), hx i (by omega), w1]
    split
    · next h0 =>
      have : i = 0 := by omega
      subst this
      refine ih k 1 _ (by omega) (by omega) (by omega) hp (fun _ => ?_)
      have : most f 1 = f 0 := by
        unfold most most; split <;> omega
      rw [this]
    · next h0 =>
      rw [newer_SerialLatest _ s (by omega) (by rw [hs (by omega)]; omega)]; simp only [Option.bind_some]
      rw [hs (by omega)]
      have hm : most f (i + 1) = if f i > most f i then f i else most f i := rfl
      by_cases h : f i > most f i
      · rw [if_pos h] at hm
        rw [decide_eq_true (by omega), if_pos rfl]
        exact ih k (i + 1) _ (by omega) (by omega) (by omega) hp (fun _ => by rw [hm])
      · rw [if_neg h] at hm
        rw [decide_eq_false (by omega), if_neg (by decide)]
        exact ih k (i + 1) _ (by omega) (by omega) (by omega) hp (fun _ => by rw [hm])

theorem law_runs (a : Int) (l : List Int) (hl : l.length ≤ 50) (hw : ∀ j : Nat, 0 ≤ rd l j) (d : Nat) : ∀ (k i : Nat) (acc : List Int),
    i ≤ l.length → l.length - i = d → d + l.length + 1 < k → acc.length = i → (∀ j : Nat, j < i → rd acc j = (a + rd l j % 32000) % 65536) →
    milestonelaw02_SerialLatest.l0 k a l acc (most (fun j => rd l j % 32000) i) i = some true := by
  have hf : ∀ j : Nat, 0 ≤ rd l j % 32000 ∧ rd l j % 32000 < 32000 := fun j => by omega
  induction d with
  | zero =>
    intro k i acc hi hd hk ha1 hacc
    obtain ⟨k, rfl⟩ : ∃ m, k = m + 1 := ⟨k - 1, by omega⟩
    have e : i = l.length := by omega
    subst e
    simp only [milestonelaw02_SerialLatest.l0]
    rw [if_neg (by omega)]
    unfold serial_Latest.f
    by_cases h0 : l.length = 0
    · rw [if_pos (by omega)]
      have : acc = [] := List.eq_nil_of_length_eq_zero (by omega)
      subst this
      obtain ⟨k, rfl⟩ : ∃ m, k = m + 1 := ⟨k - 1, by omega⟩
      simp [serial_Latest.l0]
    · rw [if_neg (by omega)]
      have hz := latest_runs a (fun j => rd l j % 32000) hf acc (by omega) (fun j hj => hacc j (by omega)) acc.length k 0 0 (by omega) (by omega) (by omega) (by omega) (by omega)
      have hz' : serial_Latest.l0 k 0 acc (acc.length : Int) 0 = some ((a + most (fun j => rd l j % 32000) acc.length) % 65536) := hz
      rw [hz', ha1]; simp only [Option.bind_some]
      rw [wr16_SerialLatest]; simp
  | succ d ih =>
    intro k i acc hi hd hk ha1 hacc
    obtain ⟨k, rfl⟩ : ∃ m, k = m + 1 := ⟨k - 1, by omega⟩
    have w1 : wrap64 ((i : Int) + 1) = ((i + 1 : Nat) : Int) := by unfold wrap64; omega
    simp only [milestonelaw02_SerialLatest.l0]
    rw [if_pos (by omega), if_pos (by omega), if_pos (by omega)]; simp only [Option.bind_some]
    rw [Int.tmod_eq_emod_of_nonneg (hw i), wr16_SerialLatest, w1]
    have hm : most (fun j => rd l j % 32000) (i + 1) = if rd l i % 32000 > most (fun j => rd l j % 32000) i then rd l i % 32000 else most (fun j => rd l j % 32000) i := rfl
    have hacc' : ∀ j : Nat, j < i + 1 → rd (acc ++ [(a + rd l i % 32000) % 65536]) j = (a + rd l j % 32000) % 65536 := by
      intro j hj
      unfold rd at hacc ⊢
      simp only [Int.toNat_natCast, List.getD_eq_getElem?_getD] at hacc ⊢
      by_cases h : j < i
      · rw [List.getElem?_append_left (by omega)]; exact hacc j h
      · have : j = i := by omega
        subst this
        rw [List.getElem?_append_right (by omega)]; simp [ha1]
    have key := ih k (i + 1) (acc ++ [(a + rd l i % 32000) % 65536]) (by omega) (by omega) (by omega) (by simp [ha1]) hacc'
    rw [hm] at key
    by_cases h : rd l i % 32000 > most (fun j => rd l j % 32000) i
    · rw [if_pos h] at key ⊢; exact key
    · rw [if_neg h] at key ⊢; exact key

theorem SerialLatest : milestonelaw02_SerialLatest.Pure := by
  intro a l _ _ _ hw
  have hw' : ∀ j : Nat, 0 ≤ rd l j := by
    intro j
    unfold rd
    by_cases h : (j : Int).toNat < l.length
    · rw [List.getD_eq_getElem?_getD, List.getElem?_eq_getElem h]
      exact (Go.bounds_u16 (hw _ (List.getElem_mem h))).1
    · rw [List.getD_eq_getElem?_getD, List.getElem?_eq_none (by omega)]; simp
  refine ⟨2 * l.length + 3, ?_⟩
  unfold milestonelaw02_SerialLatest.f
  rw [awake_SerialLatest]; simp only [Option.bind_some, if_true]
  by_cases h : (l.length : Int) > 50
  · rw [decide_eq_true h]
    simp only [milestonelaw02_SerialLatest.j0]
    rw [awake_SerialLatest]; rfl
  · rw [decide_eq_false h]
    simp only [milestonelaw02_SerialLatest.j0]
    exact law_runs a l (by omega) hw' l.length (2 * l.length + 2) 0 [] (by omega) (by omega) (by omega) rfl (by omega)

end Go.Proofs.Ytpcohoeafldpmaa.Pure
