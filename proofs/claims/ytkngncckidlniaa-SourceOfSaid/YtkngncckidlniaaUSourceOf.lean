/- SourceOf: the marks of rows of a history, in whichever order: each row's mark is the source's of its prefix, and there are as many.
For every input; no condition is added to the given statement. -/
import Derived.Test.YtkngncckidlniaaQSourceOfx10
import Derived.Laws.BitsAllLaws
import Derived.OpenShut
import Derived.Lib.Bytes
namespace Go.Proofs.Ytkngncckidlniaa.Pure
open Go.RowKit Go.Proofs.Ytkngncckidlniaa.QSourceOf Go.Proofs.YtkngncckidlniaaW.PrintWords Go.Proofs.YtkngncckidlniaaW.PrintLast Go.Proofs.YtkngncckidlniaaW.PrintMore
set_option linter.unusedSimpArgs false
set_option linter.unusedVariables false

/-! ## rounds enough: from some number of rounds on it tells this -/
def Ev {α : Type} (f : Nat → Option α) (v : α) : Prop := ∃ k0, ∀ k, k0 ≤ k → f k = some v
theorem Ev.const {α : Type} (v : α) : Ev (fun _ => some v) v := ⟨0, fun _ _ => rfl⟩
theorem Ev.of_eq {α : Type} {f : Nat → Option α} {v : α} (h : ∀ k, f k = some v) : Ev f v := ⟨0, fun k _ => h k⟩
theorem Ev.step {α : Type} {f g : Nat → Option α} {v : α} (h : ∀ k, f (k + 1) = g k) (hg : Ev g v) : Ev f v := by
  obtain ⟨k0, h0⟩ := hg
  refine ⟨k0 + 1, fun k hk => ?_⟩
  obtain ⟨j, rfl⟩ : ∃ j, k = j + 1 := ⟨k - 1, by omega⟩
  rw [h j]
  exact h0 j (by omega)
theorem Ev.congr {α : Type} {f g : Nat → Option α} {v : α} (h : ∀ k, f k = g k) (hg : Ev g v) : Ev f v := by
  obtain ⟨k0, h0⟩ := hg
  exact ⟨k0, fun k hk => (h k).trans (h0 k hk)⟩
theorem Ev.bind {α β : Type} {f : Nat → Option α} {g : Nat → α → Option β} {a : α} {v : β} (hf : Ev f a) (hg : Ev (fun k => g k a) v) : Ev (fun k => (f k).bind (g k)) v := by
  obtain ⟨k0, h0⟩ := hf
  obtain ⟨k1, h1⟩ := hg
  refine ⟨max k0 k1, fun k hk => ?_⟩
  show (f k).bind (g k) = some v
  rw [h0 k (by omega), Option.bind_some]
  exact h1 k (by omega)
theorem Ev.bindc {α β : Type} {f : Option α} {g : Nat → α → Option β} {a : α} {v : β} (hf : f = some a) (hg : Ev (fun k => g k a) v) : Ev (fun k => f.bind (g k)) v := by
  subst hf
  exact hg
theorem Ev.pos {α : Type} {f g : Nat → Option α} {v : α} {c : Prop} [Decidable c] (h : c) (hf : Ev f v) : Ev (fun k => if c then f k else g k) v := by
  obtain ⟨k0, h0⟩ := hf
  exact ⟨k0, fun k hk => (if_pos h).trans (h0 k hk)⟩
theorem Ev.neg {α : Type} {f g : Nat → Option α} {v : α} {c : Prop} [Decidable c] (h : ¬ c) (hg : Ev g v) : Ev (fun k => if c then f k else g k) v := by
  obtain ⟨k0, h0⟩ := hg
  exact ⟨k0, fun k hk => (if_neg h).trans (h0 k hk)⟩
theorem Ev.ex {α : Type} {f : Nat → Option α} {v : α} (h : Ev f v) : ∃ k, f k = some v := by
  obtain ⟨k0, h0⟩ := h
  exact ⟨k0, h0 k0 (Nat.le_refl _)⟩
theorem wn1 (i : Nat) (h : i < 1000000) : wrap64 ((i : Int) + 1) = ((i + 1 : Nat) : Int) := by unfold wrap64; omega
theorem Ev.of_mono {α : Type} {f : Nat → Option α} {v : α} {k : Nat} (hm : ∀ k, LeO (f k) (f (k + 1))) (h : f k = some v) : Ev f v := ⟨k, fun K hK => at_rounds hm hK h⟩

/-! ## the document's Row, Prefixes and Rows, as plain folds -/
theorem rd_nat81 (l : List S81) (j : Nat) (h : j < l.length) : rd_T81 l (j : Int) = l[j] := by
  show l.getD (j : Int).toNat _ = l[j]
  rw [Int.toNat_natCast, List.getD_eq_getElem?_getD, List.getElem?_eq_getElem h]
  rfl
theorem rd_nat31 (l : List S31) (j : Nat) (h : j < l.length) : rd_T31 l (j : Int) = l[j] := by
  show l.getD (j : Int).toNat _ = l[j]
  rw [Int.toNat_natCast, List.getD_eq_getElem?_getD, List.getElem?_eq_getElem h]
  rfl
theorem rd_nat51 (l : List S51) (j : Nat) (h : j < l.length) : rd_T51 l (j : Int) = l[j] := by
  show l.getD (j : Int).toNat _ = l[j]
  rw [Int.toNat_natCast, List.getD_eq_getElem?_getD, List.getElem?_eq_getElem h]
  rfl
def nearB (a b c d : Int) : Bool := (milestoneref01_Nearer.f a b c d).getD false
theorem near_is (a b c d : Int) : milestoneref01_Nearer.f a b c d = some (nearB a b c d) := by
  have h : ∃ r, milestoneref01_Nearer.f a b c d = some r := by
    unfold milestoneref01_Nearer.f
    split
    · exact ⟨_, rfl⟩
    · unfold milestoneref01_Newer.f
      split
      · exact ⟨_, rfl⟩
      · exact ⟨_, rfl⟩
  obtain ⟨r, h⟩ := h
  unfold nearB
  rw [h]
  rfl
def ofP (a n : Int) (c : S81) : Bool := (c.f3.f0.f0 == a) && (c.f3.f0.f1 == n)
def rowStep (a n : Int) (s : S51 × Bool) (c : S81) : S51 × Bool :=
  if ofP a n c = true then
    (if c.f2 = true then (⟨s.1.f0, false, c.f3, s.1.f3⟩, s.2)
     else (⟨s.1.f0, true, c.f3, if s.2 = true ∧ nearB c.f3.f3 c.f3.f2 s.1.f3.f0 s.1.f3.f1 = false then s.1.f3 else ⟨c.f3.f3, c.f3.f2⟩⟩, true))
  else s
def row0 (a n : Int) : S51 × Bool := (⟨⟨a, n⟩, false, z49, z36⟩, false)
def rowOf (H : List S81) (a n : Int) : S51 × Bool := H.foldl (rowStep a n) (row0 a n)
def rowTup (s : S51 × Bool) : Int × Int × Bool × Int × Int × Int × Int × Int × Int × Int × Bool := (s.1.f0.f0, s.1.f0.f1, s.1.f1, s.1.f2.f0.f0, s.1.f2.f0.f1, s.1.f2.f1, s.1.f2.f2, s.1.f2.f3, s.1.f3.f0, s.1.f3.f1, s.2)
theorem row_l0 (H : List S81) (a n : Int) (hn : H.length < 1000) (d : Nat) : ∀ (i : Nat) (s : S51 × Bool), i + d = H.length →
    Ev (fun k => milestoneref07_Row.l0 k H s.2 (i : Int) a n s.1.f0.f0 s.1.f0.f1 s.1.f1 s.1.f2.f0.f0 s.1.f2.f0.f1 s.1.f2.f1 s.1.f2.f2 s.1.f2.f3 s.1.f3.f0 s.1.f3.f1) (rowTup ((H.drop i).foldl (rowStep a n) s)) := by
  induction d with
  | zero =>
    intro i s hi
    refine Ev.step (fun k => milestoneref07_Row.l0.eq_2 ..) (Ev.neg (by omega) ?_)
    rw [List.drop_eq_nil_of_le (by omega)]
    exact Ev.const _
  | succ d ih =>
    intro i s hi
    have hlt : i < H.length := by omega
    have w := wn1 i (by omega)
    refine Ev.step (fun k => milestoneref07_Row.l0.eq_2 ..) (Ev.pos (by omega) (Ev.pos (by omega) ?_))
    rw [List.drop_eq_getElem_cons hlt, List.foldl_cons, rd_nat81 H i hlt, w]
    generalize H[i] = c
    by_cases ho : ofP a n c = true
    · have ho2 : (!(c.f3.f0.f0 == a) || !(c.f3.f0.f1 == n)) = false := by
        unfold ofP at ho
        rw [Bool.and_eq_true] at ho
        rw [ho.1, ho.2]
        rfl
      refine Ev.neg (by rw [ho2]; simp) ?_
      by_cases hg : c.f2 = true
      · refine Ev.pos hg ?_
        have e : rowStep a n s c = (⟨s.1.f0, false, c.f3, s.1.f3⟩, s.2) := by unfold rowStep; rw [if_pos ho, if_pos hg]
        have := ih (i + 1) (rowStep a n s c) (by omega)
        rw [e] at this ⊢
        rw [hg]
        exact this
      · have hg' : c.f2 = false := by simpa using hg
        refine Ev.neg hg ?_
        by_cases hk : s.2 = true
        · refine Ev.pos hk (Ev.bindc (near_is _ _ _ _) ?_)
          by_cases hb : nearB c.f3.f3 c.f3.f2 s.1.f3.f0 s.1.f3.f1 = true
          · have e : rowStep a n s c = (⟨s.1.f0, true, c.f3, ⟨c.f3.f3, c.f3.f2⟩⟩, true) := by
              unfold rowStep; rw [if_pos ho, if_neg hg, if_neg (fun h => by rw [hb] at h; exact absurd h.2 (by simp))]
            have := ih (i + 1) (rowStep a n s c) (by omega)
            rw [e] at this ⊢
            refine Ev.pos hb ?_
            rw [hg']
            exact this
          · have hb' : nearB c.f3.f3 c.f3.f2 s.1.f3.f0 s.1.f3.f1 = false := by simpa using hb
            have e : rowStep a n s c = (⟨s.1.f0, true, c.f3, s.1.f3⟩, true) := by
              unfold rowStep; rw [if_pos ho, if_neg hg, if_pos ⟨hk, hb'⟩]
            have := ih (i + 1) (rowStep a n s c) (by omega)
            rw [e] at this ⊢
            refine Ev.neg hb ?_
            rw [hg']
            exact this
        · have e : rowStep a n s c = (⟨s.1.f0, true, c.f3, ⟨c.f3.f3, c.f3.f2⟩⟩, true) := by
            unfold rowStep; rw [if_pos ho, if_neg hg, if_neg (fun h => hk h.1)]
          have := ih (i + 1) (rowStep a n s c) (by omega)
          rw [e] at this ⊢
          refine Ev.neg hk ?_
          rw [hg']
          exact this
    · have ho2 : (!(c.f3.f0.f0 == a) || !(c.f3.f0.f1 == n)) = true := by
        unfold ofP at ho
        cases h1 : (c.f3.f0.f0 == a) <;> cases h2 : (c.f3.f0.f1 == n) <;> simp_all
      have e : rowStep a n s c = s := by unfold rowStep; rw [if_neg ho]
      rw [e]
      exact Ev.pos ho2 (ih (i + 1) s (by omega))
theorem row_is (H : List S81) (a n : Int) (hn : H.length < 1000) : Ev (fun k => milestoneref07_Row.f k H a n) (rowTup (rowOf H a n)) := row_l0 H a n hn H.length 0 (row0 a n) (by omega)
/-! ### Prefixes -/
def cmp31 (x y : S31) : Int := cmpI x.f0 x.f1 y.f0 y.f1
def insP : List S31 → S31 → List S31
  | [], p => [p]
  | y :: l, p => if cmp31 y p < 0 then y :: insP l p else if cmp31 y p = 0 then y :: l else p :: y :: l
theorem insP_len : ∀ (l : List S31) (p : S31), (insP l p).length ≤ l.length + 1
  | [], p => Nat.le_refl _
  | y :: l, p => by
    unfold insP
    split
    · exact Nat.succ_le_succ (insP_len l p)
    · split
      · exact Nat.le_succ _
      · exact Nat.le_refl _
theorem insP_at : ∀ (l : List S31) (p : S31) (j : Nat), j ≤ l.length → (∀ (q : Nat) (h : q < l.length), q < j → cmp31 l[q] p < 0) → insP l p = l.take j ++ insP (l.drop j) p
  | _, _, 0, _, _ => by simp
  | [], _, j + 1, h, _ => by simp at h
  | y :: l, p, j + 1, h, hq => by
    rw [insP, if_pos (show cmp31 y p < 0 from hq 0 (by simp) (by omega)), List.take_succ_cons, List.drop_succ_cons, List.cons_append, insP_at l p j (by simpa using h) (fun q h2 h3 => hq (q + 1) (by simpa using h2) (by omega))]
theorem ahead_is (a n c m : Int) : milestoneref01_Ahead.f a n c m = some (decide (cmpI a n c m < 0)) := by
  unfold milestoneref01_Ahead.f
  by_cases h1 : a < c
  · rw [if_pos h1]; exact congrArg some (decide_eq_true (cmpI_lt.2 (.inl h1))).symm
  · rw [if_neg h1]
    by_cases h2 : a = c
    · rw [if_pos h2]
      by_cases h3 : n < m
      · rw [decide_eq_true h3]; exact congrArg some (decide_eq_true (cmpI_lt.2 (.inr ⟨h2, h3⟩))).symm
      · rw [decide_eq_false h3]; exact congrArg some (decide_eq_false (fun h => by rw [cmpI_lt] at h; omega)).symm
    · rw [if_neg h2]; exact congrArg some (decide_eq_false (fun h => by rw [cmpI_lt] at h; omega)).symm
theorem pre_step (H : List S81) (out : List S31) (i : Int) (p : S31) (r : List S31) (hl : out.length < 1000) (h : Ev (fun k => milestoneref07_Prefixes.l0 k H (insP out p) (wrap64 (i + 1))) r) (d : Nat) :
    ∀ j : Nat, j + d = out.length → (∀ (q : Nat) (h : q < out.length), q < j → cmp31 out[q] p < 0) → Ev (fun k => milestoneref07_Prefixes.l1 k H out i (j : Int) p.f0 p.f1) r := by
  induction d with
  | zero =>
    intro j hj hq
    refine Ev.step (fun k => milestoneref07_Prefixes.l1.eq_2 ..) (Ev.neg (by omega) (Ev.pos (by omega) (Ev.pos (by omega) ?_)))
    have e := insP_at out p j (by omega) hq
    rw [List.drop_eq_nil_of_le (by omega), insP] at e
    rw [e] at h
    simp only [Option.bind_some, Int.toNat_natCast, List.nil_append, List.length_nil]
    refine Ev.pos (by rw [List.length_take]; omega) (Ev.pos (by rw [List.length_take]; omega) (Ev.pos (by simp only [List.length_append, List.length_take, List.length_drop, List.length_singleton]; omega) ?_))
    rw [List.drop_eq_nil_of_le (show out.length ≤ j by omega), List.append_nil]
    exact h
  | succ d ih =>
    intro j hj hq
    have hlt : j < out.length := by omega
    refine Ev.step (fun k => milestoneref07_Prefixes.l1.eq_2 ..) (Ev.pos (by omega) (Ev.pos (by omega) ?_))
    rw [rd_nat31 out j hlt, wn1 j (by omega)]
    refine Ev.bindc (ahead_is _ _ _ _) ?_
    by_cases h1 : cmpI out[j].f0 out[j].f1 p.f0 p.f1 < 0
    · refine Ev.pos (decide_eq_true h1) (ih (j + 1) (by omega) (fun q h2 h3 => ?_))
      by_cases e : q = j
      · subst e; exact h1
      · exact hq q h2 (by omega)
    · refine Ev.neg (by simpa using h1) ?_
      have e := insP_at out p j (by omega) hq
      rw [List.drop_eq_getElem_cons hlt, insP, if_neg (show ¬ cmp31 out[j] p < 0 from h1)] at e
      by_cases h2 : cmpI out[j].f0 out[j].f1 p.f0 p.f1 = 0
      · have h2' := cmpI_eq.1 h2
        refine Ev.pos (by rw [h2'.1, h2'.2]; simp) ?_
        rw [if_pos (show cmp31 out[j] p = 0 from h2), ← List.drop_eq_getElem_cons hlt, List.take_append_drop] at e
        rw [e] at h
        exact h
      · rw [if_neg (show ¬ cmp31 out[j] p = 0 from h2), ← List.drop_eq_getElem_cons hlt] at e
        rw [e] at h
        refine Ev.neg (fun hh => h2 (cmpI_eq.2 ?_)) (Ev.pos (by omega) ?_)
        · simpa using hh
        · simp only [Option.bind_some, Int.toNat_natCast, List.nil_append, List.length_nil]
          refine Ev.pos (by rw [List.length_take]; omega) (Ev.pos (by rw [List.length_take]; omega) (Ev.pos (by simp only [List.length_append, List.length_take, List.length_drop, List.length_singleton]; omega) ?_))
          rw [List.append_assoc]
          exact h
def prefs (H : List S81) (out : List S31) : List S31 := H.foldl (fun o c => insP o c.f3.f0) out
theorem prefs_len : ∀ (H : List S81) (out : List S31), (prefs H out).length ≤ out.length + H.length
  | [], out => Nat.le_refl _
  | c :: H, out => by
    have h1 := prefs_len H (insP out c.f3.f0)
    have h2 := insP_len out c.f3.f0
    show (prefs H (insP out c.f3.f0)).length ≤ _
    rw [List.length_cons]
    omega
theorem pre_l0 (H : List S81) (hn : H.length < 500) (d : Nat) : ∀ (i : Nat) (out : List S31), i + d = H.length → out.length ≤ i →
    Ev (fun k => milestoneref07_Prefixes.l0 k H out (i : Int)) (prefs (H.drop i) out) := by
  induction d with
  | zero =>
    intro i out hi ho
    refine Ev.step (fun k => milestoneref07_Prefixes.l0.eq_2 ..) (Ev.neg (by omega) ?_)
    rw [List.drop_eq_nil_of_le (by omega)]
    exact Ev.const _
  | succ d ih =>
    intro i out hi ho
    have hlt : i < H.length := by omega
    refine Ev.step (fun k => milestoneref07_Prefixes.l0.eq_2 ..) (Ev.pos (by omega) (Ev.pos (by omega) ?_))
    rw [List.drop_eq_getElem_cons hlt, rd_nat81 H i hlt]
    have h2 := insP_len out H[i].f3.f0
    refine pre_step H out i H[i].f3.f0 _ (by omega) ?_ out.length 0 (by omega) (fun q _ h => by omega)
    rw [wn1 i (by omega)]
    exact ih (i + 1) (insP out H[i].f3.f0) (by omega) (by omega)
theorem prefs_is (H : List S81) (hn : H.length < 500) : Ev (fun k => milestoneref07_Prefixes.f k H) (prefs H []) := pre_l0 H hn H.length 0 [] (by omega) (Nat.zero_le _)
/-! ### Rows -/
def rowsOf (H : List S81) (ps : List S31) : List S51 := ps.filterMap (fun p => if (rowOf H p.f0 p.f1).2 = true then some (rowOf H p.f0 p.f1).1 else none)
theorem rows_l0 (H : List S81) (ps : List S31) (hn : H.length < 500) (hp : ps.length < 1000) (d : Nat) : ∀ (i : Nat) (out : List S51), i + d = ps.length → out.length ≤ i →
    Ev (fun k => milestoneref07_Rows.l0 k H out ps (i : Int)) (out ++ rowsOf H (ps.drop i)) := by
  induction d with
  | zero =>
    intro i out hi ho
    refine Ev.step (fun k => milestoneref07_Rows.l0.eq_2 ..) (Ev.neg (by omega) ?_)
    rw [List.drop_eq_nil_of_le (by omega), rowsOf, List.filterMap_nil, List.append_nil]
    exact Ev.const _
  | succ d ih =>
    intro i out hi ho
    have hlt : i < ps.length := by omega
    refine Ev.step (fun k => milestoneref07_Rows.l0.eq_2 ..) (Ev.pos (by omega) (Ev.pos (by omega) ?_))
    rw [List.drop_eq_getElem_cons hlt, rd_nat31 ps i hlt, wn1 i (by omega)]
    refine Ev.bind (row_is H _ _ (by omega)) ?_
    by_cases h : (rowOf H ps[i].f0 ps[i].f1).2 = true
    · refine Ev.pos h (Ev.pos (by omega) ?_)
      have := ih (i + 1) (out ++ [(rowOf H ps[i].f0 ps[i].f1).1]) (by omega) (by rw [List.length_append, List.length_singleton]; omega)
      rw [rowsOf, List.filterMap_cons, if_pos h]
      rw [List.append_assoc, List.singleton_append] at this
      exact this
    · refine Ev.neg h ?_
      have := ih (i + 1) out (by omega) (by omega)
      rw [rowsOf, List.filterMap_cons, if_neg h]
      exact this
theorem rows_is (H : List S81) (hn : H.length < 500) : Ev (fun k => milestoneref07_Rows.f k H) (rowsOf H (prefs H [])) := by
  have hl := prefs_len H []
  rw [List.length_nil] at hl
  exact Ev.bind (prefs_is H hn) (rows_l0 H (prefs H []) hn (by omega) (prefs H []).length 0 [] (by omega) (Nat.zero_le _))

/-! ## the document's History, step by step -/
theorem t3 (q : Nat) : Int.tmod (q : Int) 3 = ((q % 3 : Nat) : Int) := rfl
theorem d3 (q : Nat) : Int.tdiv (q : Int) 3 = ((q / 3 : Nat) : Int) := rfl
theorem d6 (q : Nat) : Int.tdiv (q : Int) 6 = ((q / 6 : Nat) : Int) := rfl
theorem prefix18 (k p : Nat) (hp : p < 256) : milestoneref07_Prefix.f k (p : Int) = milestoneref07_Prefix.f k ((p % 18 : Nat) : Int) := by
  unfold milestoneref07_Prefix.f
  rw [t3, t3, d3, d3, d6, d6]
  have e1 : (p % 18 : Nat) % 3 = p % 3 := by omega
  have e2 : (((p % 18 / 3 : Nat) : Int)) % 2 = ((p / 3 : Nat) : Int) % 2 := by omega
  have e3 : (((p % 18 / 6 : Nat) : Int)) % 256 % 3 = ((p / 6 : Nat) : Int) % 256 % 3 := by omega
  rw [e1, e2, e3]
theorem u8of (x : Int) (h : (Lit.int .u8 x).wf = true) : ∃ p : Nat, p < 256 ∧ x = (p : Int) := by
  simp [Lit.wf, IntKind.signed, IntKind.bits, IntKind.min, IntKind.max] at h
  exact ⟨x.toNat, by omega, by omega⟩
def PrefG (p : S31) : Prop := ∃ q : Nat, q < 18 ∧ milestoneref07_Prefix.f 40 (q : Int) = some (p.f0, p.f1)
def prefOk (p : Nat) : Bool := match milestoneref07_Prefix.f 40 (p : Int) with
  | some (a, n) => decide (prefix_Right.f a n = some true) && decide (0 ≤ a ∧ a < 4294967296) && decide (8 ≤ n ∧ n ≤ 24)
  | none => false
theorem pref_all : ((List.range 18).all prefOk) = true := by decide +kernel
theorem PrefG.right {p : S31} (h : PrefG p) : prefix_Right.f p.f0 p.f1 = some true ∧ (0 ≤ p.f0 ∧ p.f0 < 4294967296) ∧ 8 ≤ p.f1 ∧ p.f1 ≤ 24 := by
  obtain ⟨q, hq, hx⟩ := h
  have h := pref_all
  rw [List.all_eq_true] at h
  have h2 := h q (List.mem_range.2 hq)
  unfold prefOk at h2
  rw [hx] at h2
  simp only [Bool.and_eq_true, decide_eq_true_eq] at h2
  exact ⟨h2.1.1, h2.1.2, h2.2⟩
theorem pref_ev (p : Nat) (hp : p < 256) : ∃ P : S31, Ev (fun k => milestoneref07_Prefix.f k (p : Int)) (P.f0, P.f1) ∧ PrefG P ∧ milestoneref07_Prefix.f 40 ((p % 18 : Nat) : Int) = some (P.f0, P.f1) := by
  have h := pref_all
  rw [List.all_eq_true] at h
  have h2 := h (p % 18) (List.mem_range.2 (Nat.mod_lt _ (by omega)))
  unfold prefOk at h2
  cases hx : milestoneref07_Prefix.f 40 ((p % 18 : Nat) : Int) with
  | none => rw [hx] at h2; cases h2
  | some x =>
    obtain ⟨a, n⟩ := x
    exact ⟨⟨a, n⟩, Ev.congr (fun k => prefix18 k p hp) (Ev.of_mono (k := 40) (fun k => milestoneref07_Prefix.mono _ k) hx), ⟨p % 18, Nat.mod_lt _ (by omega), hx⟩, rfl⟩
inductive Hist : List S81 → Int → Prop
  | nil : Hist [] 0
  | way {l : List S81} {t : Int} {c : S81} (h : Hist l t) (h0 : c.f0 = (l.length : Int) + 1) (h1 : t ≤ c.f1 ∧ c.f1 ≤ t + 3) (h2 : c.f2 = false) (hp : PrefG c.f3.f0) (hv : 0 ≤ c.f3.f1 ∧ c.f3.f1 < 16) (hm : 0 ≤ c.f3.f2 ∧ c.f3.f2 < 1786) (hs : 0 ≤ c.f3.f3 ∧ c.f3.f3 < 65536) : Hist (l ++ [c]) c.f1
  | gone {l : List S81} {t : Int} {c : S81} (h : Hist l t) (h0 : c.f0 = (l.length : Int) + 1) (h1 : t ≤ c.f1 ∧ c.f1 ≤ t + 3) (h2 : c.f2 = true) (hp : PrefG c.f3.f0) (hv : c.f3.f1 = 0) (hm : c.f3.f2 = 0) (hs : c.f3.f3 = 0)
      (ho : (rowOf l c.f3.f0.f0 c.f3.f0.f1).2 = true) (hh : (rowOf l c.f3.f0.f0 c.f3.f0.f1).1.f1 = true) : Hist (l ++ [c]) c.f1
theorem Hist.time {l : List S81} {t : Int} (h : Hist l t) : 0 ≤ t ∧ t ≤ 3 * (l.length : Int) := by
  induction h with
  | nil => simp
  | way h h0 h1 h2 hp hv hm hs ih => rw [List.length_append, List.length_singleton]; omega
  | gone h h0 h1 h2 hp hv hm hs ho hh ih => rw [List.length_append, List.length_singleton]; omega
theorem rd_nat79 (l : List S79) (j : Nat) (h : j < l.length) : rd_T79 l (j : Int) = l[j] := by
  show l.getD (j : Int).toNat _ = l[j]
  rw [Int.toNat_natCast, List.getD_eq_getElem?_getD, List.getElem?_eq_getElem h]
  rfl
theorem wr64u (n : Int) : IntKind.u64.wrap n = n % 18446744073709551616 := by
  unfold IntKind.wrap; simp [IntKind.signed, IntKind.bits]
theorem time_is (t f4 : Int) (ht : 0 ≤ t ∧ t < 1000) (h4 : 0 ≤ f4 ∧ f4 < 256) : IntKind.u64.wrap (t + (IntKind.u64.wrap (Int.tmod f4 4))) = t + f4 % 4 := by
  rw [Int.tmod_eq_emod_of_nonneg h4.1, wr64u, wr64u]; omega
theorem no_is (l : List S81) (hl : l.length < 1000) : IntKind.u64.wrap (wrap64 ((l.length : Int) + 1)) = (l.length : Int) + 1 := by
  rw [wr64u]; unfold wrap64; omega
theorem hist_l0 (x0 : List S79) (hx : ∀ x ∈ x0, ((Lit.int .u8 x.f0).wf = true ∧ ((Lit.int .u8 x.f1).wf = true ∧ ((Lit.int .u8 x.f2).wf = true ∧ ((Lit.int .u8 x.f3).wf = true ∧ (Lit.int .u8 x.f4).wf = true))))) (hn : x0.length ≤ 60) (d : Nat) :
    ∀ (i : Nat) (l : List S81) (t : Int), i + d = x0.length → l.length = i → Hist l t → ∃ l2 t2, Ev (fun k => milestoneref07_History.l0 k x0 l t (i : Int)) l2 ∧ Hist l2 t2 ∧ l2.length = x0.length := by
  induction d with
  | zero =>
    intro i l t hi hl hp
    refine ⟨l, t, Ev.step (fun k => milestoneref07_History.l0.eq_2 ..) (Ev.neg (by omega) (Ev.step (fun k => milestoneref07_History.j1.eq_2 ..) (Ev.neg (by decide) (Ev.const _)))), hp, by omega⟩
  | succ d ih =>
    intro i l t hi hl hp
    have hlt : i < x0.length := by omega
    obtain ⟨b0, b1, b2, b3, b4⟩ := hx _ (List.getElem_mem hlt)
    obtain ⟨p0, h0, e0⟩ := u8of _ b0
    obtain ⟨p1, h1, e1⟩ := u8of _ b1
    obtain ⟨p2, h2, e2⟩ := u8of _ b2
    obtain ⟨p3, h3, e3⟩ := u8of _ b3
    obtain ⟨p4, h4, e4⟩ := u8of _ b4
    obtain ⟨P, hP, hG, _⟩ := pref_ev p0 h0
    have ht := hp.time
    have tm := Aside0.mk (time_is t (p4 : Int) (by omega) (by omega))
    have nm := Aside0.mk (no_is l (by omega))
    have wn := Aside0.mk (wn1 i (by omega))
    have v1 : Aside0 (wrap64 (Int.tmod (p1 : Int) 16) = ((p1 % 16 : Nat) : Int)) := Aside0.mk <| by rw [show Int.tmod (p1 : Int) 16 = ((p1 % 16 : Nat) : Int) from rfl]; unfold wrap64; omega
    have w2 : Aside0 (IntKind.u16.wrap ((IntKind.u16.wrap (p2 : Int)) * 7) = (p2 : Int) * 7) := Aside0.mk <| by show ((p2 : Int) % 65536 * 7) % 65536 = (p2 : Int) * 7; omega
    have w3 : 0 ≤ IntKind.u16.wrap ((Int.tmod (IntKind.u16.wrap (p3 : Int)) 4) + 65534) ∧ IntKind.u16.wrap ((Int.tmod (IntKind.u16.wrap (p3 : Int)) 4) + 65534) < 65536 := by
      show 0 ≤ (Int.tmod ((p3 : Int) % 65536) 4 + 65534) % 65536 ∧ (Int.tmod ((p3 : Int) % 65536) 4 + 65534) % 65536 < 65536
      omega
    obtain ⟨sq, hsq⟩ : ∃ sq, sq = IntKind.u16.wrap ((Int.tmod (IntKind.u16.wrap (p3 : Int)) 4) + 65534) := ⟨_, rfl⟩
    rw [← hsq] at w3
    have HSQ := Aside0.mk hsq
    clear hsq
    have way : ∃ l2 t2, Ev (fun k => milestoneref07_History.l0 k x0 (l ++ [(⟨(l.length : Int) + 1, t + (p4 : Int) % 4, false, (⟨(⟨P.f0, P.f1⟩ : S31), ((p1 % 16 : Nat) : Int), (p2 : Int) * 7, sq⟩ : S49)⟩ : S81)]) (t + (p4 : Int) % 4) ((i + 1 : Nat) : Int)) l2 ∧ Hist l2 t2 ∧ l2.length = x0.length :=
      ih (i + 1) _ _ (by omega) (by rw [List.length_append, List.length_singleton]; omega) (Hist.way (c := (⟨(l.length : Int) + 1, t + (p4 : Int) % 4, false, (⟨(⟨P.f0, P.f1⟩ : S31), ((p1 % 16 : Nat) : Int), (p2 : Int) * 7, sq⟩ : S49)⟩ : S81)) hp rfl ⟨by show t ≤ t + (p4 : Int) % 4; omega, by show t + (p4 : Int) % 4 ≤ t + 3; omega⟩ rfl hG ⟨by show (0 : Int) ≤ ((p1 % 16 : Nat) : Int); omega, by show ((p1 % 16 : Nat) : Int) < 16; omega⟩ ⟨by show (0 : Int) ≤ (p2 : Int) * 7; omega, by show (p2 : Int) * 7 < 1786; omega⟩ w3)
    have body : ∀ (l2 : List S81) , Ev (fun k => milestoneref07_History.l0 k x0 (l ++ [(⟨(l.length : Int) + 1, t + (p4 : Int) % 4, false, (⟨(⟨P.f0, P.f1⟩ : S31), ((p1 % 16 : Nat) : Int), (p2 : Int) * 7, sq⟩ : S49)⟩ : S81)]) (t + (p4 : Int) % 4) ((i + 1 : Nat) : Int)) l2 →
        ((rowOf l P.f0 P.f1).2 = true ∧ (rowOf l P.f0 P.f1).1.f1 = true ∧ Int.tmod (p1 : Int) 4 = 3 → Ev (fun k => milestoneref07_History.l0 k x0 (l ++ [(⟨(l.length : Int) + 1, t + (p4 : Int) % 4, true, (⟨(⟨P.f0, P.f1⟩ : S31), 0, 0, 0⟩ : S49)⟩ : S81)]) (t + (p4 : Int) % 4) ((i + 1 : Nat) : Int)) l2) →
        Ev (fun k => milestoneref07_History.l0 k x0 l t (i : Int)) l2 := by
      intro l2 hw hg
      refine Ev.step (fun k => milestoneref07_History.l0.eq_2 ..) (Ev.pos (by omega) ?_)
      rw [decide_eq_true (show (i : Int) < 60 by omega)]
      refine Ev.step (fun k => milestoneref07_History.j1.eq_2 ..) (Ev.pos rfl (Ev.pos (by omega) (Ev.pos (by omega) ?_)))
      rw [rd_nat79 x0 i hlt, e0, e1, e2, e3, e4, tm.out, nm.out, wn.out, v1.out, w2.out, ← HSQ.out]
      refine Ev.bind hP (Ev.bind (row_is l P.f0 P.f1 (by omega)) ?_)
      by_cases c1 : (rowOf l P.f0 P.f1).2 = true
      · refine Ev.pos c1 ?_
        by_cases c2 : (rowOf l P.f0 P.f1).1.f1 = true
        · refine Ev.pos c2 ?_
          by_cases c3 : Int.tmod (p1 : Int) 4 = 3
          · exact Ev.pos c3 (Ev.pos (by omega) (hg ⟨c1, c2, c3⟩))
          · exact Ev.neg c3 (Ev.pos (by omega) hw)
        · exact Ev.neg c2 (Ev.pos (by omega) hw)
      · exact Ev.neg c1 (Ev.pos (by omega) hw)
    by_cases c : (rowOf l P.f0 P.f1).2 = true ∧ (rowOf l P.f0 P.f1).1.f1 = true ∧ Int.tmod (p1 : Int) 4 = 3
    · obtain ⟨l2, t2, hE, hH, hL⟩ := ih (i + 1) _ _ (by omega) (by rw [List.length_append, List.length_singleton]; omega) (Hist.gone (c := (⟨(l.length : Int) + 1, t + (p4 : Int) % 4, true, (⟨(⟨P.f0, P.f1⟩ : S31), 0, 0, 0⟩ : S49)⟩ : S81)) hp rfl ⟨by show t ≤ t + (p4 : Int) % 4; omega, by show t + (p4 : Int) % 4 ≤ t + 3; omega⟩ rfl hG rfl rfl rfl c.1 c.2.1)
      refine ⟨l2, t2, ?_, hH, hL⟩
      refine Ev.step (fun k => milestoneref07_History.l0.eq_2 ..) (Ev.pos (by omega) ?_)
      rw [decide_eq_true (show (i : Int) < 60 by omega)]
      refine Ev.step (fun k => milestoneref07_History.j1.eq_2 ..) (Ev.pos rfl (Ev.pos (by omega) (Ev.pos (by omega) ?_)))
      rw [rd_nat79 x0 i hlt, e0, e1, e2, e3, e4, tm.out, nm.out, wn.out, v1.out, w2.out, ← HSQ.out]
      refine Ev.bind hP (Ev.bind (row_is l P.f0 P.f1 (by omega)) ?_)
      exact Ev.pos c.1 (Ev.pos c.2.1 (Ev.pos c.2.2 (Ev.pos (by omega) hE)))
    · obtain ⟨l2, t2, hE, hH, hL⟩ := way
      exact ⟨l2, t2, body l2 hE (fun h => absurd h c), hH, hL⟩
theorem hist_is (x0 : List S79) (hx : ∀ x ∈ x0, ((Lit.int .u8 x.f0).wf = true ∧ ((Lit.int .u8 x.f1).wf = true ∧ ((Lit.int .u8 x.f2).wf = true ∧ ((Lit.int .u8 x.f3).wf = true ∧ (Lit.int .u8 x.f4).wf = true))))) (hn : x0.length ≤ 60) :
    ∃ l2 t2, Ev (fun k => milestoneref07_History.f k x0) l2 ∧ Hist l2 t2 ∧ l2.length = x0.length := hist_l0 x0 hx hn x0.length 0 [] 0 (by omega) rfl Hist.nil

/-! ## the rows of a history: rising, right, no endless mark -/
theorem insP_mem : ∀ (l : List S31) (p x : S31), x ∈ insP l p → x ∈ l ∨ x = p
  | [], p, x, h => .inr (List.mem_singleton.1 h)
  | y :: l, p, x, h => by
    unfold insP at h
    split at h
    · rcases List.mem_cons.1 h with rfl | h
      · exact .inl List.mem_cons_self
      · rcases insP_mem l p x h with h | h
        · exact .inl (List.mem_cons_of_mem _ h)
        · exact .inr h
    · split at h
      · exact .inl h
      · rcases List.mem_cons.1 h with rfl | h
        · exact .inr rfl
        · exact .inl h
def srtP (l : List S31) : Prop := l.Pairwise (fun x y => cmp31 x y < 0)
theorem insP_srt : ∀ (l : List S31) (p : S31), srtP l → srtP (insP l p)
  | [], p, _ => List.pairwise_singleton _ _
  | y :: l, p, h => by
    obtain ⟨h1, h2⟩ := List.pairwise_cons.1 h
    unfold insP
    by_cases a : cmp31 y p < 0
    · rw [if_pos a]
      refine List.pairwise_cons.2 ⟨fun z hz => ?_, insP_srt l p h2⟩
      rcases insP_mem l p z hz with hz | rfl
      · exact h1 z hz
      · exact a
    · rw [if_neg a]
      by_cases b : cmp31 y p = 0
      · rw [if_pos b]; exact h
      · rw [if_neg b]
        have hpy : cmp31 p y < 0 := cmpI_gt a b
        refine List.pairwise_cons.2 ⟨fun z hz => ?_, h⟩
        rcases List.mem_cons.1 hz with rfl | hz
        · exact hpy
        · exact cmpI_trans hpy (h1 z hz)
theorem prefs_srt : ∀ (H : List S81) (out : List S31), srtP out → srtP (prefs H out)
  | [], _, h => h
  | c :: H, out, h => prefs_srt H (insP out c.f3.f0) (insP_srt out _ h)
theorem prefs_mem : ∀ (H : List S81) (out : List S31) (x : S31), x ∈ prefs H out → x ∈ out ∨ ∃ c ∈ H, c.f3.f0 = x
  | [], _, _, h => .inl h
  | c :: H, out, x, h => by
    rcases prefs_mem H (insP out c.f3.f0) x h with h | ⟨d, hd, e⟩
    · rcases insP_mem _ _ _ h with h | rfl
      · exact .inl h
      · exact .inr ⟨c, List.mem_cons_self, rfl⟩
    · exact .inr ⟨d, List.mem_cons_of_mem _ hd, e⟩
theorem rowStep_key (a n : Int) (s : S51 × Bool) (c : S81) : (rowStep a n s c).1.f0 = s.1.f0 := by
  unfold rowStep
  split
  · split <;> rfl
  · rfl
theorem row_key (a n : Int) : ∀ (H : List S81) (s : S51 × Bool), (H.foldl (rowStep a n) s).1.f0 = s.1.f0
  | [], _ => rfl
  | c :: H, s => by rw [List.foldl_cons, row_key a n H, rowStep_key]
theorem rowOf_key (H : List S81) (a n : Int) : (rowOf H a n).1.f0 = ⟨a, n⟩ := row_key a n H (row0 a n)
theorem Hist.mem {l : List S81} {t : Int} (h : Hist l t) : ∀ c ∈ l, PrefG c.f3.f0 ∧ (c.f2 = false → 0 ≤ c.f3.f2 ∧ c.f3.f2 < 1786) ∧ 0 ≤ c.f3.f3 ∧ c.f3.f3 < 65536 := by
  induction h with
  | nil => intro c hc; cases hc
  | way h h0 h1 h2 hp hv hm hs ih =>
    intro c hc
    rcases List.mem_append.1 hc with hc | hc
    · exact ih c hc
    · rw [List.mem_singleton] at hc
      subst hc
      exact ⟨hp, fun _ => hm, hs⟩
  | gone h h0 h1 h2 hp hv hm hs ho hh ih =>
    intro c hc
    rcases List.mem_append.1 hc with hc | hc
    · exact ih c hc
    · rw [List.mem_singleton] at hc
      subst hc
      exact ⟨hp, (fun hf => by rw [h2] at hf; cases hf), by rw [hs]; omega⟩
theorem row_met (a n : Int) : ∀ (H : List S81) (s : S51 × Bool), (∀ c ∈ H, c.f2 = false → c.f3.f2 < 1786) → (s.2 = true → s.1.f3.f1 < 1786) → (H.foldl (rowStep a n) s).2 = true → (H.foldl (rowStep a n) s).1.f3.f1 < 1786
  | [], _, _, h => h
  | c :: H, s, hc, h => by
    rw [List.foldl_cons]
    refine row_met a n H (rowStep a n s c) (fun d hd => hc d (List.mem_cons_of_mem _ hd)) (fun h2 => ?_)
    have hcc := hc c List.mem_cons_self
    unfold rowStep at h2 ⊢
    by_cases h3 : ofP a n c = true
    · rw [if_pos h3] at h2 ⊢
      by_cases h4 : c.f2 = true
      · rw [if_pos h4] at h2 ⊢
        exact h h2
      · rw [if_neg h4]
        show (if s.2 = true ∧ nearB c.f3.f3 c.f3.f2 s.1.f3.f0 s.1.f3.f1 = false then s.1.f3 else ⟨c.f3.f3, c.f3.f2⟩ : S36).f1 < 1786
        split
        · rename_i h5
          exact h h5.1
        · exact hcc (by simpa using h4)
    · rw [if_neg h3] at h2 ⊢
      exact h h2
def keyLt (x y : S51) : Prop := cmpI x.f0.f0 x.f0.f1 y.f0.f0 y.f0.f1 < 0
theorem rowsOf_srt (H : List S81) : ∀ ps : List S31, srtP ps → (rowsOf H ps).Pairwise keyLt
  | [], _ => List.Pairwise.nil
  | p :: ps, h => by
    obtain ⟨h1, h2⟩ := List.pairwise_cons.1 h
    have ih := rowsOf_srt H ps h2
    unfold rowsOf at ih ⊢
    rw [List.filterMap_cons]
    by_cases c : (rowOf H p.f0 p.f1).2 = true
    · rw [if_pos c]
      refine List.pairwise_cons.2 ⟨fun y hy => ?_, ih⟩
      obtain ⟨q, hq, e⟩ := List.mem_filterMap.1 hy
      split at e
      · have e2 := Option.some.inj e
        subst e2
        unfold keyLt
        rw [rowOf_key, rowOf_key]
        exact h1 q hq
      · cases e
    · rw [if_neg c]
      exact ih
theorem rowsOf_mem (H : List S81) (ps : List S31) (y : S51) (h : y ∈ rowsOf H ps) : y.f0 ∈ ps ∧ y = (rowOf H y.f0.f0 y.f0.f1).1 ∧ (rowOf H y.f0.f0 y.f0.f1).2 = true := by
  obtain ⟨q, hq, e⟩ := List.mem_filterMap.1 h
  split at e
  · rename_i h2
    have e2 := Option.some.inj e
    subst e2
    rw [rowOf_key]
    exact ⟨hq, rfl, h2⟩
  · cases e
theorem rowsOf_len (H : List S81) (ps : List S31) : (rowsOf H ps).length ≤ ps.length := List.length_filterMap_le _ _
theorem hist_rows {H : List S81} {t : Int} (h : Hist H t) : (rowsOf H (prefs H [])).Pairwise keyLt ∧ ∀ y ∈ rowsOf H (prefs H []), PrefG y.f0 ∧ y.f3.f1 < 1786 := by
  refine ⟨rowsOf_srt H _ (prefs_srt H [] List.Pairwise.nil), fun y hy => ?_⟩
  obtain ⟨h1, h2, h3⟩ := rowsOf_mem H _ y hy
  refine ⟨?_, ?_⟩
  · rcases prefs_mem H [] _ h1 with h1 | ⟨c, hc, e⟩
    · cases h1
    · rw [← e]; exact (h.mem c hc).1
  · rw [h2]
    exact row_met _ _ H _ (fun c hc hg => ((h.mem c hc).2.1 hg).2) (fun hh => by cases hh) h3

/-! ## the source of rows -/
def entO (y : S51) : S71 := ⟨y.f0, y.f3⟩
theorem rowPos_all : ∀ (T : List S71) (a n : Int), (∀ x ∈ T, cmpI x.f0.f0 x.f0.f1 a n < 0) → rowPos T a n = T.length
  | [], _, _, _ => rfl
  | x :: T, a, n, h => by rw [rowPos, if_pos (h x List.mem_cons_self), rowPos_all T a n (fun y hy => h y (List.mem_cons_of_mem _ hy))]; rfl
theorem rowPos_here (T : List S71) (i : Nat) (h : i < T.length) (hs : rowSrt T) : rowPos T T[i].f0.f0 T[i].f0.f1 = i := by
  have h1 := rowPos_lt T T[i].f0.f0 T[i].f0.f1 hs i h
  have h0 : cmpI T[i].f0.f0 T[i].f0.f1 T[i].f0.f0 T[i].f0.f1 = 0 := cmpI_eq.2 ⟨rfl, rfl⟩
  have h2 : ¬ i < rowPos T T[i].f0.f0 T[i].f0.f1 := fun h3 => by have := h1.2 h3; omega
  have h3 : ∀ j, j < i → j < rowPos T T[i].f0.f0 T[i].f0.f1 := fun j hj => (rowPos_lt T _ _ hs j (by omega)).1 (List.pairwise_iff_getElem.1 hs j i (by omega) h hj)
  rcases Nat.lt_trichotomy (rowPos T T[i].f0.f0 T[i].f0.f1) i with h4 | h4 | h4
  · exact absurd (h3 _ h4) (Nat.lt_irrefl _)
  · exact h4
  · exact absurd h4 h2
theorem of_l : ∀ (R : List S51) (T : List S71), R.Pairwise keyLt → (∀ y ∈ R, PrefG y.f0 ∧ y.f3.f1 < 1786) → (∀ x ∈ T, ∀ y ∈ R, cmpI x.f0.f0 x.f0.f1 y.f0.f0 y.f0.f1 < 0) → T.length + R.length < 256 → source_Of.l R T = some (T ++ R.map entO)
  | [], T, _, _, _, _ => by rw [List.map_nil, List.append_nil]; rfl
  | y :: R, T, hs, hg, ht, hl => by
    obtain ⟨h1, h2⟩ := List.pairwise_cons.1 hs
    obtain ⟨g1, g2⟩ := hg y List.mem_cons_self
    rw [List.length_cons] at hl
    have hp := rowPos_all T y.f0.f0 y.f0.f1 (fun x hx => ht x hx y List.mem_cons_self)
    have hh : rowHit T y.f0.f0 y.f0.f1 = false := by unfold rowHit; rw [hp, decide_eq_false (Nat.lt_irrefl _)]; rfl
    have hlow : source_Source_Lower.f T y.f0.f0 y.f0.f1 y.f3.f0 y.f3.f1 = some (0, T ++ [entO y]) := by
      unfold source_Source_Lower.f
      rw [g1.right.1, Option.bind_some, if_pos ⟨rfl, by omega⟩, if_neg (by rw [hh]; simp), if_neg (by omega), hp, List.take_length, List.drop_length]
      rfl
    rw [source_Of.l, hlow, Option.bind_some]
    rw [of_l R (T ++ [entO y]) h2 (fun z hz => hg z (List.mem_cons_of_mem _ hz)) (fun x hx z hz => ?_) (by rw [List.length_append, List.length_singleton]; omega), List.map_cons, List.append_assoc]
    · rfl
    · rcases List.mem_append.1 hx with hx | hx
      · exact ht x hx z (List.mem_cons_of_mem _ hz)
      · rw [List.mem_singleton] at hx
        subst hx
        exact h1 z hz
theorem ent_srt (R : List S51) (h : R.Pairwise keyLt) : rowSrt (R.map entO) := List.pairwise_map.2 h
theorem mark_at (R : List S51) (h : R.Pairwise keyLt) (i : Nat) (hi : i < R.length) : source_Source_Mark.f (R.map entO) R[i].f0.f0 R[i].f0.f1 = some (R[i].f3.f0, R[i].f3.f1, true, R.map entO) := by
  have hi2 : i < (R.map entO).length := by rw [List.length_map]; exact hi
  have e : (R.map entO)[i] = entO R[i] := List.getElem_map _
  have hp := rowPos_here (R.map entO) i hi2 (ent_srt R h)
  rw [e] at hp
  have hp2 : rowPos (R.map entO) R[i].f0.f0 R[i].f0.f1 = i := hp
  have hh : rowHit (R.map entO) R[i].f0.f0 R[i].f0.f1 = true := by
    unfold rowHit
    rw [hp2, rd_cast _ i hi2, e, Bool.and_eq_true, decide_eq_true_iff, beq_iff_eq]
    exact ⟨hi2, cmpI_eq.2 ⟨rfl, rfl⟩⟩
  unfold source_Source_Mark.f
  rw [hh, hp2, rd_cast _ i hi2, e, if_pos rfl, if_pos rfl]
  rfl
theorem of_run (R : List S51) (h : R.Pairwise keyLt) (hl : R.length < 1000) (d : Nat) : ∀ i : Nat, i + d = R.length → Ev (fun k => milestonelaw15_SourceOf.l0 k R (i : Int) (R.map entO)) true := by
  induction d with
  | zero =>
    intro i hi
    refine Ev.step (fun k => milestonelaw15_SourceOf.l0.eq_2 ..) (Ev.neg (by omega) (Ev.bindc (f := source_Source_Len.f (R.map entO)) rfl ?_))
    refine Ev.of_eq (fun k => congrArg some ?_)
    rw [List.length_map]
    exact beq_self_eq_true _
  | succ d ih =>
    intro i hi
    have hlt : i < R.length := by omega
    refine Ev.step (fun k => milestonelaw15_SourceOf.l0.eq_2 ..) (Ev.pos (by omega) (Ev.pos (by omega) ?_))
    rw [rd_nat51 R i hlt, wn1 i (by omega)]
    exact Ev.bindc (mark_at R h i hlt) (Ev.pos rfl (Ev.neg (by simp) (ih (i + 1) (by omega))))
theorem awake_src : milestonelaw15_awake.f = some true := by decide +kernel
theorem SourceOf : milestonelaw15_SourceOf.Pure := by
  intro l0 _ hx
  refine Ev.ex (f := fun k => milestonelaw15_SourceOf.f k l0) ?_
  refine Ev.bindc awake_src (Ev.pos rfl (Ev.step (fun k => milestonelaw15_SourceOf.j0.eq_2 ..) ?_))
  by_cases hn : (l0.length : Int) > 40
  · rw [decide_eq_true hn]
    exact Ev.pos rfl (Ev.bindc awake_src (Ev.const _))
  · rw [decide_eq_false hn]
    refine Ev.neg (by simp) ?_
    obtain ⟨H, t, hE, hH, hL⟩ := hist_is l0 hx (by omega)
    obtain ⟨hs, hg⟩ := hist_rows hH
    have hl := rowsOf_len H (prefs H [])
    have hl2 := prefs_len H []
    rw [List.length_nil] at hl2
    refine Ev.bind hE (Ev.bind (rows_is H (by omega)) ?_)
    generalize rowsOf H (prefs H []) = R at hs hg hl ⊢
    have hof : source_Of.f R = some (R.map entO) := by
      unfold source_Of.f
      rw [if_pos (by omega), of_l R [] hs hg (fun x hx => by cases hx) (by rw [List.length_nil]; omega)]
      rfl
    exact Ev.bindc hof (of_run R hs (by omega) R.length 0 (by omega))

end Go.Proofs.Ytkngncckidlniaa.Pure
