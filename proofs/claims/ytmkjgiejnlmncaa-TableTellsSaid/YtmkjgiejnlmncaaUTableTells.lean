/- TableTells: what the changes of a history come to in the table is what the document's rows, routes and marks tell; so are the last number and time.
For every input; no condition is added to the given statement. -/
import Derived.Test.YtmkjgiejnlmncaaQTableTellsx13
import Derived.Laws.BitsAllLaws
import Derived.OpenShut
import Derived.Lib.Bytes
namespace Go.Proofs.Ytmkjgiejnlmncaa.Pure
open Go.RowKit Go.Proofs.Ytmkjgiejnlmncaa.QTableTells Go.Proofs.YtmkjgiejnlmncaaW.PrintWords Go.Proofs.YtmkjgiejnlmncaaW.PrintLast Go.Proofs.YtmkjgiejnlmncaaW.PrintMore
set_option linter.unusedSimpArgs false
set_option linter.unusedVariables false

/-! ## rounds enough: from some number of rounds on it tells this -/
def Ev {α : Type} (f : Nat → Option α) (v : α) : Prop := ∃ k0, ∀ k, k0 ≤ k → f k = some v
theorem Ev.const {α : Type} (v : α) : Ev (fun _ => some v) v := ⟨0, fun _ _ => rfl⟩
theorem Ev.of_eq {α : Type} {f : Nat → Option α} {v : α} (h : ∀ k, f k = some v) : Ev f v := ⟨0, fun k _ => h k⟩
theorem Ev.step {α : Type} {f g : Nat → Option α} {v : α} (h : ∀ k, f (k + 1) = g k) (hg : Ev g v) : Ev f v := by
  obtain ⟨k0, h0⟩ := hg
  refine ⟨k0 + 1, fun k hk => ?_⟩
  obtain ⟨j, rfl⟩ : ∃ j, k = j + 1 := ⟨k - 1, by omega⟩
  rw [h j]
  exact h0 j (by omega)
theorem Ev.congr {α : Type} {f g : Nat → Option α} {v : α} (h : ∀ k, f k = g k) (hg : Ev g v) : Ev f v := by
  obtain ⟨k0, h0⟩ := hg
  exact ⟨k0, fun k hk => (h k).trans (h0 k hk)⟩
theorem Ev.bind {α β : Type} {f : Nat → Option α} {g : Nat → α → Option β} {a : α} {v : β} (hf : Ev f a) (hg : Ev (fun k => g k a) v) : Ev (fun k => (f k).bind (g k)) v := by
  obtain ⟨k0, h0⟩ := hf
  obtain ⟨k1, h1⟩ := hg
  refine ⟨max k0 k1, fun k hk => ?_⟩
  show (f k).bind (g k) = some v
  rw [h0 k (by omega), Option.bind_some]
  exact h1 k (by omega)
theorem Ev.bindc {α β : Type} {f : Option α} {g : Nat → α → Option β} {a : α} {v : β} (hf : f = some a) (hg : Ev (fun k => g k a) v) : Ev (fun k => f.bind (g k)) v := by
  subst hf
  exact hg
theorem Ev.pos {α : Type} {f g : Nat → Option α} {v : α} {c : Prop} [Decidable c] (h : c) (hf : Ev f v) : Ev (fun k => if c then f k else g k) v := by
  obtain ⟨k0, h0⟩ := hf
  exact ⟨k0, fun k hk => (if_pos h).trans (h0 k hk)⟩
theorem Ev.neg {α : Type} {f g : Nat → Option α} {v : α} {c : Prop} [Decidable c] (h : ¬ c) (hg : Ev g v) : Ev (fun k => if c then f k else g k) v := by
  obtain ⟨k0, h0⟩ := hg
  exact ⟨k0, fun k hk => (if_neg h).trans (h0 k hk)⟩
theorem Ev.ex {α : Type} {f : Nat → Option α} {v : α} (h : Ev f v) : ∃ k, f k = some v := by
  obtain ⟨k0, h0⟩ := h
  exact ⟨k0, h0 k0 (Nat.le_refl _)⟩
theorem wn1 (i : Nat) (h : i < 1000000) : wrap64 ((i : Int) + 1) = ((i + 1 : Nat) : Int) := by unfold wrap64; omega
theorem Ev.of_mono {α : Type} {f : Nat → Option α} {v : α} {k : Nat} (hm : ∀ k, LeO (f k) (f (k + 1))) (h : f k = some v) : Ev f v := ⟨k, fun K hK => at_rounds hm hK h⟩
/-! ## the document's Row, Prefixes and Rows, as plain folds -/
theorem rd_nat38 (l : List S38) (j : Nat) (h : j < l.length) : rd_T38 l (j : Int) = l[j] := by
  show l.getD (j : Int).toNat _ = l[j]
  rw [Int.toNat_natCast, List.getD_eq_getElem?_getD, List.getElem?_eq_getElem h]
  rfl
theorem rd_nat33 (l : List S33) (j : Nat) (h : j < l.length) : rd_T33 l (j : Int) = l[j] := by
  show l.getD (j : Int).toNat _ = l[j]
  rw [Int.toNat_natCast, List.getD_eq_getElem?_getD, List.getElem?_eq_getElem h]
  rfl
theorem rd_nat43 (l : List S43) (j : Nat) (h : j < l.length) : rd_T43 l (j : Int) = l[j] := by
  show l.getD (j : Int).toNat _ = l[j]
  rw [Int.toNat_natCast, List.getD_eq_getElem?_getD, List.getElem?_eq_getElem h]
  rfl
def nearB (a b c d : Int) : Bool := (milestoneref01_Nearer.f a b c d).getD false
theorem near_is (a b c d : Int) : milestoneref01_Nearer.f a b c d = some (nearB a b c d) := by
  have h : ∃ r, milestoneref01_Nearer.f a b c d = some r := by
    unfold milestoneref01_Nearer.f
    split
    · exact ⟨_, rfl⟩
    · unfold milestoneref01_Newer.f
      split
      · exact ⟨_, rfl⟩
      · exact ⟨_, rfl⟩
  obtain ⟨r, h⟩ := h
  unfold nearB
  rw [h]
  rfl
def ofP (a n : Int) (c : S38) : Bool := (c.f3.f0.f0 == a) && (c.f3.f0.f1 == n)
def rowStep (a n : Int) (s : S43 × Bool) (c : S38) : S43 × Bool :=
  if ofP a n c = true then
    (if c.f2 = true then (⟨s.1.f0, false, c.f3, s.1.f3⟩, s.2)
     else (⟨s.1.f0, true, c.f3, if s.2 = true ∧ nearB c.f3.f3 c.f3.f2 s.1.f3.f0 s.1.f3.f1 = false then s.1.f3 else ⟨c.f3.f3, c.f3.f2⟩⟩, true))
  else s
def row0 (a n : Int) : S43 × Bool := (⟨⟨a, n⟩, false, z36, z41⟩, false)
def rowOf (H : List S38) (a n : Int) : S43 × Bool := H.foldl (rowStep a n) (row0 a n)
def rowTup (s : S43 × Bool) : Int × Int × Bool × Int × Int × Int × Int × Int × Int × Int × Bool := (s.1.f0.f0, s.1.f0.f1, s.1.f1, s.1.f2.f0.f0, s.1.f2.f0.f1, s.1.f2.f1, s.1.f2.f2, s.1.f2.f3, s.1.f3.f0, s.1.f3.f1, s.2)
theorem row_l0 (H : List S38) (a n : Int) (hn : H.length < 1000) (d : Nat) : ∀ (i : Nat) (s : S43 × Bool), i + d = H.length →
    Ev (fun k => milestoneref07_Row.l0 k H s.2 (i : Int) a n s.1.f0.f0 s.1.f0.f1 s.1.f1 s.1.f2.f0.f0 s.1.f2.f0.f1 s.1.f2.f1 s.1.f2.f2 s.1.f2.f3 s.1.f3.f0 s.1.f3.f1) (rowTup ((H.drop i).foldl (rowStep a n) s)) := by
  induction d with
  | zero =>
    intro i s hi
    refine Ev.step (fun k => milestoneref07_Row.l0.eq_2 ..) (Ev.neg (by omega) ?_)
    rw [List.drop_eq_nil_of_le (by omega)]
    exact Ev.const _
  | succ d ih =>
    intro i s hi
    have hlt : i < H.length := by omega
    have w := wn1 i (by omega)
    refine Ev.step (fun k => milestoneref07_Row.l0.eq_2 ..) (Ev.pos (by omega) (Ev.pos (by omega) ?_))
    rw [List.drop_eq_getElem_cons hlt, List.foldl_cons, rd_nat38 H i hlt, w]
    generalize H[i] = c
    by_cases ho : ofP a n c = true
    · have ho2 : (!(c.f3.f0.f0 == a) || !(c.f3.f0.f1 == n)) = false := by
        unfold ofP at ho
        rw [Bool.and_eq_true] at ho
        rw [ho.1, ho.2]
        rfl
      refine Ev.neg (by rw [ho2]; simp) ?_
      by_cases hg : c.f2 = true
      · refine Ev.pos hg ?_
        have e : rowStep a n s c = (⟨s.1.f0, false, c.f3, s.1.f3⟩, s.2) := by unfold rowStep; rw [if_pos ho, if_pos hg]
        have := ih (i + 1) (rowStep a n s c) (by omega)
        rw [e] at this ⊢
        rw [hg]
        exact this
      · have hg' : c.f2 = false := by simpa using hg
        refine Ev.neg hg ?_
        by_cases hk : s.2 = true
        · refine Ev.pos hk (Ev.bindc (near_is _ _ _ _) ?_)
          by_cases hb : nearB c.f3.f3 c.f3.f2 s.1.f3.f0 s.1.f3.f1 = true
          · have e : rowStep a n s c = (⟨s.1.f0, true, c.f3, ⟨c.f3.f3, c.f3.f2⟩⟩, true) := by
              unfold rowStep; rw [if_pos ho, if_neg hg, if_neg (fun h => by rw [hb] at h; exact absurd h.2 (by simp))]
            have := ih (i + 1) (rowStep a n s c) (by omega)
            rw [e] at this ⊢
            refine Ev.pos hb ?_
            rw [hg']
            exact this
          · have hb' : nearB c.f3.f3 c.f3.f2 s.1.f3.f0 s.1.f3.f1 = false := by simpa using hb
            have e : rowStep a n s c = (⟨s.1.f0, true, c.f3, s.1.f3⟩, true) := by
              unfold rowStep; rw [if_pos ho, if_neg hg, if_pos ⟨hk, hb'⟩]
            have := ih (i + 1) (rowStep a n s c) (by omega)
            rw [e] at this ⊢
            refine Ev.neg hb ?_
            rw [hg']
            exact this
        · have e : rowStep a n s c = (⟨s.1.f0, true, c.f3, ⟨c.f3.f3, c.f3.f2⟩⟩, true) := by
            unfold rowStep; rw [if_pos ho, if_neg hg, if_neg (fun h => hk h.1)]
          have := ih (i + 1) (rowStep a n s c) (by omega)
          rw [e] at this ⊢
          refine Ev.neg hk ?_
          rw [hg']
          exact this
    · have ho2 : (!(c.f3.f0.f0 == a) || !(c.f3.f0.f1 == n)) = true := by
        unfold ofP at ho
        cases h1 : (c.f3.f0.f0 == a) <;> cases h2 : (c.f3.f0.f1 == n) <;> simp_all
      have e : rowStep a n s c = s := by unfold rowStep; rw [if_neg ho]
      rw [e]
      exact Ev.pos ho2 (ih (i + 1) s (by omega))
theorem row_is (H : List S38) (a n : Int) (hn : H.length < 1000) : Ev (fun k => milestoneref07_Row.f k H a n) (rowTup (rowOf H a n)) := row_l0 H a n hn H.length 0 (row0 a n) (by omega)
/-! ### Prefixes -/
def cmp31 (x y : S33) : Int := cmpI x.f0 x.f1 y.f0 y.f1
def insP : List S33 → S33 → List S33
  | [], p => [p]
  | y :: l, p => if cmp31 y p < 0 then y :: insP l p else if cmp31 y p = 0 then y :: l else p :: y :: l
theorem insP_len : ∀ (l : List S33) (p : S33), (insP l p).length ≤ l.length + 1
  | [], p => Nat.le_refl _
  | y :: l, p => by
    unfold insP
    split
    · exact Nat.succ_le_succ (insP_len l p)
    · split
      · exact Nat.le_succ _
      · exact Nat.le_refl _
theorem insP_at : ∀ (l : List S33) (p : S33) (j : Nat), j ≤ l.length → (∀ (q : Nat) (h : q < l.length), q < j → cmp31 l[q] p < 0) → insP l p = l.take j ++ insP (l.drop j) p
  | _, _, 0, _, _ => by simp
  | [], _, j + 1, h, _ => by simp at h
  | y :: l, p, j + 1, h, hq => by
    rw [insP, if_pos (show cmp31 y p < 0 from hq 0 (by simp) (by omega)), List.take_succ_cons, List.drop_succ_cons, List.cons_append, insP_at l p j (by simpa using h) (fun q h2 h3 => hq (q + 1) (by simpa using h2) (by omega))]
theorem ahead_is (a n c m : Int) : milestoneref01_Ahead.f a n c m = some (decide (cmpI a n c m < 0)) := by
  unfold milestoneref01_Ahead.f
  by_cases h1 : a < c
  · rw [if_pos h1]; exact congrArg some (decide_eq_true (cmpI_lt.2 (.inl h1))).symm
  · rw [if_neg h1]
    by_cases h2 : a = c
    · rw [if_pos h2]
      by_cases h3 : n < m
      · rw [decide_eq_true h3]; exact congrArg some (decide_eq_true (cmpI_lt.2 (.inr ⟨h2, h3⟩))).symm
      · rw [decide_eq_false h3]; exact congrArg some (decide_eq_false (fun h => by rw [cmpI_lt] at h; omega)).symm
    · rw [if_neg h2]; exact congrArg some (decide_eq_false (fun h => by rw [cmpI_lt] at h; omega)).symm
theorem pre_step (H : List S38) (out : List S33) (i : Int) (p : S33) (r : List S33) (hl : out.length < 1000) (h : Ev (fun k => milestoneref07_Prefixes.l0 k H (insP out p) (wrap64 (i + 1))) r) (d : Nat) :
    ∀ j : Nat, j + d = out.length → (∀ (q : Nat) (h : q < out.length), q < j → cmp31 out[q] p < 0) → Ev (fun k => milestoneref07_Prefixes.l1 k H out i (j : Int) p.f0 p.f1) r := by
  induction d with
  | zero =>
    intro j hj hq
    refine Ev.step (fun k => milestoneref07_Prefixes.l1.eq_2 ..) (Ev.neg (by omega) (Ev.pos (by omega) (Ev.pos (by omega) ?_)))
    have e := insP_at out p j (by omega) hq
    rw [List.drop_eq_nil_of_le (by omega), insP] at e
    rw [e] at h
    simp only [Option.bind_some, Int.toNat_natCast, List.nil_append, List.length_nil]
    refine Ev.pos (by rw [List.length_take]; omega) (Ev.pos (by rw [List.length_take]; omega) (Ev.pos (by simp only [List.length_append, List.length_take, List.length_drop, List.length_singleton]; omega) ?_))
    rw [List.drop_eq_nil_of_le (show out.length ≤ j by omega), List.append_nil]
    exact h
  | succ d ih =>
    intro j hj hq
    have hlt : j < out.length := by omega
    refine Ev.step (fun k => milestoneref07_Prefixes.l1.eq_2 ..) (Ev.pos (by omega) (Ev.pos (by omega) ?_))
    rw [rd_nat33 out j hlt, wn1 j (by omega)]
    refine Ev.bindc (ahead_is _ _ _ _) ?_
    by_cases h1 : cmpI out[j].f0 out[j].f1 p.f0 p.f1 < 0
    · refine Ev.pos (decide_eq_true h1) (ih (j + 1) (by omega) (fun q h2 h3 => ?_))
      by_cases e : q = j
      · subst e; exact h1
      · exact hq q h2 (by omega)
    · refine Ev.neg (by simpa using h1) ?_
      have e := insP_at out p j (by omega) hq
      rw [List.drop_eq_getElem_cons hlt, insP, if_neg (show ¬ cmp31 out[j] p < 0 from h1)] at e
      by_cases h2 : cmpI out[j].f0 out[j].f1 p.f0 p.f1 = 0
      · have h2' := cmpI_eq.1 h2
        refine Ev.pos (by rw [h2'.1, h2'.2]; simp) ?_
        rw [if_pos (show cmp31 out[j] p = 0 from h2), ← List.drop_eq_getElem_cons hlt, List.take_append_drop] at e
        rw [e] at h
        exact h
      · rw [if_neg (show ¬ cmp31 out[j] p = 0 from h2), ← List.drop_eq_getElem_cons hlt] at e
        rw [e] at h
        refine Ev.neg (fun hh => h2 (cmpI_eq.2 ?_)) (Ev.pos (by omega) ?_)
        · simpa using hh
        · simp only [Option.bind_some, Int.toNat_natCast, List.nil_append, List.length_nil]
          refine Ev.pos (by rw [List.length_take]; omega) (Ev.pos (by rw [List.length_take]; omega) (Ev.pos (by simp only [List.length_append, List.length_take, List.length_drop, List.length_singleton]; omega) ?_))
          rw [List.append_assoc]
          exact h
def prefs (H : List S38) (out : List S33) : List S33 := H.foldl (fun o c => insP o c.f3.f0) out
theorem prefs_len : ∀ (H : List S38) (out : List S33), (prefs H out).length ≤ out.length + H.length
  | [], out => Nat.le_refl _
  | c :: H, out => by
    have h1 := prefs_len H (insP out c.f3.f0)
    have h2 := insP_len out c.f3.f0
    show (prefs H (insP out c.f3.f0)).length ≤ _
    rw [List.length_cons]
    omega
theorem pre_l0 (H : List S38) (hn : H.length < 500) (d : Nat) : ∀ (i : Nat) (out : List S33), i + d = H.length → out.length ≤ i →
    Ev (fun k => milestoneref07_Prefixes.l0 k H out (i : Int)) (prefs (H.drop i) out) := by
  induction d with
  | zero =>
    intro i out hi ho
    refine Ev.step (fun k => milestoneref07_Prefixes.l0.eq_2 ..) (Ev.neg (by omega) ?_)
    rw [List.drop_eq_nil_of_le (by omega)]
    exact Ev.const _
  | succ d ih =>
    intro i out hi ho
    have hlt : i < H.length := by omega
    refine Ev.step (fun k => milestoneref07_Prefixes.l0.eq_2 ..) (Ev.pos (by omega) (Ev.pos (by omega) ?_))
    rw [List.drop_eq_getElem_cons hlt, rd_nat38 H i hlt]
    have h2 := insP_len out H[i].f3.f0
    refine pre_step H out i H[i].f3.f0 _ (by omega) ?_ out.length 0 (by omega) (fun q _ h => by omega)
    rw [wn1 i (by omega)]
    exact ih (i + 1) (insP out H[i].f3.f0) (by omega) (by omega)
theorem prefs_is (H : List S38) (hn : H.length < 500) : Ev (fun k => milestoneref07_Prefixes.f k H) (prefs H []) := pre_l0 H hn H.length 0 [] (by omega) (Nat.zero_le _)
/-! ### Rows -/
def rowsOf (H : List S38) (ps : List S33) : List S43 := ps.filterMap (fun p => if (rowOf H p.f0 p.f1).2 = true then some (rowOf H p.f0 p.f1).1 else none)
theorem rows_l0 (H : List S38) (ps : List S33) (hn : H.length < 500) (hp : ps.length < 1000) (d : Nat) : ∀ (i : Nat) (out : List S43), i + d = ps.length → out.length ≤ i →
    Ev (fun k => milestoneref07_Rows.l0 k H out ps (i : Int)) (out ++ rowsOf H (ps.drop i)) := by
  induction d with
  | zero =>
    intro i out hi ho
    refine Ev.step (fun k => milestoneref07_Rows.l0.eq_2 ..) (Ev.neg (by omega) ?_)
    rw [List.drop_eq_nil_of_le (by omega), rowsOf, List.filterMap_nil, List.append_nil]
    exact Ev.const _
  | succ d ih =>
    intro i out hi ho
    have hlt : i < ps.length := by omega
    refine Ev.step (fun k => milestoneref07_Rows.l0.eq_2 ..) (Ev.pos (by omega) (Ev.pos (by omega) ?_))
    rw [List.drop_eq_getElem_cons hlt, rd_nat33 ps i hlt, wn1 i (by omega)]
    refine Ev.bind (row_is H _ _ (by omega)) ?_
    by_cases h : (rowOf H ps[i].f0 ps[i].f1).2 = true
    · refine Ev.pos h (Ev.pos (by omega) ?_)
      have := ih (i + 1) (out ++ [(rowOf H ps[i].f0 ps[i].f1).1]) (by omega) (by rw [List.length_append, List.length_singleton]; omega)
      rw [rowsOf, List.filterMap_cons, if_pos h]
      rw [List.append_assoc, List.singleton_append] at this
      exact this
    · refine Ev.neg h ?_
      have := ih (i + 1) out (by omega) (by omega)
      rw [rowsOf, List.filterMap_cons, if_neg h]
      exact this
theorem rows_is (H : List S38) (hn : H.length < 500) : Ev (fun k => milestoneref07_Rows.f k H) (rowsOf H (prefs H [])) := by
  have hl := prefs_len H []
  rw [List.length_nil] at hl
  exact Ev.bind (prefs_is H hn) (rows_l0 H (prefs H []) hn (by omega) (prefs H []).length 0 [] (by omega) (Nat.zero_le _))
/-! ## the document's History, step by step -/
theorem t3 (q : Nat) : Int.tmod (q : Int) 3 = ((q % 3 : Nat) : Int) := rfl
theorem d3 (q : Nat) : Int.tdiv (q : Int) 3 = ((q / 3 : Nat) : Int) := rfl
theorem d6 (q : Nat) : Int.tdiv (q : Int) 6 = ((q / 6 : Nat) : Int) := rfl
theorem prefix18 (k p : Nat) (hp : p < 256) : milestoneref07_Prefix.f k (p : Int) = milestoneref07_Prefix.f k ((p % 18 : Nat) : Int) := by
  unfold milestoneref07_Prefix.f
  rw [t3, t3, d3, d3, d6, d6]
  have e1 : (p % 18 : Nat) % 3 = p % 3 := by omega
  have e2 : (((p % 18 / 3 : Nat) : Int)) % 2 = ((p / 3 : Nat) : Int) % 2 := by omega
  have e3 : (((p % 18 / 6 : Nat) : Int)) % 256 % 3 = ((p / 6 : Nat) : Int) % 256 % 3 := by omega
  rw [e1, e2, e3]
theorem u8of (x : Int) (h : (Lit.int .u8 x).wf = true) : ∃ p : Nat, p < 256 ∧ x = (p : Int) := by
  simp [Lit.wf, IntKind.signed, IntKind.bits, IntKind.min, IntKind.max] at h
  exact ⟨x.toNat, by omega, by omega⟩
def PrefG (p : S33) : Prop := ∃ q : Nat, q < 18 ∧ milestoneref07_Prefix.f 40 (q : Int) = some (p.f0, p.f1)
def prefOk (p : Nat) : Bool := match milestoneref07_Prefix.f 40 (p : Int) with
  | some (a, n) => decide (prefix_Right.f a n = some true) && decide (0 ≤ a ∧ a < 4294967296) && decide (8 ≤ n ∧ n ≤ 24)
  | none => false
theorem pref_all : ((List.range 18).all prefOk) = true := by decide +kernel
theorem PrefG.right {p : S33} (h : PrefG p) : prefix_Right.f p.f0 p.f1 = some true ∧ (0 ≤ p.f0 ∧ p.f0 < 4294967296) ∧ 8 ≤ p.f1 ∧ p.f1 ≤ 24 := by
  obtain ⟨q, hq, hx⟩ := h
  have h := pref_all
  rw [List.all_eq_true] at h
  have h2 := h q (List.mem_range.2 hq)
  unfold prefOk at h2
  rw [hx] at h2
  simp only [Bool.and_eq_true, decide_eq_true_eq] at h2
  exact ⟨h2.1.1, h2.1.2, h2.2⟩
theorem pref_ev (p : Nat) (hp : p < 256) : ∃ P : S33, Ev (fun k => milestoneref07_Prefix.f k (p : Int)) (P.f0, P.f1) ∧ PrefG P ∧ milestoneref07_Prefix.f 40 ((p % 18 : Nat) : Int) = some (P.f0, P.f1) := by
  have h := pref_all
  rw [List.all_eq_true] at h
  have h2 := h (p % 18) (List.mem_range.2 (Nat.mod_lt _ (by omega)))
  unfold prefOk at h2
  cases hx : milestoneref07_Prefix.f 40 ((p % 18 : Nat) : Int) with
  | none => rw [hx] at h2; cases h2
  | some x =>
    obtain ⟨a, n⟩ := x
    exact ⟨⟨a, n⟩, Ev.congr (fun k => prefix18 k p hp) (Ev.of_mono (k := 40) (fun k => milestoneref07_Prefix.mono _ k) hx), ⟨p % 18, Nat.mod_lt _ (by omega), hx⟩, rfl⟩
inductive Hist : List S38 → Int → Prop
  | nil : Hist [] 0
  | way {l : List S38} {t : Int} {c : S38} (h : Hist l t) (h0 : c.f0 = (l.length : Int) + 1) (h1 : t ≤ c.f1 ∧ c.f1 ≤ t + 3) (h2 : c.f2 = false) (hp : PrefG c.f3.f0) (hv : 0 ≤ c.f3.f1 ∧ c.f3.f1 < 16) (hm : 0 ≤ c.f3.f2 ∧ c.f3.f2 < 1786) (hs : 0 ≤ c.f3.f3 ∧ c.f3.f3 < 65536) : Hist (l ++ [c]) c.f1
  | gone {l : List S38} {t : Int} {c : S38} (h : Hist l t) (h0 : c.f0 = (l.length : Int) + 1) (h1 : t ≤ c.f1 ∧ c.f1 ≤ t + 3) (h2 : c.f2 = true) (hp : PrefG c.f3.f0) (hv : c.f3.f1 = 0) (hm : c.f3.f2 = 0) (hs : c.f3.f3 = 0)
      (ho : (rowOf l c.f3.f0.f0 c.f3.f0.f1).2 = true) (hh : (rowOf l c.f3.f0.f0 c.f3.f0.f1).1.f1 = true) : Hist (l ++ [c]) c.f1
theorem Hist.time {l : List S38} {t : Int} (h : Hist l t) : 0 ≤ t ∧ t ≤ 3 * (l.length : Int) := by
  induction h with
  | nil => simp
  | way h h0 h1 h2 hp hv hm hs ih => rw [List.length_append, List.length_singleton]; omega
  | gone h h0 h1 h2 hp hv hm hs ho hh ih => rw [List.length_append, List.length_singleton]; omega
theorem rd_nat68 (l : List S68) (j : Nat) (h : j < l.length) : rd_T68 l (j : Int) = l[j] := by
  show l.getD (j : Int).toNat _ = l[j]
  rw [Int.toNat_natCast, List.getD_eq_getElem?_getD, List.getElem?_eq_getElem h]
  rfl
theorem wr64u (n : Int) : IntKind.u64.wrap n = n % 18446744073709551616 := by
  unfold IntKind.wrap; simp [IntKind.signed, IntKind.bits]
theorem time_is (t f4 : Int) (ht : 0 ≤ t ∧ t < 1000) (h4 : 0 ≤ f4 ∧ f4 < 256) : IntKind.u64.wrap (t + (IntKind.u64.wrap (Int.tmod f4 4))) = t + f4 % 4 := by
  rw [Int.tmod_eq_emod_of_nonneg h4.1, wr64u, wr64u]; omega
theorem no_is (l : List S38) (hl : l.length < 1000) : IntKind.u64.wrap (wrap64 ((l.length : Int) + 1)) = (l.length : Int) + 1 := by
  rw [wr64u]; unfold wrap64; omega
theorem hist_l0 (x0 : List S68) (hx : ∀ x ∈ x0, ((Lit.int .u8 x.f0).wf = true ∧ ((Lit.int .u8 x.f1).wf = true ∧ ((Lit.int .u8 x.f2).wf = true ∧ ((Lit.int .u8 x.f3).wf = true ∧ (Lit.int .u8 x.f4).wf = true))))) (hn : x0.length ≤ 60) (d : Nat) :
    ∀ (i : Nat) (l : List S38) (t : Int), i + d = x0.length → l.length = i → Hist l t → ∃ l2 t2, Ev (fun k => milestoneref07_History.l0 k x0 l t (i : Int)) l2 ∧ Hist l2 t2 ∧ l2.length = x0.length := by
  induction d with
  | zero =>
    intro i l t hi hl hp
    refine ⟨l, t, Ev.step (fun k => milestoneref07_History.l0.eq_2 ..) (Ev.neg (by omega) (Ev.step (fun k => milestoneref07_History.j1.eq_2 ..) (Ev.neg (by decide) (Ev.const _)))), hp, by omega⟩
  | succ d ih =>
    intro i l t hi hl hp
    have hlt : i < x0.length := by omega
    obtain ⟨b0, b1, b2, b3, b4⟩ := hx _ (List.getElem_mem hlt)
    obtain ⟨p0, h0, e0⟩ := u8of _ b0
    obtain ⟨p1, h1, e1⟩ := u8of _ b1
    obtain ⟨p2, h2, e2⟩ := u8of _ b2
    obtain ⟨p3, h3, e3⟩ := u8of _ b3
    obtain ⟨p4, h4, e4⟩ := u8of _ b4
    obtain ⟨P, hP, hG, _⟩ := pref_ev p0 h0
    have ht := hp.time
    have tm := Aside0.mk (time_is t (p4 : Int) (by omega) (by omega))
    have nm := Aside0.mk (no_is l (by omega))
    have wn := Aside0.mk (wn1 i (by omega))
    have v1 : Aside0 (wrap64 (Int.tmod (p1 : Int) 16) = ((p1 % 16 : Nat) : Int)) := Aside0.mk <| by rw [show Int.tmod (p1 : Int) 16 = ((p1 % 16 : Nat) : Int) from rfl]; unfold wrap64; omega
    have w2 : Aside0 (IntKind.u16.wrap ((IntKind.u16.wrap (p2 : Int)) * 7) = (p2 : Int) * 7) := Aside0.mk <| by show ((p2 : Int) % 65536 * 7) % 65536 = (p2 : Int) * 7; omega
    have w3 : 0 ≤ IntKind.u16.wrap ((Int.tmod (IntKind.u16.wrap (p3 : Int)) 4) + 65534) ∧ IntKind.u16.wrap ((Int.tmod (IntKind.u16.wrap (p3 : Int)) 4) + 65534) < 65536 := by
      show 0 ≤ (Int.tmod ((p3 : Int) % 65536) 4 + 65534) % 65536 ∧ (Int.tmod ((p3 : Int) % 65536) 4 + 65534) % 65536 < 65536
      omega
    obtain ⟨sq, hsq⟩ : ∃ sq, sq = IntKind.u16.wrap ((Int.tmod (IntKind.u16.wrap (p3 : Int)) 4) + 65534) := ⟨_, rfl⟩
    rw [← hsq] at w3
    have HSQ := Aside0.mk hsq
    clear hsq
    have way : ∃ l2 t2, Ev (fun k => milestoneref07_History.l0 k x0 (l ++ [(⟨(l.length : Int) + 1, t + (p4 : Int) % 4, false, (⟨(⟨P.f0, P.f1⟩ : S33), ((p1 % 16 : Nat) : Int), (p2 : Int) * 7, sq⟩ : S36)⟩ : S38)]) (t + (p4 : Int) % 4) ((i + 1 : Nat) : Int)) l2 ∧ Hist l2 t2 ∧ l2.length = x0.length :=
      ih (i + 1) _ _ (by omega) (by rw [List.length_append, List.length_singleton]; omega) (Hist.way (c := (⟨(l.length : Int) + 1, t + (p4 : Int) % 4, false, (⟨(⟨P.f0, P.f1⟩ : S33), ((p1 % 16 : Nat) : Int), (p2 : Int) * 7, sq⟩ : S36)⟩ : S38)) hp rfl ⟨by show t ≤ t + (p4 : Int) % 4; omega, by show t + (p4 : Int) % 4 ≤ t + 3; omega⟩ rfl hG ⟨by show (0 : Int) ≤ ((p1 % 16 : Nat) : Int); omega, by show ((p1 % 16 : Nat) : Int) < 16; omega⟩ ⟨by show (0 : Int) ≤ (p2 : Int) * 7; omega, by show (p2 : Int) * 7 < 1786; omega⟩ w3)
    have body : ∀ (l2 : List S38) , Ev (fun k => milestoneref07_History.l0 k x0 (l ++ [(⟨(l.length : Int) + 1, t + (p4 : Int) % 4, false, (⟨(⟨P.f0, P.f1⟩ : S33), ((p1 % 16 : Nat) : Int), (p2 : Int) * 7, sq⟩ : S36)⟩ : S38)]) (t + (p4 : Int) % 4) ((i + 1 : Nat) : Int)) l2 →
        ((rowOf l P.f0 P.f1).2 = true ∧ (rowOf l P.f0 P.f1).1.f1 = true ∧ Int.tmod (p1 : Int) 4 = 3 → Ev (fun k => milestoneref07_History.l0 k x0 (l ++ [(⟨(l.length : Int) + 1, t + (p4 : Int) % 4, true, (⟨(⟨P.f0, P.f1⟩ : S33), 0, 0, 0⟩ : S36)⟩ : S38)]) (t + (p4 : Int) % 4) ((i + 1 : Nat) : Int)) l2) →
        Ev (fun k => milestoneref07_History.l0 k x0 l t (i : Int)) l2 := by
      intro l2 hw hg
      refine Ev.step (fun k => milestoneref07_History.l0.eq_2 ..) (Ev.pos (by omega) ?_)
      rw [decide_eq_true (show (i : Int) < 60 by omega)]
      refine Ev.step (fun k => milestoneref07_History.j1.eq_2 ..) (Ev.pos rfl (Ev.pos (by omega) (Ev.pos (by omega) ?_)))
      rw [rd_nat68 x0 i hlt, e0, e1, e2, e3, e4, tm.out, nm.out, wn.out, v1.out, w2.out, ← HSQ.out]
      refine Ev.bind hP (Ev.bind (row_is l P.f0 P.f1 (by omega)) ?_)
      by_cases c1 : (rowOf l P.f0 P.f1).2 = true
      · refine Ev.pos c1 ?_
        by_cases c2 : (rowOf l P.f0 P.f1).1.f1 = true
        · refine Ev.pos c2 ?_
          by_cases c3 : Int.tmod (p1 : Int) 4 = 3
          · exact Ev.pos c3 (Ev.pos (by omega) (hg ⟨c1, c2, c3⟩))
          · exact Ev.neg c3 (Ev.pos (by omega) hw)
        · exact Ev.neg c2 (Ev.pos (by omega) hw)
      · exact Ev.neg c1 (Ev.pos (by omega) hw)
    by_cases c : (rowOf l P.f0 P.f1).2 = true ∧ (rowOf l P.f0 P.f1).1.f1 = true ∧ Int.tmod (p1 : Int) 4 = 3
    · obtain ⟨l2, t2, hE, hH, hL⟩ := ih (i + 1) _ _ (by omega) (by rw [List.length_append, List.length_singleton]; omega) (Hist.gone (c := (⟨(l.length : Int) + 1, t + (p4 : Int) % 4, true, (⟨(⟨P.f0, P.f1⟩ : S33), 0, 0, 0⟩ : S36)⟩ : S38)) hp rfl ⟨by show t ≤ t + (p4 : Int) % 4; omega, by show t + (p4 : Int) % 4 ≤ t + 3; omega⟩ rfl hG rfl rfl rfl c.1 c.2.1)
      refine ⟨l2, t2, ?_, hH, hL⟩
      refine Ev.step (fun k => milestoneref07_History.l0.eq_2 ..) (Ev.pos (by omega) ?_)
      rw [decide_eq_true (show (i : Int) < 60 by omega)]
      refine Ev.step (fun k => milestoneref07_History.j1.eq_2 ..) (Ev.pos rfl (Ev.pos (by omega) (Ev.pos (by omega) ?_)))
      rw [rd_nat68 x0 i hlt, e0, e1, e2, e3, e4, tm.out, nm.out, wn.out, v1.out, w2.out, ← HSQ.out]
      refine Ev.bind hP (Ev.bind (row_is l P.f0 P.f1 (by omega)) ?_)
      exact Ev.pos c.1 (Ev.pos c.2.1 (Ev.pos c.2.2 (Ev.pos (by omega) hE)))
    · obtain ⟨l2, t2, hE, hH, hL⟩ := way
      exact ⟨l2, t2, body l2 hE (fun h => absurd h c), hH, hL⟩
theorem hist_is (x0 : List S68) (hx : ∀ x ∈ x0, ((Lit.int .u8 x.f0).wf = true ∧ ((Lit.int .u8 x.f1).wf = true ∧ ((Lit.int .u8 x.f2).wf = true ∧ ((Lit.int .u8 x.f3).wf = true ∧ (Lit.int .u8 x.f4).wf = true))))) (hn : x0.length ≤ 60) :
    ∃ l2 t2, Ev (fun k => milestoneref07_History.f k x0) l2 ∧ Hist l2 t2 ∧ l2.length = x0.length := hist_l0 x0 hx hn x0.length 0 [] 0 (by omega) rfl Hist.nil
/-! ## the rows of a history: rising, right, no endless mark -/
theorem insP_mem : ∀ (l : List S33) (p x : S33), x ∈ insP l p → x ∈ l ∨ x = p
  | [], p, x, h => .inr (List.mem_singleton.1 h)
  | y :: l, p, x, h => by
    unfold insP at h
    split at h
    · rcases List.mem_cons.1 h with rfl | h
      · exact .inl List.mem_cons_self
      · rcases insP_mem l p x h with h | h
        · exact .inl (List.mem_cons_of_mem _ h)
        · exact .inr h
    · split at h
      · exact .inl h
      · rcases List.mem_cons.1 h with rfl | h
        · exact .inr rfl
        · exact .inl h
def srtP (l : List S33) : Prop := l.Pairwise (fun x y => cmp31 x y < 0)
theorem insP_srt : ∀ (l : List S33) (p : S33), srtP l → srtP (insP l p)
  | [], p, _ => List.pairwise_singleton _ _
  | y :: l, p, h => by
    obtain ⟨h1, h2⟩ := List.pairwise_cons.1 h
    unfold insP
    by_cases a : cmp31 y p < 0
    · rw [if_pos a]
      refine List.pairwise_cons.2 ⟨fun z hz => ?_, insP_srt l p h2⟩
      rcases insP_mem l p z hz with hz | rfl
      · exact h1 z hz
      · exact a
    · rw [if_neg a]
      by_cases b : cmp31 y p = 0
      · rw [if_pos b]; exact h
      · rw [if_neg b]
        have hpy : cmp31 p y < 0 := cmpI_gt a b
        refine List.pairwise_cons.2 ⟨fun z hz => ?_, h⟩
        rcases List.mem_cons.1 hz with rfl | hz
        · exact hpy
        · exact cmpI_trans hpy (h1 z hz)
theorem prefs_srt : ∀ (H : List S38) (out : List S33), srtP out → srtP (prefs H out)
  | [], _, h => h
  | c :: H, out, h => prefs_srt H (insP out c.f3.f0) (insP_srt out _ h)
theorem prefs_mem : ∀ (H : List S38) (out : List S33) (x : S33), x ∈ prefs H out → x ∈ out ∨ ∃ c ∈ H, c.f3.f0 = x
  | [], _, _, h => .inl h
  | c :: H, out, x, h => by
    rcases prefs_mem H (insP out c.f3.f0) x h with h | ⟨d, hd, e⟩
    · rcases insP_mem _ _ _ h with h | rfl
      · exact .inl h
      · exact .inr ⟨c, List.mem_cons_self, rfl⟩
    · exact .inr ⟨d, List.mem_cons_of_mem _ hd, e⟩
theorem rowStep_key (a n : Int) (s : S43 × Bool) (c : S38) : (rowStep a n s c).1.f0 = s.1.f0 := by
  unfold rowStep
  split
  · split <;> rfl
  · rfl
theorem row_key (a n : Int) : ∀ (H : List S38) (s : S43 × Bool), (H.foldl (rowStep a n) s).1.f0 = s.1.f0
  | [], _ => rfl
  | c :: H, s => by rw [List.foldl_cons, row_key a n H, rowStep_key]
theorem rowOf_key (H : List S38) (a n : Int) : (rowOf H a n).1.f0 = ⟨a, n⟩ := row_key a n H (row0 a n)
theorem Hist.mem {l : List S38} {t : Int} (h : Hist l t) : ∀ c ∈ l, PrefG c.f3.f0 ∧ (c.f2 = false → 0 ≤ c.f3.f2 ∧ c.f3.f2 < 1786) ∧ 0 ≤ c.f3.f3 ∧ c.f3.f3 < 65536 := by
  induction h with
  | nil => intro c hc; cases hc
  | way h h0 h1 h2 hp hv hm hs ih =>
    intro c hc
    rcases List.mem_append.1 hc with hc | hc
    · exact ih c hc
    · rw [List.mem_singleton] at hc
      subst hc
      exact ⟨hp, fun _ => hm, hs⟩
  | gone h h0 h1 h2 hp hv hm hs ho hh ih =>
    intro c hc
    rcases List.mem_append.1 hc with hc | hc
    · exact ih c hc
    · rw [List.mem_singleton] at hc
      subst hc
      exact ⟨hp, (fun hf => by rw [h2] at hf; cases hf), by rw [hs]; omega⟩
theorem row_met (a n : Int) : ∀ (H : List S38) (s : S43 × Bool), (∀ c ∈ H, c.f2 = false → c.f3.f2 < 1786) → (s.2 = true → s.1.f3.f1 < 1786) → (H.foldl (rowStep a n) s).2 = true → (H.foldl (rowStep a n) s).1.f3.f1 < 1786
  | [], _, _, h => h
  | c :: H, s, hc, h => by
    rw [List.foldl_cons]
    refine row_met a n H (rowStep a n s c) (fun d hd => hc d (List.mem_cons_of_mem _ hd)) (fun h2 => ?_)
    have hcc := hc c List.mem_cons_self
    unfold rowStep at h2 ⊢
    by_cases h3 : ofP a n c = true
    · rw [if_pos h3] at h2 ⊢
      by_cases h4 : c.f2 = true
      · rw [if_pos h4] at h2 ⊢
        exact h h2
      · rw [if_neg h4]
        show (if s.2 = true ∧ nearB c.f3.f3 c.f3.f2 s.1.f3.f0 s.1.f3.f1 = false then s.1.f3 else ⟨c.f3.f3, c.f3.f2⟩ : S41).f1 < 1786
        split
        · rename_i h5
          exact h h5.1
        · exact hcc (by simpa using h4)
    · rw [if_neg h3] at h2 ⊢
      exact h h2
def keyLt (x y : S43) : Prop := cmpI x.f0.f0 x.f0.f1 y.f0.f0 y.f0.f1 < 0
theorem rowsOf_srt (H : List S38) : ∀ ps : List S33, srtP ps → (rowsOf H ps).Pairwise keyLt
  | [], _ => List.Pairwise.nil
  | p :: ps, h => by
    obtain ⟨h1, h2⟩ := List.pairwise_cons.1 h
    have ih := rowsOf_srt H ps h2
    unfold rowsOf at ih ⊢
    rw [List.filterMap_cons]
    by_cases c : (rowOf H p.f0 p.f1).2 = true
    · rw [if_pos c]
      refine List.pairwise_cons.2 ⟨fun y hy => ?_, ih⟩
      obtain ⟨q, hq, e⟩ := List.mem_filterMap.1 hy
      split at e
      · have e2 := Option.some.inj e
        subst e2
        unfold keyLt
        rw [rowOf_key, rowOf_key]
        exact h1 q hq
      · cases e
    · rw [if_neg c]
      exact ih
theorem rowsOf_mem (H : List S38) (ps : List S33) (y : S43) (h : y ∈ rowsOf H ps) : y.f0 ∈ ps ∧ y = (rowOf H y.f0.f0 y.f0.f1).1 ∧ (rowOf H y.f0.f0 y.f0.f1).2 = true := by
  obtain ⟨q, hq, e⟩ := List.mem_filterMap.1 h
  split at e
  · rename_i h2
    have e2 := Option.some.inj e
    subst e2
    rw [rowOf_key]
    exact ⟨hq, rfl, h2⟩
  · cases e
theorem rowsOf_len (H : List S38) (ps : List S33) : (rowsOf H ps).length ≤ ps.length := List.length_filterMap_le _ _
theorem hist_rows {H : List S38} {t : Int} (h : Hist H t) : (rowsOf H (prefs H [])).Pairwise keyLt ∧ ∀ y ∈ rowsOf H (prefs H []), PrefG y.f0 ∧ y.f3.f1 < 1786 := by
  refine ⟨rowsOf_srt H _ (prefs_srt H [] List.Pairwise.nil), fun y hy => ?_⟩
  obtain ⟨h1, h2, h3⟩ := rowsOf_mem H _ y hy
  refine ⟨?_, ?_⟩
  · rcases prefs_mem H [] _ h1 with h1 | ⟨c, hc, e⟩
    · cases h1
    · rw [← e]; exact (h.mem c hc).1
  · rw [h2]
    exact row_met _ _ H _ (fun c hc hg => ((h.mem c hc).2.1 hg).2) (fun hh => by cases hh) h3

/-! ## what a history's changes come to in the table -/
theorem near_eq (a b c d : Int) (ha : 0 ≤ a ∧ a < 65536) (hc : 0 ≤ c ∧ c < 65536) : serial_Nearer.f a b c d = some (nearB a b c d) := by
  have h := near_is a b c d
  rw [← h]
  unfold serial_Nearer.f serial_Newer.f milestoneref01_Nearer.f milestoneref01_Newer.f
  by_cases e : a = c
  · subst e
    simp
  · have e1 : IntKind.u16.wrap (a - c) = (a - c) % 65536 := by unfold IntKind.wrap; simp [IntKind.signed, IntKind.bits]
    have e2 : Int.tmod (wrap64 ((wrap64 ((wrap64 a) - (wrap64 c))) + 65536)) 65536 = (a - c) % 65536 := by
      have w : wrap64 ((wrap64 ((wrap64 a) - (wrap64 c))) + 65536) = a - c + 65536 := by unfold wrap64; omega
      rw [w, Int.tmod_eq_emod_of_nonneg (by omega)]
      omega
    rw [e1, e2]
    simp only [if_neg e, Option.bind_some]
    have hp : (a - c) % 65536 ≥ 1 := by omega
    rw [if_pos hp, Option.bind_some]
    by_cases hlt : (a - c) % 65536 < 32768
    · rw [decide_eq_true hlt, if_pos rfl, decide_eq_true (show (a - c) % 65536 ≤ 32767 by omega)]
    · rw [decide_eq_false hlt, if_neg (by simp), decide_eq_false (show ¬ (a - c) % 65536 ≤ 32767 by omega)]
theorem best_eq (a b c d : Int) (ha : 0 ≤ a ∧ a < 65536) (hc : 0 ≤ c ∧ c < 65536) : serial_Best.f a b c d = some (if nearB c d a b = false then (a, b) else (c, d)) := by
  unfold serial_Best.f
  rw [near_eq c d a b hc ha, Option.bind_some]
  cases nearB c d a b <;> rfl
theorem near_self (a b : Int) : nearB a b a b = false := by
  unfold nearB milestoneref01_Nearer.f
  rw [if_pos rfl]
  simp
theorem right_hist (c : S38) (hp : PrefG c.f3.f0) (h : (c.f2 = true ∧ c.f3.f1 = 0 ∧ c.f3.f2 = 0 ∧ c.f3.f3 = 0) ∨ (c.f2 = false ∧ (0 ≤ c.f3.f1 ∧ c.f3.f1 < 16) ∧ (0 ≤ c.f3.f2 ∧ c.f3.f2 < 1786))) : change_Right.f 5 c.f0 c.f1 c.f2 c.f3.f0.f0 c.f3.f0.f1 c.f3.f1 c.f3.f2 c.f3.f3 = some 0 := by
  unfold change_Right.f
  rw [hp.right.1, Option.bind_some, if_pos rfl]
  rcases h with ⟨h1, h2, h3, h4⟩ | ⟨h1, h2, h3⟩
  · rw [if_pos h1, h2, h3, h4, h1]
    rfl
  · rw [if_neg (by rw [h1]; simp), change_Right.j0, if_neg (by simp), if_neg (by rw [h1]; simp), if_neg (by omega), if_neg (by omega), if_neg (by omega)]
theorem ofP_iff (a n : Int) (c : S38) : ofP a n c = true ↔ c.f3.f0 = ⟨a, n⟩ := by
  unfold ofP
  rw [Bool.and_eq_true, beq_iff_eq, beq_iff_eq]
  constructor
  · rintro ⟨h1, h2⟩
    cases h : c.f3.f0
    rw [h] at h1 h2
    subst h1 h2
    rfl
  · intro h
    rw [h]
    exact ⟨rfl, rfl⟩
theorem rowOf_snoc (H : List S38) (c : S38) (a n : Int) : rowOf (H ++ [c]) a n = rowStep a n (rowOf H a n) c := by
  unfold rowOf
  rw [List.foldl_append]
  rfl
theorem prefs_snoc (H : List S38) (c : S38) : prefs (H ++ [c]) [] = insP (prefs H []) c.f3.f0 := by
  unfold prefs
  rw [List.foldl_append]
  rfl
theorem cmp31_eq {x y : S33} : cmp31 x y = 0 ↔ x = y := by
  unfold cmp31
  rw [cmpI_eq]
  constructor
  · rintro ⟨h1, h2⟩
    cases x; cases y
    simp only at h1 h2
    subst h1 h2
    rfl
  · rintro rfl
    exact ⟨rfl, rfl⟩
theorem insP_in : ∀ (l : List S33) (p : S33), p ∈ insP l p
  | [], p => List.mem_singleton.2 rfl
  | y :: l, p => by
    unfold insP
    split
    · exact List.mem_cons_of_mem _ (insP_in l p)
    · split
      · rename_i h
        rw [cmp31_eq.1 h]
        exact List.mem_cons_self
      · exact List.mem_cons_self
theorem insP_old : ∀ (l : List S33) (p x : S33), x ∈ l → x ∈ insP l p
  | [], _, _, h => by cases h
  | y :: l, p, x, h => by
    unfold insP
    split
    · rcases List.mem_cons.1 h with rfl | h
      · exact List.mem_cons_self
      · exact List.mem_cons_of_mem _ (insP_old l p x h)
    · split
      · exact h
      · exact List.mem_cons_of_mem _ h
/-- the rows by a function of their prefixes, one of which changes -/
theorem ins_rows (f f' : S33 → S43) (p : S33) (hk : ∀ q, (f q).f0 = q) (hf : ∀ q, q ≠ p → f' q = f q) : ∀ ps : List S33, srtP ps →
    (rowHit (ps.map f) p.f0 p.f1 = true → p ∈ ps ∧ rd_T43 (ps.map f) (rowPos (ps.map f) p.f0 p.f1 : Int) = f p ∧ (insP ps p).map f' = (ps.map f).set (rowPos (ps.map f) p.f0 p.f1) (f' p)) ∧
    (rowHit (ps.map f) p.f0 p.f1 = false → p ∉ ps ∧ (insP ps p).map f' = (ps.map f).take (rowPos (ps.map f) p.f0 p.f1) ++ f' p :: (ps.map f).drop (rowPos (ps.map f) p.f0 p.f1))
  | [], _ => ⟨(fun h => by simp [rowHit, rowPos] at h), fun _ => ⟨by simp, rfl⟩⟩
  | q :: ps, hs => by
    obtain ⟨h1, h2⟩ := List.pairwise_cons.1 hs
    have ih := ins_rows f f' p hk hf ps h2
    have hq : cmpI (f q).f0.f0 (f q).f0.f1 p.f0 p.f1 = cmp31 q p := by rw [hk]; rfl
    rw [List.map_cons]
    by_cases a : cmp31 q p < 0
    · have hqp : q ≠ p := fun e => by rw [cmp31_eq.2 e] at a; omega
      have e : rowPos (f q :: ps.map f) p.f0 p.f1 = rowPos (ps.map f) p.f0 p.f1 + 1 := by rw [rowPos, if_pos (by rw [hq]; exact a)]
      have eh : rowHit (f q :: ps.map f) p.f0 p.f1 = rowHit (ps.map f) p.f0 p.f1 := by
        unfold rowHit
        rw [e]
        by_cases hl : rowPos (ps.map f) p.f0 p.f1 < (ps.map f).length
        · rw [rd_cast (ps.map f) _ hl, rd_cast (f q :: ps.map f) _ (by simpa using hl), List.getElem_cons_succ]
          simp
        · have hl2 : ¬ rowPos (ps.map f) p.f0 p.f1 + 1 < (f q :: ps.map f).length := by simpa using hl
          rw [decide_eq_false hl, decide_eq_false hl2]
          rfl
      rw [eh, e, insP, if_pos a, List.map_cons, hf q hqp]
      refine ⟨fun h => ?_, fun h => ?_⟩
      · obtain ⟨i1, i2, i3⟩ := ih.1 h
        refine ⟨List.mem_cons_of_mem _ i1, ?_, ?_⟩
        · rw [← i2]
          unfold rowHit at h
          rw [Bool.and_eq_true, decide_eq_true_iff] at h
          rw [rd_cast (ps.map f) _ h.1, rd_cast (f q :: ps.map f) _ (by simpa using h.1), List.getElem_cons_succ]
        · rw [i3, List.set_cons_succ]
      · obtain ⟨i1, i2⟩ := ih.2 h
        refine ⟨fun hm => ?_, ?_⟩
        · rcases List.mem_cons.1 hm with rfl | hm
          · exact hqp rfl
          · exact i1 hm
        · rw [i2, List.take_succ_cons, List.drop_succ_cons, List.cons_append]
    · have e : rowPos (f q :: ps.map f) p.f0 p.f1 = 0 := by rw [rowPos, if_neg (by rw [hq]; exact a)]
      have er : rd_T43 (f q :: ps.map f) ((0 : Nat) : Int) = f q := rd_cast (f q :: ps.map f) 0 (by simp)
      by_cases b : cmp31 q p = 0
      · have hqp := cmp31_eq.1 b
        subst hqp
        have hnot : ∀ x ∈ ps, x ≠ q := fun x hx ex => by
          have h3 := h1 x hx
          rw [ex, cmp31_eq.2 rfl] at h3
          omega
        have hm : ps.map f' = ps.map f := List.map_congr_left (fun x hx => hf x (hnot x hx))
        have hh : rowHit (f q :: ps.map f) q.f0 q.f1 = true := by
          unfold rowHit
          rw [e, er, hq, b]
          simp
        rw [hh, e, insP, if_neg a, if_pos b, List.map_cons, hm]
        exact ⟨fun _ => ⟨List.mem_cons_self, er, rfl⟩, (fun h => by cases h)⟩
      · have hh : rowHit (f q :: ps.map f) p.f0 p.f1 = false := by
          unfold rowHit
          rw [e, er, hq]
          simp [b]
        have hpq : cmp31 p q < 0 := cmpI_gt a b
        have hnot : ∀ x ∈ q :: ps, x ≠ p := fun x hx ex => by
          subst ex
          rcases List.mem_cons.1 hx with ex | hx
          · rw [ex, cmp31_eq.2 rfl] at hpq; omega
          · have := cmpI_trans hpq (h1 x hx)
            have h0 : cmpI x.f0 x.f1 x.f0 x.f1 = 0 := cmpI_eq.2 ⟨rfl, rfl⟩
            omega
        have hm : (q :: ps).map f' = (q :: ps).map f := List.map_congr_left (fun x hx => hf x (hnot x hx))
        rw [hh, e, insP, if_neg a, if_neg b, List.map_cons, hm]
        exact ⟨(fun h => by cases h), fun _ => ⟨fun hm => hnot p hm rfl, rfl⟩⟩
/-- every prefix of a history has a way, or had one; no other has -/
theorem rowStep_other (a n : Int) (s : S43 × Bool) (c : S38) (h : c.f3.f0 ≠ ⟨a, n⟩) : rowStep a n s c = s := by
  unfold rowStep
  rw [if_neg (fun h2 => h ((ofP_iff a n c).1 h2))]
theorem rowOf_none : ∀ (H : List S38) (a n : Int) (s : S43 × Bool), (∀ c ∈ H, c.f3.f0 ≠ ⟨a, n⟩) → H.foldl (rowStep a n) s = s
  | [], _, _, _, _ => rfl
  | c :: H, a, n, s, h => by rw [List.foldl_cons, rowStep_other a n s c (h c List.mem_cons_self), rowOf_none H a n s (fun d hd => h d (List.mem_cons_of_mem _ hd))]
theorem prefs_all : ∀ (H : List S38) (out : List S33), (∀ x ∈ out, x ∈ prefs H out) ∧ ∀ c ∈ H, c.f3.f0 ∈ prefs H out
  | [], _ => ⟨fun _ h => h, fun _ h => by cases h⟩
  | d :: H, out => by
    obtain ⟨i1, i2⟩ := prefs_all H (insP out d.f3.f0)
    refine ⟨fun x hx => i1 x (insP_old out _ x hx), fun c hc => ?_⟩
    rcases List.mem_cons.1 hc with rfl | hc
    · exact i1 _ (insP_in out _)
    · exact i2 c hc
theorem rowOf_not (H : List S38) (p : S33) (h : p ∉ prefs H []) : rowOf H p.f0 p.f1 = row0 p.f0 p.f1 :=
  rowOf_none H _ _ _ (fun c hc e => h (by have := (prefs_all H []).2 c hc; rw [e] at this; exact this))
theorem hist_ok {H : List S38} {t : Int} (h : Hist H t) : ∀ p ∈ prefs H [], (rowOf H p.f0 p.f1).2 = true := by
  induction h with
  | nil => intro p hp; cases hp
  | @way l t c h h0 h1 h2 hp hv hm hs ih =>
    intro p hp2
    rw [rowOf_snoc]
    by_cases e : c.f3.f0 = p
    · unfold rowStep
      rw [if_pos ((ofP_iff _ _ c).2 e), if_neg (by rw [h2]; simp)]
    · rw [rowStep_other _ _ _ _ e]
      rw [prefs_snoc] at hp2
      rcases insP_mem _ _ _ hp2 with h3 | h3
      · exact ih p h3
      · exact absurd h3.symm e
  | @gone l t c h h0 h1 h2 hp hv hm hs ho hh ih =>
    intro p hp2
    rw [rowOf_snoc]
    by_cases e : c.f3.f0 = p
    · unfold rowStep
      rw [if_pos ((ofP_iff _ _ c).2 e), if_pos h2]
      subst e
      exact ho
    · rw [rowStep_other _ _ _ _ e]
      rw [prefs_snoc] at hp2
      rcases insP_mem _ _ _ hp2 with h3 | h3
      · exact ih p h3
      · exact absurd h3.symm e
def rowF (H : List S38) (p : S33) : S43 := (rowOf H p.f0 p.f1).1
theorem rowF_key (H : List S38) (p : S33) : (rowF H p).f0 = p := rowOf_key H p.f0 p.f1
theorem rowsOf_map (H : List S38) : ∀ ps : List S33, (∀ p ∈ ps, (rowOf H p.f0 p.f1).2 = true) → rowsOf H ps = ps.map (rowF H)
  | [], _ => rfl
  | p :: ps, h => by
    have ih := rowsOf_map H ps (fun q hq => h q (List.mem_cons_of_mem _ hq))
    unfold rowsOf at ih ⊢
    rw [List.filterMap_cons, if_pos (h p List.mem_cons_self), List.map_cons, ih]
    rfl
theorem seq_ok (a n : Int) : ∀ (H : List S38) (s : S43 × Bool), (∀ c ∈ H, 0 ≤ c.f3.f3 ∧ c.f3.f3 < 65536) → (0 ≤ s.1.f3.f0 ∧ s.1.f3.f0 < 65536) → 0 ≤ (H.foldl (rowStep a n) s).1.f3.f0 ∧ (H.foldl (rowStep a n) s).1.f3.f0 < 65536
  | [], _, _, h => h
  | c :: H, s, hc, h => by
    rw [List.foldl_cons]
    refine seq_ok a n H (rowStep a n s c) (fun d hd => hc d (List.mem_cons_of_mem _ hd)) ?_
    have hcc := hc c List.mem_cons_self
    unfold rowStep
    by_cases h3 : ofP a n c = true
    · rw [if_pos h3]
      by_cases h4 : c.f2 = true
      · rw [if_pos h4]
        exact h
      · rw [if_neg h4]
        show 0 ≤ (if s.2 = true ∧ nearB c.f3.f3 c.f3.f2 s.1.f3.f0 s.1.f3.f1 = false then s.1.f3 else ⟨c.f3.f3, c.f3.f2⟩ : S41).f0 ∧ (if s.2 = true ∧ nearB c.f3.f3 c.f3.f2 s.1.f3.f0 s.1.f3.f1 = false then s.1.f3 else ⟨c.f3.f3, c.f3.f2⟩ : S41).f0 < 65536
        split
        · exact h
        · exact hcc
    · rw [if_neg h3]
      exact h
theorem apply_hist {H : List S38} {t : Int} (h : Hist H t) (hn : H.length < 200) (c : S38) (h0 : c.f0 = (H.length : Int) + 1) (h1 : t ≤ c.f1) (hp : PrefG c.f3.f0)
    (hc : (c.f2 = true ∧ (c.f3.f1 = 0 ∧ c.f3.f2 = 0 ∧ c.f3.f3 = 0) ∧ (rowOf H c.f3.f0.f0 c.f3.f0.f1).2 = true ∧ (rowOf H c.f3.f0.f0 c.f3.f0.f1).1.f1 = true) ∨ (c.f2 = false ∧ ((0 ≤ c.f3.f1 ∧ c.f3.f1 < 16) ∧ (0 ≤ c.f3.f2 ∧ c.f3.f2 < 1786) ∧ (0 ≤ c.f3.f3 ∧ c.f3.f3 < 65536)))) :
    table_Table_Apply.f ((prefs H []).map (rowF H), (H.length : Int), t) c.f0 c.f1 c.f2 c.f3.f0.f0 c.f3.f0.f1 c.f3.f1 c.f3.f2 c.f3.f3 = some (0, (prefs (H ++ [c]) []).map (rowF (H ++ [c])), c.f0, c.f1) := by
  have hr : change_Right.f 5 c.f0 c.f1 c.f2 c.f3.f0.f0 c.f3.f0.f1 c.f3.f1 c.f3.f2 c.f3.f3 = some 0 := right_hist c hp (by
    rcases hc with ⟨q1, q2, _⟩ | ⟨q1, q2, q3, _⟩
    · exact .inl ⟨q1, q2⟩
    · exact .inr ⟨q1, q2, q3⟩)
  have hother : ∀ q, q ≠ c.f3.f0 → rowF (H ++ [c]) q = rowF H q := fun q hq => by
    unfold rowF
    rw [rowOf_snoc, rowStep_other _ _ _ _ (fun e => hq e.symm)]
  have key := ins_rows (rowF H) (rowF (H ++ [c])) c.f3.f0 (rowF_key H) hother (prefs H []) (prefs_srt H [] List.Pairwise.nil)
  have hlen : ((prefs H []).map (rowF H)).length < 256 := by
    have := prefs_len H []
    rw [List.length_nil] at this
    rw [List.length_map]
    omega
  have hno : c.f0 = IntKind.u64.wrap ((H.length : Int) + 1) := by rw [h0, wr64u]; omega
  have hsnoc : rowF (H ++ [c]) c.f3.f0 = (rowStep c.f3.f0.f0 c.f3.f0.f1 (rowOf H c.f3.f0.f0 c.f3.f0.f1) c).1 := by
    unfold rowF
    rw [rowOf_snoc]
  have hofp : ofP c.f3.f0.f0 c.f3.f0.f1 c = true := (ofP_iff _ _ c).2 rfl
  have hseq : 0 ≤ (rowF H c.f3.f0).f3.f0 ∧ (rowF H c.f3.f0).f3.f0 < 65536 := seq_ok _ _ H _ (fun d hd => (h.mem d hd).2.2) (by show (0 : Int) ≤ 0 ∧ (0 : Int) < 65536; omega)
  rw [prefs_snoc]
  unfold table_Table_Apply.f
  rw [hr, Option.bind_some, if_pos rfl]
  unfold table_Table_Apply.g
  rw [if_neg (by rintro (q | q); exact q hno; exact absurd (show c.f1 < t from q) (by omega))]
  by_cases hit : rowHit ((prefs H []).map (rowF H)) c.f3.f0.f0 c.f3.f0.f1 = true
  · obtain ⟨k1, k2, k3⟩ := key.1 hit
    have hok := hist_ok h _ k1
    rw [k3, k2]
    rcases hc with ⟨q1, ⟨q2, q3, q4⟩, q5, q6⟩ | ⟨q1, q2, q3, q4⟩
    · rw [if_pos q1, if_pos ⟨hit, q6⟩, hsnoc]
      unfold rowStep
      rw [if_pos hofp, if_pos q1]
      have hc3 : c.f3 = ⟨c.f3.f0, 0, 0, 0⟩ := by
        cases hh : c.f3
        rw [hh] at q2 q3 q4
        simp only at q2 q3 q4
        subst q2 q3 q4
        rfl
      have e : (⟨(rowF H c.f3.f0).f0, false, ⟨⟨c.f3.f0.f0, c.f3.f0.f1⟩, 0, 0, 0⟩, (rowF H c.f3.f0).f3⟩ : S43) = ⟨(rowOf H c.f3.f0.f0 c.f3.f0.f1).1.f0, false, c.f3, (rowOf H c.f3.f0.f0 c.f3.f0.f1).1.f3⟩ := by
        have : (⟨⟨c.f3.f0.f0, c.f3.f0.f1⟩, 0, 0, 0⟩ : S36) = c.f3 := hc3.symm
        rw [this]
        rfl
      exact congrArg (fun z => some (0, ((prefs H []).map (rowF H)).set _ z, c.f0, c.f1)) e
    · have hng : ¬ c.f2 = true := by rw [q1]; simp
      by_cases hb : nearB c.f3.f3 c.f3.f2 (rowF H c.f3.f0).f3.f0 (rowF H c.f3.f0).f3.f1 = false
      · have hst : rowStep c.f3.f0.f0 c.f3.f0.f1 (rowOf H c.f3.f0.f0 c.f3.f0.f1) c = (⟨(rowOf H c.f3.f0.f0 c.f3.f0.f1).1.f0, true, c.f3, (rowOf H c.f3.f0.f0 c.f3.f0.f1).1.f3⟩, true) := by
          unfold rowStep
          rw [if_pos hofp, if_neg hng, if_pos ⟨hok, hb⟩]
        rw [if_neg hng, if_pos hit, best_eq _ _ _ _ hseq q4, Option.bind_some, hsnoc, hst, if_pos hb]
        rfl
      · have hst : rowStep c.f3.f0.f0 c.f3.f0.f1 (rowOf H c.f3.f0.f0 c.f3.f0.f1) c = (⟨(rowOf H c.f3.f0.f0 c.f3.f0.f1).1.f0, true, c.f3, ⟨c.f3.f3, c.f3.f2⟩⟩, true) := by
          unfold rowStep
          rw [if_pos hofp, if_neg hng, if_neg (fun h => hb h.2)]
        rw [if_neg hng, if_pos hit, best_eq _ _ _ _ hseq q4, Option.bind_some, hsnoc, hst, if_neg hb]
        rfl
  · have hit' : rowHit ((prefs H []).map (rowF H)) c.f3.f0.f0 c.f3.f0.f1 = false := by simpa using hit
    obtain ⟨k1, k2⟩ := key.2 hit'
    have hz := rowOf_not H c.f3.f0 k1
    rcases hc with ⟨_, _, q5, _⟩ | ⟨q1, q2, q3, q4⟩
    · rw [hz] at q5
      cases q5
    · rw [if_neg (by rw [q1]; simp), if_neg hit, if_neg (show ¬ 256 ≤ ((prefs H []).map (rowF H)).length by omega), best_eq _ _ _ _ q4 q4, Option.bind_some, near_self, if_pos rfl, k2, hsnoc]
      unfold rowStep
      rw [if_pos hofp, if_neg (by rw [q1]; simp), hz, if_neg (fun h => by have := h.1; cases this)]
      rfl
theorem of_snoc : ∀ (H : List S38) (c : S38) (T T1 : List S43 × Int × Int), milestonelaw08_of.l H T = some T1 → milestonelaw08_of.l (H ++ [c]) T = milestonelaw08_of.l [c] T1
  | [], c, T, T1, h => by
    have e := Option.some.inj (show some T = some T1 from h)
    subst e
    rfl
  | d :: H, c, T, T1, h => by
    rw [milestonelaw08_of.l] at h
    obtain ⟨x, hx, h2⟩ := Option.bind_eq_some_iff.mp h
    by_cases hz : x.1 = 0
    · rw [if_pos hz] at h2
      rw [List.cons_append, milestonelaw08_of.l, hx, Option.bind_some, if_pos hz]
      exact of_snoc H c x.2 T1 h2
    · rw [if_neg hz] at h2
      cases h2
theorem of_hist {H : List S38} {t : Int} (h : Hist H t) : H.length < 200 → milestonelaw08_of.l H ([], 0, 0) = some ((prefs H []).map (rowF H), (H.length : Int), t) := by
  induction h with
  | nil => intro _; rfl
  | @way l t c h h0 h1 h2 hp hv hm hs ih =>
    intro hn
    rw [List.length_append, List.length_singleton] at hn
    have e := ih (by omega)
    rw [of_snoc l c _ _ e, milestonelaw08_of.l, apply_hist h (by omega) c h0 h1.1 hp (.inr ⟨h2, hv, hm, hs⟩), Option.bind_some, if_pos rfl, h0, List.length_append, List.length_singleton]
    rfl
  | @gone l t c h h0 h1 h2 hp hv hm hs ho hh ih =>
    intro hn
    rw [List.length_append, List.length_singleton] at hn
    have e := ih (by omega)
    rw [of_snoc l c _ _ e, milestonelaw08_of.l, apply_hist h (by omega) c h0 h1.1 hp (.inl ⟨h2, ⟨hv, hm, hs⟩, ho, hh⟩), Option.bind_some, if_pos rfl, h0, List.length_append, List.length_singleton]
    rfl
theorem hist_last {H : List S38} {t : Int} (h : Hist H t) (hl : 0 < H.length) : (rd_T38 H ((H.length - 1 : Nat) : Int)).f1 = t := by
  have key : ∀ (l : List S38) (c : S38), rd_T38 (l ++ [c]) (((l ++ [c]).length - 1 : Nat) : Int) = c := fun l c => by
    rw [rd_nat38 _ _ (by rw [List.length_append, List.length_singleton]; omega)]
    simp
  cases h with
  | nil => simp at hl
  | way => rw [key]
  | gone => rw [key]
theorem row_at (H : List S38) (hk : ∀ p ∈ prefs H [], (rowOf H p.f0 p.f1).2 = true) (p : S33) :
    table_Table_Row.f ((prefs H []).map (rowF H), (H.length : Int), 0) p.f0 p.f1 = table_Table_Row.f ((prefs H []).map (rowF H), (H.length : Int), 0) p.f0 p.f1 ∧
    (rowHit ((prefs H []).map (rowF H)) p.f0 p.f1 = (rowOf H p.f0 p.f1).2) ∧ (rowHit ((prefs H []).map (rowF H)) p.f0 p.f1 = true → rd_T43 ((prefs H []).map (rowF H)) (rowPos ((prefs H []).map (rowF H)) p.f0 p.f1 : Int) = rowF H p) := by
  have key := ins_rows (rowF H) (rowF H) p (rowF_key H) (fun _ _ => rfl) (prefs H []) (prefs_srt H [] List.Pairwise.nil)
  refine ⟨rfl, ?_, fun h => (key.1 h).2.1⟩
  by_cases hit : rowHit ((prefs H []).map (rowF H)) p.f0 p.f1 = true
  · rw [hit, hk p (key.1 hit).1]
  · have hit' : rowHit ((prefs H []).map (rowF H)) p.f0 p.f1 = false := by simpa using hit
    rw [hit', rowOf_not H p (key.2 hit').1]
    rfl
theorem rd_nat43' (l : List S43) (j : Nat) (h : j < l.length) : rd_T43 l (j : Int) = l[j] := rd_cast l j h
theorem same_rows (l : List S43) (hn : l.length < 1000) : Ev (fun k => milestoneref07_SameRows.f k l l) true := by
  have key : ∀ d i : Nat, i + d = l.length → Ev (fun k => milestoneref07_SameRows.l0 k l l (i : Int)) true := by
    intro d
    induction d with
    | zero => intro i hi; exact Ev.step (fun k => milestoneref07_SameRows.l0.eq_2 ..) (Ev.neg (by omega) (Ev.const _))
    | succ d ih =>
      intro i hi
      refine Ev.step (fun k => milestoneref07_SameRows.l0.eq_2 ..) (Ev.pos (by omega) (Ev.pos (by omega) (Ev.pos (by omega) (Ev.neg (by simp) ?_))))
      rw [wn1 i (by omega)]
      exact ih (i + 1) (by omega)
  exact Ev.pos rfl (key l.length 0 (by omega))
theorem same_routes (l : List S36) (hn : l.length < 1000) : Ev (fun k => milestoneref07_SameRoutes.f k l l) true := by
  have key : ∀ d i : Nat, i + d = l.length → Ev (fun k => milestoneref07_SameRoutes.l0 k l l (i : Int)) true := by
    intro d
    induction d with
    | zero => intro i hi; exact Ev.step (fun k => milestoneref07_SameRoutes.l0.eq_2 ..) (Ev.neg (by omega) (Ev.const _))
    | succ d ih =>
      intro i hi
      refine Ev.step (fun k => milestoneref07_SameRoutes.l0.eq_2 ..) (Ev.pos (by omega) (Ev.pos (by omega) (Ev.pos (by omega) (Ev.neg (by simp) ?_))))
      rw [wn1 i (by omega)]
      exact ih (i + 1) (by omega)
  exact Ev.pos rfl (key l.length 0 (by omega))
theorem routes_l0 (R : List S43) (hn : R.length < 1000) (d : Nat) : ∀ i : Nat, i + d = R.length → Ev (fun k => milestoneref07_Routes.l0 k (table_Table_Routes.acc (R.take i)) R (i : Int)) (table_Table_Routes.acc R) := by
  induction d with
  | zero =>
    intro i hi
    obtain rfl : i = R.length := by omega
    rw [List.take_length]
    exact Ev.step (fun k => milestoneref07_Routes.l0.eq_2 ..) (Ev.neg (by omega) (Ev.const _))
  | succ d ih =>
    intro i hi
    have hlt : i < R.length := by omega
    have hal := table_Table_Routes.acc_len (R.take i)
    rw [List.length_take] at hal
    have h2 := ih (i + 1) (by omega)
    refine Ev.step (fun k => milestoneref07_Routes.l0.eq_2 ..) (Ev.pos (by omega) (Ev.pos (by omega) ?_))
    rw [wn1 i (by omega)]
    by_cases hf : (rd_T43 R (i : Int)).f1 = true
    · refine Ev.pos hf (Ev.pos (by omega) ?_)
      rw [table_Table_Routes.acc_yes R i hlt hf] at h2
      exact h2
    · have hf' : (rd_T43 R (i : Int)).f1 = false := by simpa using hf
      rw [table_Table_Routes.acc_no R i hlt hf'] at h2
      exact Ev.neg hf h2
theorem awake_tab : milestonelaw08_awake.f = some true := by decide +kernel
theorem row_loop (H : List S38) (t : Int) (hn : H.length < 200) (hk : ∀ p ∈ prefs H [], (rowOf H p.f0 p.f1).2 = true) (d : Nat) : ∀ i : Nat, i + d = 18 → Ev (fun k => milestonelaw08_TableTells.l0 k H (i : Int) ((prefs H []).map (rowF H), (H.length : Int), t)) true := by
  have hl := prefs_len H []
  rw [List.length_nil] at hl
  induction d with
  | zero =>
    intro i hi
    refine Ev.step (fun k => milestonelaw08_TableTells.l0.eq_2 ..) (Ev.neg (by omega) ?_)
    have hR : rowsOf H (prefs H []) = (prefs H []).map (rowF H) := rowsOf_map H _ hk
    have hrows := rows_is H (by omega)
    rw [hR] at hrows
    have hlR : ((prefs H []).map (rowF H)).length < 1000 := by rw [List.length_map]; omega
    refine Ev.bindc (f := table_Table_Rows.f ((prefs H []).map (rowF H), (H.length : Int), t)) rfl ?_
    refine Ev.bind hrows (Ev.bind (same_rows _ hlR) (Ev.pos rfl ?_))
    refine Ev.bindc (f := table_Table_Routes.f ((prefs H []).map (rowF H), (H.length : Int), t)) rfl ?_
    have hro : Ev (fun k => milestoneref07_Routes.f k H) (table_Table_Routes.acc ((prefs H []).map (rowF H))) := Ev.bind hrows (routes_l0 ((prefs H []).map (rowF H)) hlR ((prefs H []).map (rowF H)).length 0 (by omega))
    have hac := table_Table_Routes.acc_len ((prefs H []).map (rowF H))
    exact Ev.bind hro (Ev.bind (same_routes (table_Table_Routes.acc ((prefs H []).map (rowF H))) (by omega)) (Ev.const _))
  | succ d ih =>
    intro i hi
    have h256 : ((i : Int)) % 256 = (i : Int) := by omega
    obtain ⟨P, hP, hG, _⟩ := pref_ev i (by omega)
    refine Ev.step (fun k => milestonelaw08_TableTells.l0.eq_2 ..) (Ev.pos (by omega) ?_)
    rw [h256, wn1 i (by omega)]
    refine Ev.bind hP ?_
    obtain ⟨_, hhit, hrd⟩ := row_at H hk P
    have ih2 := ih (i + 1) (by omega)
    by_cases ho : (rowOf H P.f0 P.f1).2 = true
    · have hh : rowHit ((prefs H []).map (rowF H)) P.f0 P.f1 = true := by rw [hhit]; exact ho
      have hrow : table_Table_Row.f ((prefs H []).map (rowF H), (H.length : Int), t) P.f0 P.f1 = some ((rowF H P).f0.f0, (rowF H P).f0.f1, (rowF H P).f1, (rowF H P).f2.f0.f0, (rowF H P).f2.f0.f1, (rowF H P).f2.f1, (rowF H P).f2.f2, (rowF H P).f2.f3, (rowF H P).f3.f0, (rowF H P).f3.f1, true, ((prefs H []).map (rowF H), (H.length : Int), t)) := by
        unfold table_Table_Row.f
        simp only [hh, if_true]
        rw [hrd hh]
      refine Ev.bindc hrow (Ev.bind (row_is H P.f0 P.f1 (by omega)) (Ev.neg ?_ (Ev.pos rfl (Ev.neg ?_ ih2))))
      · show ¬ ((true != (rowOf H P.f0 P.f1).2) = true)
        rw [ho]
        simp
      · unfold rowTup rowF
        simp
    · have ho' : (rowOf H P.f0 P.f1).2 = false := by simpa using ho
      have hh : rowHit ((prefs H []).map (rowF H)) P.f0 P.f1 = false := by rw [hhit]; exact ho'
      have hrow : table_Table_Row.f ((prefs H []).map (rowF H), (H.length : Int), t) P.f0 P.f1 = some (0, 0, false, 0, 0, 0, 0, 0, 0, 0, false, ((prefs H []).map (rowF H), (H.length : Int), t)) := by
        unfold table_Table_Row.f
        simp only [hh, Bool.false_eq_true, if_false]
      refine Ev.bindc hrow (Ev.bind (row_is H P.f0 P.f1 (by omega)) (Ev.neg ?_ (Ev.neg (by simp) ih2)))
      show ¬ ((false != (rowOf H P.f0 P.f1).2) = true)
      rw [ho']
      simp
theorem TableTells : milestonelaw08_TableTells.Pure := by
  intro l0 _ hx
  refine Ev.ex (f := fun k => milestonelaw08_TableTells.f k l0) ?_
  refine Ev.bindc awake_tab (Ev.pos rfl (Ev.step (fun k => milestonelaw08_TableTells.j0.eq_2 ..) ?_))
  by_cases hn : (l0.length : Int) > 60
  · rw [decide_eq_true hn]
    exact Ev.pos rfl (Ev.bindc awake_tab (Ev.const _))
  · rw [decide_eq_false hn]
    refine Ev.neg (by simp) ?_
    obtain ⟨H, t, hE, hH, hL⟩ := hist_is l0 hx (by omega)
    have hof : milestonelaw08_of.f H = some ((prefs H []).map (rowF H), (H.length : Int), t) := by
      unfold milestonelaw08_of.f
      rw [if_pos (by omega)]
      exact of_hist hH (by omega)
    have hloop := row_loop H t (by omega) (hist_ok hH) 18 0 (by omega)
    have hj : Ev (fun k => milestonelaw08_TableTells.j1 k H false ((prefs H []).map (rowF H), (H.length : Int), t)) true := Ev.step (fun k => milestonelaw08_TableTells.j1.eq_2 ..) (Ev.neg (by simp) hloop)
    refine Ev.bind hE (Ev.bindc hof (Ev.bindc (f := table_Table_Last.f ((prefs H []).map (rowF H), (H.length : Int), t)) rfl (Ev.pos (by show wrap64 (H.length : Int) = (H.length : Int); unfold wrap64; omega) ?_)))
    by_cases hp : (H.length : Int) > 0
    · have w : wrap64 ((H.length : Int) - 1) = ((H.length - 1 : Nat) : Int) := by unfold wrap64; omega
      refine Ev.pos hp ?_
      rw [w]
      refine Ev.pos (by omega) (Ev.pos (by omega) ?_)
      have e : (t != (rd_T38 H ((H.length - 1 : Nat) : Int)).f1) = false := by rw [hist_last hH (by omega)]; simp
      show Ev (fun k => milestonelaw08_TableTells.j1 k H (t != (rd_T38 H ((H.length - 1 : Nat) : Int)).f1) ((prefs H []).map (rowF H), (H.length : Int), t)) true
      rw [e]
      exact hj
    · exact Ev.neg hp hj

end Go.Proofs.Ytmkjgiejnlmncaa.Pure
