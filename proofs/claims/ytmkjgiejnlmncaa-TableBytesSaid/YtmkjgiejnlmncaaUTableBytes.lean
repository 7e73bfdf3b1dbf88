/- A table as bytes, and back; any bytes are a table of just these, or none.
For every input; no condition is added to the given statement. -/
import Derived.Test.YtmkjgiejnlmncaaQTableBytesx18
import Derived.Laws.BitsAllLaws
import Derived.OpenShut
import Derived.Lib.Bytes
namespace Go.Proofs.Ytmkjgiejnlmncaa.Pure
open Go.RowKit Go.Proofs.Ytmkjgiejnlmncaa.QTableBytes Go.Proofs.YtmkjgiejnlmncaaW.PrintWords Go.Proofs.YtmkjgiejnlmncaaW.PrintLast Go.Proofs.YtmkjgiejnlmncaaW.PrintMore
set_option linter.unusedSimpArgs false
set_option linter.unusedVariables false

def Ev {α : Type} (f : Nat → Option α) (v : α) : Prop := ∃ k0, ∀ k, k0 ≤ k → f k = some v
theorem Ev.const {α : Type} (v : α) : Ev (fun _ => some v) v := ⟨0, fun _ _ => rfl⟩
theorem Ev.step {α : Type} {f g : Nat → Option α} {v : α} (h : ∀ k, f (k + 1) = g k) (hg : Ev g v) : Ev f v := by
  obtain ⟨k0, h0⟩ := hg
  refine ⟨k0 + 1, fun k hk => ?_⟩
  obtain ⟨j, rfl⟩ : ∃ j, k = j + 1 := ⟨k - 1, by omega⟩
  rw [h j]
  exact h0 j (by omega)
theorem Ev.congr {α : Type} {f g : Nat → Option α} {v : α} (h : ∀ k, f k = g k) (hg : Ev g v) : Ev f v := by
  obtain ⟨k0, h0⟩ := hg
  exact ⟨k0, fun k hk => (h k).trans (h0 k hk)⟩
theorem Ev.bind {α β : Type} {f : Nat → Option α} {g : Nat → α → Option β} {a : α} {v : β} (hf : Ev f a) (hg : Ev (fun k => g k a) v) : Ev (fun k => (f k).bind (g k)) v := by
  obtain ⟨k0, h0⟩ := hf
  obtain ⟨k1, h1⟩ := hg
  refine ⟨max k0 k1, fun k hk => ?_⟩
  show (f k).bind (g k) = some v
  rw [h0 k (by omega), Option.bind_some]
  exact h1 k (by omega)
theorem Ev.bindc {α β : Type} {f : Option α} {g : Nat → α → Option β} {a : α} {v : β} (hf : f = some a) (hg : Ev (fun k => g k a) v) : Ev (fun k => f.bind (g k)) v := by
  subst hf
  exact hg
theorem Ev.pos {α : Type} {f g : Nat → Option α} {v : α} {c : Prop} [Decidable c] (h : c) (hf : Ev f v) : Ev (fun k => if c then f k else g k) v := by
  obtain ⟨k0, h0⟩ := hf
  exact ⟨k0, fun k hk => (if_pos h).trans (h0 k hk)⟩
theorem Ev.neg {α : Type} {f g : Nat → Option α} {v : α} {c : Prop} [Decidable c] (h : ¬ c) (hg : Ev g v) : Ev (fun k => if c then f k else g k) v := by
  obtain ⟨k0, h0⟩ := hg
  exact ⟨k0, fun k hk => (if_neg h).trans (h0 k hk)⟩
theorem Ev.ex {α : Type} {f : Nat → Option α} {v : α} (h : Ev f v) : ∃ k, f k = some v := by
  obtain ⟨k0, h0⟩ := h
  exact ⟨k0, h0 k0 (Nat.le_refl _)⟩
theorem wn1 (i : Nat) (h : i < 1000000) : wrap64 ((i : Int) + 1) = ((i + 1 : Nat) : Int) := by unfold wrap64; omega
theorem Ev.of_mono {α : Type} {f : Nat → Option α} {v : α} {k : Nat} (hm : ∀ k, LeO (f k) (f (k + 1))) (h : f k = some v) : Ev f v := ⟨k, fun K hK => at_rounds hm hK h⟩
theorem rd_nat38 (l : List S38) (j : Nat) (h : j < l.length) : rd_T38 l (j : Int) = l[j] := by
  show l.getD (j : Int).toNat _ = l[j]
  rw [Int.toNat_natCast, List.getD_eq_getElem?_getD, List.getElem?_eq_getElem h]
  rfl
theorem rd_nat33 (l : List S33) (j : Nat) (h : j < l.length) : rd_T33 l (j : Int) = l[j] := by
  show l.getD (j : Int).toNat _ = l[j]
  rw [Int.toNat_natCast, List.getD_eq_getElem?_getD, List.getElem?_eq_getElem h]
  rfl
def nearB (a b c d : Int) : Bool := (ga_Nearer.f a b c d).getD false
theorem near_is (a b c d : Int) : ga_Nearer.f a b c d = some (nearB a b c d) := by
  have h : ∃ r, ga_Nearer.f a b c d = some r := by
    unfold ga_Nearer.f
    split
    · exact ⟨_, rfl⟩
    · unfold ga_Newer.f
      split
      · exact ⟨_, rfl⟩
      · exact ⟨_, rfl⟩
  obtain ⟨r, h⟩ := h
  unfold nearB
  rw [h]
  rfl
def ofP (a n : Int) (c : S38) : Bool := (c.f3.f0.f0 == a) && (c.f3.f0.f1 == n)
def rowStep (a n : Int) (s : S43 × Bool) (c : S38) : S43 × Bool :=
  if ofP a n c = true then
    (if c.f2 = true then (⟨s.1.f0, false, c.f3, s.1.f3⟩, s.2)
     else (⟨s.1.f0, true, c.f3, if s.2 = true ∧ nearB c.f3.f3 c.f3.f2 s.1.f3.f0 s.1.f3.f1 = false then s.1.f3 else ⟨c.f3.f3, c.f3.f2⟩⟩, true))
  else s
def row0 (a n : Int) : S43 × Bool := (⟨⟨a, n⟩, false, z36, z41⟩, false)
def rowOf (H : List S38) (a n : Int) : S43 × Bool := H.foldl (rowStep a n) (row0 a n)
def rowTup (s : S43 × Bool) : Int × Int × Bool × Int × Int × Int × Int × Int × Int × Int × Bool := (s.1.f0.f0, s.1.f0.f1, s.1.f1, s.1.f2.f0.f0, s.1.f2.f0.f1, s.1.f2.f1, s.1.f2.f2, s.1.f2.f3, s.1.f3.f0, s.1.f3.f1, s.2)
theorem row_l0 (H : List S38) (a n : Int) (hn : H.length < 1000) (d : Nat) : ∀ (i : Nat) (s : S43 × Bool), i + d = H.length →
    Ev (fun k => gb_Row.l0 k H s.2 (i : Int) a n s.1.f0.f0 s.1.f0.f1 s.1.f1 s.1.f2.f0.f0 s.1.f2.f0.f1 s.1.f2.f1 s.1.f2.f2 s.1.f2.f3 s.1.f3.f0 s.1.f3.f1) (rowTup ((H.drop i).foldl (rowStep a n) s)) := by
  induction d with
  | zero =>
    intro i s hi
    refine Ev.step (fun k => gb_Row.l0.eq_2 ..) (Ev.neg (by omega) ?_)
    rw [List.drop_eq_nil_of_le (by omega)]
    exact Ev.const _
  | succ d ih =>
    intro i s hi
    have hlt : i < H.length := by omega
    have w := wn1 i (by omega)
    refine Ev.step (fun k => gb_Row.l0.eq_2 ..) (Ev.pos (by omega) (Ev.pos (by omega) ?_))
    rw [List.drop_eq_getElem_cons hlt, List.foldl_cons, rd_nat38 H i hlt, w]
    generalize H[i] = c
    by_cases ho : ofP a n c = true
    · have ho2 : (!(c.f3.f0.f0 == a) || !(c.f3.f0.f1 == n)) = false := by
        unfold ofP at ho
        rw [Bool.and_eq_true] at ho
        rw [ho.1, ho.2]
        rfl
      refine Ev.neg (by rw [ho2]; simp) ?_
      by_cases hg : c.f2 = true
      · refine Ev.pos hg ?_
        have e : rowStep a n s c = (⟨s.1.f0, false, c.f3, s.1.f3⟩, s.2) := by unfold rowStep; rw [if_pos ho, if_pos hg]
        have := ih (i + 1) (rowStep a n s c) (by omega)
        rw [e] at this ⊢
        rw [hg]
        exact this
      · have hg' : c.f2 = false := by simpa using hg
        refine Ev.neg hg ?_
        by_cases hk : s.2 = true
        · refine Ev.pos hk (Ev.bindc (near_is _ _ _ _) ?_)
          by_cases hb : nearB c.f3.f3 c.f3.f2 s.1.f3.f0 s.1.f3.f1 = true
          · have e : rowStep a n s c = (⟨s.1.f0, true, c.f3, ⟨c.f3.f3, c.f3.f2⟩⟩, true) := by
              unfold rowStep; rw [if_pos ho, if_neg hg, if_neg (fun h => by rw [hb] at h; exact absurd h.2 (by simp))]
            have := ih (i + 1) (rowStep a n s c) (by omega)
            rw [e] at this ⊢
            refine Ev.pos hb ?_
            rw [hg']
            exact this
          · have hb' : nearB c.f3.f3 c.f3.f2 s.1.f3.f0 s.1.f3.f1 = false := by simpa using hb
            have e : rowStep a n s c = (⟨s.1.f0, true, c.f3, s.1.f3⟩, true) := by
              unfold rowStep; rw [if_pos ho, if_neg hg, if_pos ⟨hk, hb'⟩]
            have := ih (i + 1) (rowStep a n s c) (by omega)
            rw [e] at this ⊢
            refine Ev.neg hb ?_
            rw [hg']
            exact this
        · have e : rowStep a n s c = (⟨s.1.f0, true, c.f3, ⟨c.f3.f3, c.f3.f2⟩⟩, true) := by
            unfold rowStep; rw [if_pos ho, if_neg hg, if_neg (fun h => hk h.1)]
          have := ih (i + 1) (rowStep a n s c) (by omega)
          rw [e] at this ⊢
          refine Ev.neg hk ?_
          rw [hg']
          exact this
    · have ho2 : (!(c.f3.f0.f0 == a) || !(c.f3.f0.f1 == n)) = true := by
        unfold ofP at ho
        cases h1 : (c.f3.f0.f0 == a) <;> cases h2 : (c.f3.f0.f1 == n) <;> simp_all
      have e : rowStep a n s c = s := by unfold rowStep; rw [if_neg ho]
      rw [e]
      exact Ev.pos ho2 (ih (i + 1) s (by omega))
theorem row_is (H : List S38) (a n : Int) (hn : H.length < 1000) : Ev (fun k => gb_Row.f k H a n) (rowTup (rowOf H a n)) := row_l0 H a n hn H.length 0 (row0 a n) (by omega)
def cmp31 (x y : S33) : Int := cmpI x.f0 x.f1 y.f0 y.f1
def insP : List S33 → S33 → List S33
  | [], p => [p]
  | y :: l, p => if cmp31 y p < 0 then y :: insP l p else if cmp31 y p = 0 then y :: l else p :: y :: l
theorem insP_len : ∀ (l : List S33) (p : S33), (insP l p).length ≤ l.length + 1
  | [], p => Nat.le_refl _
  | y :: l, p => by
    unfold insP
    split
    · exact Nat.succ_le_succ (insP_len l p)
    · split
      · exact Nat.le_succ _
      · exact Nat.le_refl _
theorem insP_at : ∀ (l : List S33) (p : S33) (j : Nat), j ≤ l.length → (∀ (q : Nat) (h : q < l.length), q < j → cmp31 l[q] p < 0) → insP l p = l.take j ++ insP (l.drop j) p
  | _, _, 0, _, _ => by simp
  | [], _, j + 1, h, _ => by simp at h
  | y :: l, p, j + 1, h, hq => by
    rw [insP, if_pos (show cmp31 y p < 0 from hq 0 (by simp) (by omega)), List.take_succ_cons, List.drop_succ_cons, List.cons_append, insP_at l p j (by simpa using h) (fun q h2 h3 => hq (q + 1) (by simpa using h2) (by omega))]
theorem ahead_is (a n c m : Int) : ga_Ahead.f a n c m = some (decide (cmpI a n c m < 0)) := by
  unfold ga_Ahead.f
  by_cases h1 : a < c
  · rw [if_pos h1]; exact congrArg some (decide_eq_true (cmpI_lt.2 (.inl h1))).symm
  · rw [if_neg h1]
    by_cases h2 : a = c
    · rw [if_pos h2]
      by_cases h3 : n < m
      · rw [decide_eq_true h3]; exact congrArg some (decide_eq_true (cmpI_lt.2 (.inr ⟨h2, h3⟩))).symm
      · rw [decide_eq_false h3]; exact congrArg some (decide_eq_false (fun h => by rw [cmpI_lt] at h; omega)).symm
    · rw [if_neg h2]; exact congrArg some (decide_eq_false (fun h => by rw [cmpI_lt] at h; omega)).symm
theorem pre_step (H : List S38) (out : List S33) (i : Int) (p : S33) (r : List S33) (hl : out.length < 1000) (h : Ev (fun k => gb_Prefixes.l0 k H (insP out p) (wrap64 (i + 1))) r) (d : Nat) :
    ∀ j : Nat, j + d = out.length → (∀ (q : Nat) (h : q < out.length), q < j → cmp31 out[q] p < 0) → Ev (fun k => gb_Prefixes.l1 k H out i (j : Int) p.f0 p.f1) r := by
  induction d with
  | zero =>
    intro j hj hq
    refine Ev.step (fun k => gb_Prefixes.l1.eq_2 ..) (Ev.neg (by omega) (Ev.pos (by omega) (Ev.pos (by omega) ?_)))
    have e := insP_at out p j (by omega) hq
    rw [List.drop_eq_nil_of_le (by omega), insP] at e
    rw [e] at h
    simp only [Option.bind_some, Int.toNat_natCast, List.nil_append, List.length_nil]
    refine Ev.pos (by rw [List.length_take]; omega) (Ev.pos (by rw [List.length_take]; omega) (Ev.pos (by simp only [List.length_append, List.length_take, List.length_drop, List.length_singleton]; omega) ?_))
    rw [List.drop_eq_nil_of_le (show out.length ≤ j by omega), List.append_nil]
    exact h
  | succ d ih =>
    intro j hj hq
    have hlt : j < out.length := by omega
    refine Ev.step (fun k => gb_Prefixes.l1.eq_2 ..) (Ev.pos (by omega) (Ev.pos (by omega) ?_))
    rw [rd_nat33 out j hlt, wn1 j (by omega)]
    refine Ev.bindc (ahead_is _ _ _ _) ?_
    by_cases h1 : cmpI out[j].f0 out[j].f1 p.f0 p.f1 < 0
    · refine Ev.pos (decide_eq_true h1) (ih (j + 1) (by omega) (fun q h2 h3 => ?_))
      by_cases e : q = j
      · subst e; exact h1
      · exact hq q h2 (by omega)
    · refine Ev.neg (by simpa using h1) ?_
      have e := insP_at out p j (by omega) hq
      rw [List.drop_eq_getElem_cons hlt, insP, if_neg (show ¬ cmp31 out[j] p < 0 from h1)] at e
      by_cases h2 : cmpI out[j].f0 out[j].f1 p.f0 p.f1 = 0
      · have h2' := cmpI_eq.1 h2
        refine Ev.pos (by rw [h2'.1, h2'.2]; simp) ?_
        rw [if_pos (show cmp31 out[j] p = 0 from h2), ← List.drop_eq_getElem_cons hlt, List.take_append_drop] at e
        rw [e] at h
        exact h
      · rw [if_neg (show ¬ cmp31 out[j] p = 0 from h2), ← List.drop_eq_getElem_cons hlt] at e
        rw [e] at h
        refine Ev.neg (fun hh => h2 (cmpI_eq.2 ?_)) (Ev.pos (by omega) ?_)
        · simpa using hh
        · simp only [Option.bind_some, Int.toNat_natCast, List.nil_append, List.length_nil]
          refine Ev.pos (by rw [List.length_take]; omega) (Ev.pos (by rw [List.length_take]; omega) (Ev.pos (by simp only [List.length_append, List.length_take, List.length_drop, List.length_singleton]; omega) ?_))
          rw [List.append_assoc]
          exact h
def prefs (H : List S38) (out : List S33) : List S33 := H.foldl (fun o c => insP o c.f3.f0) out
theorem prefs_len : ∀ (H : List S38) (out : List S33), (prefs H out).length ≤ out.length + H.length
  | [], out => Nat.le_refl _
  | c :: H, out => by
    have h1 := prefs_len H (insP out c.f3.f0)
    have h2 := insP_len out c.f3.f0
    show (prefs H (insP out c.f3.f0)).length ≤ _
    rw [List.length_cons]
    omega
theorem pre_l0 (H : List S38) (hn : H.length < 500) (d : Nat) : ∀ (i : Nat) (out : List S33), i + d = H.length → out.length ≤ i →
    Ev (fun k => gb_Prefixes.l0 k H out (i : Int)) (prefs (H.drop i) out) := by
  induction d with
  | zero =>
    intro i out hi ho
    refine Ev.step (fun k => gb_Prefixes.l0.eq_2 ..) (Ev.neg (by omega) ?_)
    rw [List.drop_eq_nil_of_le (by omega)]
    exact Ev.const _
  | succ d ih =>
    intro i out hi ho
    have hlt : i < H.length := by omega
    refine Ev.step (fun k => gb_Prefixes.l0.eq_2 ..) (Ev.pos (by omega) (Ev.pos (by omega) ?_))
    rw [List.drop_eq_getElem_cons hlt, rd_nat38 H i hlt]
    have h2 := insP_len out H[i].f3.f0
    refine pre_step H out i H[i].f3.f0 _ (by omega) ?_ out.length 0 (by omega) (fun q _ h => by omega)
    rw [wn1 i (by omega)]
    exact ih (i + 1) (insP out H[i].f3.f0) (by omega) (by omega)
theorem prefs_is (H : List S38) (hn : H.length < 500) : Ev (fun k => gb_Prefixes.f k H) (prefs H []) := pre_l0 H hn H.length 0 [] (by omega) (Nat.zero_le _)
def rowsOf (H : List S38) (ps : List S33) : List S43 := ps.filterMap (fun p => if (rowOf H p.f0 p.f1).2 = true then some (rowOf H p.f0 p.f1).1 else none)
theorem rows_l0 (H : List S38) (ps : List S33) (hn : H.length < 500) (hp : ps.length < 1000) (d : Nat) : ∀ (i : Nat) (out : List S43), i + d = ps.length → out.length ≤ i →
    Ev (fun k => gb_Rows.l0 k H out ps (i : Int)) (out ++ rowsOf H (ps.drop i)) := by
  induction d with
  | zero =>
    intro i out hi ho
    refine Ev.step (fun k => gb_Rows.l0.eq_2 ..) (Ev.neg (by omega) ?_)
    rw [List.drop_eq_nil_of_le (by omega), rowsOf, List.filterMap_nil, List.append_nil]
    exact Ev.const _
  | succ d ih =>
    intro i out hi ho
    have hlt : i < ps.length := by omega
    refine Ev.step (fun k => gb_Rows.l0.eq_2 ..) (Ev.pos (by omega) (Ev.pos (by omega) ?_))
    rw [List.drop_eq_getElem_cons hlt, rd_nat33 ps i hlt, wn1 i (by omega)]
    refine Ev.bind (row_is H _ _ (by omega)) ?_
    by_cases h : (rowOf H ps[i].f0 ps[i].f1).2 = true
    · refine Ev.pos h (Ev.pos (by omega) ?_)
      have := ih (i + 1) (out ++ [(rowOf H ps[i].f0 ps[i].f1).1]) (by omega) (by rw [List.length_append, List.length_singleton]; omega)
      rw [rowsOf, List.filterMap_cons, if_pos h]
      rw [List.append_assoc, List.singleton_append] at this
      exact this
    · refine Ev.neg h ?_
      have := ih (i + 1) out (by omega) (by omega)
      rw [rowsOf, List.filterMap_cons, if_neg h]
      exact this
theorem rows_is (H : List S38) (hn : H.length < 500) : Ev (fun k => gb_Rows.f k H) (rowsOf H (prefs H [])) := by
  have hl := prefs_len H []
  rw [List.length_nil] at hl
  exact Ev.bind (prefs_is H hn) (rows_l0 H (prefs H []) hn (by omega) (prefs H []).length 0 [] (by omega) (Nat.zero_le _))
theorem t3 (q : Nat) : Int.tmod (q : Int) 3 = ((q % 3 : Nat) : Int) := rfl
theorem d3 (q : Nat) : Int.tdiv (q : Int) 3 = ((q / 3 : Nat) : Int) := rfl
theorem d6 (q : Nat) : Int.tdiv (q : Int) 6 = ((q / 6 : Nat) : Int) := rfl
theorem prefix18 (k p : Nat) (hp : p < 256) : gb_Prefix.f k (p : Int) = gb_Prefix.f k ((p % 18 : Nat) : Int) := by
  unfold gb_Prefix.f
  rw [t3, t3, d3, d3, d6, d6]
  have e1 : (p % 18 : Nat) % 3 = p % 3 := by omega
  have e2 : (((p % 18 / 3 : Nat) : Int)) % 2 = ((p / 3 : Nat) : Int) % 2 := by omega
  have e3 : (((p % 18 / 6 : Nat) : Int)) % 256 % 3 = ((p / 6 : Nat) : Int) % 256 % 3 := by omega
  rw [e1, e2, e3]
theorem u8of (x : Int) (h : (Lit.int .u8 x).wf = true) : ∃ p : Nat, p < 256 ∧ x = (p : Int) := by
  simp [Lit.wf, IntKind.signed, IntKind.bits, IntKind.min, IntKind.max] at h
  exact ⟨x.toNat, by omega, by omega⟩
def PrefG (p : S33) : Prop := ∃ q : Nat, q < 18 ∧ gb_Prefix.f 40 (q : Int) = some (p.f0, p.f1)
def prefOk (p : Nat) : Bool := match gb_Prefix.f 40 (p : Int) with
  | some (a, n) => decide (prefix_Right.f a n = some true) && decide (0 ≤ a ∧ a < 4294967296) && decide (8 ≤ n ∧ n ≤ 24)
  | none => false
theorem pref_all : ((List.range 18).all prefOk) = true := by decide +kernel
theorem PrefG.right {p : S33} (h : PrefG p) : prefix_Right.f p.f0 p.f1 = some true ∧ (0 ≤ p.f0 ∧ p.f0 < 4294967296) ∧ 8 ≤ p.f1 ∧ p.f1 ≤ 24 := by
  obtain ⟨q, hq, hx⟩ := h
  have h := pref_all
  rw [List.all_eq_true] at h
  have h2 := h q (List.mem_range.2 hq)
  unfold prefOk at h2
  rw [hx] at h2
  simp only [Bool.and_eq_true, decide_eq_true_eq] at h2
  exact ⟨h2.1.1, h2.1.2, h2.2⟩
theorem pref_ev (p : Nat) (hp : p < 256) : ∃ P : S33, Ev (fun k => gb_Prefix.f k (p : Int)) (P.f0, P.f1) ∧ PrefG P ∧ gb_Prefix.f 40 ((p % 18 : Nat) : Int) = some (P.f0, P.f1) := by
  have h := pref_all
  rw [List.all_eq_true] at h
  have h2 := h (p % 18) (List.mem_range.2 (Nat.mod_lt _ (by omega)))
  unfold prefOk at h2
  cases hx : gb_Prefix.f 40 ((p % 18 : Nat) : Int) with
  | none => rw [hx] at h2; cases h2
  | some x =>
    obtain ⟨a, n⟩ := x
    exact ⟨⟨a, n⟩, Ev.congr (fun k => prefix18 k p hp) (Ev.of_mono (k := 40) (fun k => gb_Prefix.mono _ k) hx), ⟨p % 18, Nat.mod_lt _ (by omega), hx⟩, rfl⟩
inductive Hist : List S38 → Int → Prop
  | nil : Hist [] 0
  | way {l : List S38} {t : Int} {c : S38} (h : Hist l t) (h0 : c.f0 = (l.length : Int) + 1) (h1 : t ≤ c.f1 ∧ c.f1 ≤ t + 3) (h2 : c.f2 = false) (hp : PrefG c.f3.f0) (hv : 0 ≤ c.f3.f1 ∧ c.f3.f1 < 16) (hm : 0 ≤ c.f3.f2 ∧ c.f3.f2 < 1786) (hs : 0 ≤ c.f3.f3 ∧ c.f3.f3 < 65536) : Hist (l ++ [c]) c.f1
  | gone {l : List S38} {t : Int} {c : S38} (h : Hist l t) (h0 : c.f0 = (l.length : Int) + 1) (h1 : t ≤ c.f1 ∧ c.f1 ≤ t + 3) (h2 : c.f2 = true) (hp : PrefG c.f3.f0) (hv : c.f3.f1 = 0) (hm : c.f3.f2 = 0) (hs : c.f3.f3 = 0)
      (ho : (rowOf l c.f3.f0.f0 c.f3.f0.f1).2 = true) (hh : (rowOf l c.f3.f0.f0 c.f3.f0.f1).1.f1 = true) : Hist (l ++ [c]) c.f1
theorem Hist.time {l : List S38} {t : Int} (h : Hist l t) : 0 ≤ t ∧ t ≤ 3 * (l.length : Int) := by
  induction h with
  | nil => simp
  | way h h0 h1 h2 hp hv hm hs ih => rw [List.length_append, List.length_singleton]; omega
  | gone h h0 h1 h2 hp hv hm hs ho hh ih => rw [List.length_append, List.length_singleton]; omega
theorem rd_nat68 (l : List S68) (j : Nat) (h : j < l.length) : rd_T68 l (j : Int) = l[j] := by
  show l.getD (j : Int).toNat _ = l[j]
  rw [Int.toNat_natCast, List.getD_eq_getElem?_getD, List.getElem?_eq_getElem h]
  rfl
theorem wr64u (n : Int) : IntKind.u64.wrap n = n % 18446744073709551616 := by
  unfold IntKind.wrap; simp [IntKind.signed, IntKind.bits]
theorem time_is (t f4 : Int) (ht : 0 ≤ t ∧ t < 1000) (h4 : 0 ≤ f4 ∧ f4 < 256) : IntKind.u64.wrap (t + (IntKind.u64.wrap (Int.tmod f4 4))) = t + f4 % 4 := by
  rw [Int.tmod_eq_emod_of_nonneg h4.1, wr64u, wr64u]; omega
theorem no_is (l : List S38) (hl : l.length < 1000) : IntKind.u64.wrap (wrap64 ((l.length : Int) + 1)) = (l.length : Int) + 1 := by
  rw [wr64u]; unfold wrap64; omega
theorem hist_l0 (x0 : List S68) (hx : ∀ x ∈ x0, ((Lit.int .u8 x.f0).wf = true ∧ ((Lit.int .u8 x.f1).wf = true ∧ ((Lit.int .u8 x.f2).wf = true ∧ ((Lit.int .u8 x.f3).wf = true ∧ (Lit.int .u8 x.f4).wf = true))))) (hn : x0.length ≤ 60) (d : Nat) :
    ∀ (i : Nat) (l : List S38) (t : Int), i + d = x0.length → l.length = i → Hist l t → ∃ l2 t2, Ev (fun k => gb_History.l0 k x0 l t (i : Int)) l2 ∧ Hist l2 t2 ∧ l2.length = x0.length := by
  induction d with
  | zero =>
    intro i l t hi hl hp
    refine ⟨l, t, Ev.step (fun k => gb_History.l0.eq_2 ..) (Ev.neg (by omega) (Ev.step (fun k => gb_History.j1.eq_2 ..) (Ev.neg (by decide) (Ev.const _)))), hp, by omega⟩
  | succ d ih =>
    intro i l t hi hl hp
    have hlt : i < x0.length := by omega
    obtain ⟨b0, b1, b2, b3, b4⟩ := hx _ (List.getElem_mem hlt)
    obtain ⟨p0, h0, e0⟩ := u8of _ b0
    obtain ⟨p1, h1, e1⟩ := u8of _ b1
    obtain ⟨p2, h2, e2⟩ := u8of _ b2
    obtain ⟨p3, h3, e3⟩ := u8of _ b3
    obtain ⟨p4, h4, e4⟩ := u8of _ b4
    obtain ⟨P, hP, hG, _⟩ := pref_ev p0 h0
    have ht := hp.time
    have tm := Aside0.mk (time_is t (p4 : Int) (by omega) (by omega))
    have nm := Aside0.mk (no_is l (by omega))
    have wn := Aside0.mk (wn1 i (by omega))
    have v1 : Aside0 (wrap64 (Int.tmod (p1 : Int) 16) = ((p1 % 16 : Nat) : Int)) := Aside0.mk <| by rw [show Int.tmod (p1 : Int) 16 = ((p1 % 16 : Nat) : Int) from rfl]; unfold wrap64; omega
    have w2 : Aside0 (IntKind.u16.wrap ((IntKind.u16.wrap (p2 : Int)) * 7) = (p2 : Int) * 7) := Aside0.mk <| by show ((p2 : Int) % 65536 * 7) % 65536 = (p2 : Int) * 7; omega
    have w3 : 0 ≤ IntKind.u16.wrap ((Int.tmod (IntKind.u16.wrap (p3 : Int)) 4) + 65534) ∧ IntKind.u16.wrap ((Int.tmod (IntKind.u16.wrap (p3 : Int)) 4) + 65534) < 65536 := by
      show 0 ≤ (Int.tmod ((p3 : Int) % 65536) 4 + 65534) % 65536 ∧ (Int.tmod ((p3 : Int) % 65536) 4 + 65534) % 65536 < 65536
      omega
    obtain ⟨sq, hsq⟩ : ∃ sq, sq = IntKind.u16.wrap ((Int.tmod (IntKind.u16.wrap (p3 : Int)) 4) + 65534) := ⟨_, rfl⟩
    rw [← hsq] at w3
    have HSQ := Aside0.mk hsq
    clear hsq
    have way : ∃ l2 t2, Ev (fun k => gb_History.l0 k x0 (l ++ [(⟨(l.length : Int) + 1, t + (p4 : Int) % 4, false, (⟨(⟨P.f0, P.f1⟩ : S33), ((p1 % 16 : Nat) : Int), (p2 : Int) * 7, sq⟩ : S36)⟩ : S38)]) (t + (p4 : Int) % 4) ((i + 1 : Nat) : Int)) l2 ∧ Hist l2 t2 ∧ l2.length = x0.length :=
      ih (i + 1) _ _ (by omega) (by rw [List.length_append, List.length_singleton]; omega) (Hist.way (c := (⟨(l.length : Int) + 1, t + (p4 : Int) % 4, false, (⟨(⟨P.f0, P.f1⟩ : S33), ((p1 % 16 : Nat) : Int), (p2 : Int) * 7, sq⟩ : S36)⟩ : S38)) hp rfl ⟨by show t ≤ t + (p4 : Int) % 4; omega, by show t + (p4 : Int) % 4 ≤ t + 3; omega⟩ rfl hG ⟨by show (0 : Int) ≤ ((p1 % 16 : Nat) : Int); omega, by show ((p1 % 16 : Nat) : Int) < 16; omega⟩ ⟨by show (0 : Int) ≤ (p2 : Int) * 7; omega, by show (p2 : Int) * 7 < 1786; omega⟩ w3)
    have body : ∀ (l2 : List S38) , Ev (fun k => gb_History.l0 k x0 (l ++ [(⟨(l.length : Int) + 1, t + (p4 : Int) % 4, false, (⟨(⟨P.f0, P.f1⟩ : S33), ((p1 % 16 : Nat) : Int), (p2 : Int) * 7, sq⟩ : S36)⟩ : S38)]) (t + (p4 : Int) % 4) ((i + 1 : Nat) : Int)) l2 →
        ((rowOf l P.f0 P.f1).2 = true ∧ (rowOf l P.f0 P.f1).1.f1 = true ∧ Int.tmod (p1 : Int) 4 = 3 → Ev (fun k => gb_History.l0 k x0 (l ++ [(⟨(l.length : Int) + 1, t + (p4 : Int) % 4, true, (⟨(⟨P.f0, P.f1⟩ : S33), 0, 0, 0⟩ : S36)⟩ : S38)]) (t + (p4 : Int) % 4) ((i + 1 : Nat) : Int)) l2) →
        Ev (fun k => gb_History.l0 k x0 l t (i : Int)) l2 := by
      intro l2 hw hg
      refine Ev.step (fun k => gb_History.l0.eq_2 ..) (Ev.pos (by omega) ?_)
      rw [decide_eq_true (show (i : Int) < 60 by omega)]
      refine Ev.step (fun k => gb_History.j1.eq_2 ..) (Ev.pos rfl (Ev.pos (by omega) (Ev.pos (by omega) ?_)))
      rw [rd_nat68 x0 i hlt, e0, e1, e2, e3, e4, tm.out, nm.out, wn.out, v1.out, w2.out, ← HSQ.out]
      refine Ev.bind hP (Ev.bind (row_is l P.f0 P.f1 (by omega)) ?_)
      by_cases c1 : (rowOf l P.f0 P.f1).2 = true
      · refine Ev.pos c1 ?_
        by_cases c2 : (rowOf l P.f0 P.f1).1.f1 = true
        · refine Ev.pos c2 ?_
          by_cases c3 : Int.tmod (p1 : Int) 4 = 3
          · exact Ev.pos c3 (Ev.pos (by omega) (hg ⟨c1, c2, c3⟩))
          · exact Ev.neg c3 (Ev.pos (by omega) hw)
        · exact Ev.neg c2 (Ev.pos (by omega) hw)
      · exact Ev.neg c1 (Ev.pos (by omega) hw)
    by_cases c : (rowOf l P.f0 P.f1).2 = true ∧ (rowOf l P.f0 P.f1).1.f1 = true ∧ Int.tmod (p1 : Int) 4 = 3
    · obtain ⟨l2, t2, hE, hH, hL⟩ := ih (i + 1) _ _ (by omega) (by rw [List.length_append, List.length_singleton]; omega) (Hist.gone (c := (⟨(l.length : Int) + 1, t + (p4 : Int) % 4, true, (⟨(⟨P.f0, P.f1⟩ : S33), 0, 0, 0⟩ : S36)⟩ : S38)) hp rfl ⟨by show t ≤ t + (p4 : Int) % 4; omega, by show t + (p4 : Int) % 4 ≤ t + 3; omega⟩ rfl hG rfl rfl rfl c.1 c.2.1)
      refine ⟨l2, t2, ?_, hH, hL⟩
      refine Ev.step (fun k => gb_History.l0.eq_2 ..) (Ev.pos (by omega) ?_)
      rw [decide_eq_true (show (i : Int) < 60 by omega)]
      refine Ev.step (fun k => gb_History.j1.eq_2 ..) (Ev.pos rfl (Ev.pos (by omega) (Ev.pos (by omega) ?_)))
      rw [rd_nat68 x0 i hlt, e0, e1, e2, e3, e4, tm.out, nm.out, wn.out, v1.out, w2.out, ← HSQ.out]
      refine Ev.bind hP (Ev.bind (row_is l P.f0 P.f1 (by omega)) ?_)
      exact Ev.pos c.1 (Ev.pos c.2.1 (Ev.pos c.2.2 (Ev.pos (by omega) hE)))
    · obtain ⟨l2, t2, hE, hH, hL⟩ := way
      exact ⟨l2, t2, body l2 hE (fun h => absurd h c), hH, hL⟩
theorem hist_is (x0 : List S68) (hx : ∀ x ∈ x0, ((Lit.int .u8 x.f0).wf = true ∧ ((Lit.int .u8 x.f1).wf = true ∧ ((Lit.int .u8 x.f2).wf = true ∧ ((Lit.int .u8 x.f3).wf = true ∧ (Lit.int .u8 x.f4).wf = true))))) (hn : x0.length ≤ 60) :
    ∃ l2 t2, Ev (fun k => gb_History.f k x0) l2 ∧ Hist l2 t2 ∧ l2.length = x0.length := hist_l0 x0 hx hn x0.length 0 [] 0 (by omega) rfl Hist.nil
theorem insP_mem : ∀ (l : List S33) (p x : S33), x ∈ insP l p → x ∈ l ∨ x = p
  | [], p, x, h => .inr (List.mem_singleton.1 h)
  | y :: l, p, x, h => by
    unfold insP at h
    split at h
    · rcases List.mem_cons.1 h with rfl | h
      · exact .inl List.mem_cons_self
      · rcases insP_mem l p x h with h | h
        · exact .inl (List.mem_cons_of_mem _ h)
        · exact .inr h
    · split at h
      · exact .inl h
      · rcases List.mem_cons.1 h with rfl | h
        · exact .inr rfl
        · exact .inl h
def srtP (l : List S33) : Prop := l.Pairwise (fun x y => cmp31 x y < 0)
theorem insP_srt : ∀ (l : List S33) (p : S33), srtP l → srtP (insP l p)
  | [], p, _ => List.pairwise_singleton _ _
  | y :: l, p, h => by
    obtain ⟨h1, h2⟩ := List.pairwise_cons.1 h
    unfold insP
    by_cases a : cmp31 y p < 0
    · rw [if_pos a]
      refine List.pairwise_cons.2 ⟨fun z hz => ?_, insP_srt l p h2⟩
      rcases insP_mem l p z hz with hz | rfl
      · exact h1 z hz
      · exact a
    · rw [if_neg a]
      by_cases b : cmp31 y p = 0
      · rw [if_pos b]; exact h
      · rw [if_neg b]
        have hpy : cmp31 p y < 0 := cmpI_gt a b
        refine List.pairwise_cons.2 ⟨fun z hz => ?_, h⟩
        rcases List.mem_cons.1 hz with rfl | hz
        · exact hpy
        · exact cmpI_trans hpy (h1 z hz)
theorem prefs_srt : ∀ (H : List S38) (out : List S33), srtP out → srtP (prefs H out)
  | [], _, h => h
  | c :: H, out, h => prefs_srt H (insP out c.f3.f0) (insP_srt out _ h)
theorem prefs_mem : ∀ (H : List S38) (out : List S33) (x : S33), x ∈ prefs H out → x ∈ out ∨ ∃ c ∈ H, c.f3.f0 = x
  | [], _, _, h => .inl h
  | c :: H, out, x, h => by
    rcases prefs_mem H (insP out c.f3.f0) x h with h | ⟨d, hd, e⟩
    · rcases insP_mem _ _ _ h with h | rfl
      · exact .inl h
      · exact .inr ⟨c, List.mem_cons_self, rfl⟩
    · exact .inr ⟨d, List.mem_cons_of_mem _ hd, e⟩
theorem rowStep_key (a n : Int) (s : S43 × Bool) (c : S38) : (rowStep a n s c).1.f0 = s.1.f0 := by
  unfold rowStep
  split
  · split <;> rfl
  · rfl
theorem row_key (a n : Int) : ∀ (H : List S38) (s : S43 × Bool), (H.foldl (rowStep a n) s).1.f0 = s.1.f0
  | [], _ => rfl
  | c :: H, s => by rw [List.foldl_cons, row_key a n H, rowStep_key]
theorem rowOf_key (H : List S38) (a n : Int) : (rowOf H a n).1.f0 = ⟨a, n⟩ := row_key a n H (row0 a n)
theorem Hist.mem {l : List S38} {t : Int} (h : Hist l t) : ∀ c ∈ l, PrefG c.f3.f0 ∧ (c.f2 = false → 0 ≤ c.f3.f2 ∧ c.f3.f2 < 1786) ∧ 0 ≤ c.f3.f3 ∧ c.f3.f3 < 65536 := by
  induction h with
  | nil => intro c hc; cases hc
  | way h h0 h1 h2 hp hv hm hs ih =>
    intro c hc
    rcases List.mem_append.1 hc with hc | hc
    · exact ih c hc
    · rw [List.mem_singleton] at hc
      subst hc
      exact ⟨hp, fun _ => hm, hs⟩
  | gone h h0 h1 h2 hp hv hm hs ho hh ih =>
    intro c hc
    rcases List.mem_append.1 hc with hc | hc
    · exact ih c hc
    · rw [List.mem_singleton] at hc
      subst hc
      exact ⟨hp, (fun hf => by rw [h2] at hf; cases hf), by rw [hs]; omega⟩
theorem row_met (a n : Int) : ∀ (H : List S38) (s : S43 × Bool), (∀ c ∈ H, c.f2 = false → c.f3.f2 < 1786) → (s.2 = true → s.1.f3.f1 < 1786) → (H.foldl (rowStep a n) s).2 = true → (H.foldl (rowStep a n) s).1.f3.f1 < 1786
  | [], _, _, h => h
  | c :: H, s, hc, h => by
    rw [List.foldl_cons]
    refine row_met a n H (rowStep a n s c) (fun d hd => hc d (List.mem_cons_of_mem _ hd)) (fun h2 => ?_)
    have hcc := hc c List.mem_cons_self
    unfold rowStep at h2 ⊢
    by_cases h3 : ofP a n c = true
    · rw [if_pos h3] at h2 ⊢
      by_cases h4 : c.f2 = true
      · rw [if_pos h4] at h2 ⊢
        exact h h2
      · rw [if_neg h4]
        show (if s.2 = true ∧ nearB c.f3.f3 c.f3.f2 s.1.f3.f0 s.1.f3.f1 = false then s.1.f3 else ⟨c.f3.f3, c.f3.f2⟩ : S41).f1 < 1786
        split
        · rename_i h5
          exact h h5.1
        · exact hcc (by simpa using h4)
    · rw [if_neg h3] at h2 ⊢
      exact h h2
def keyLt (x y : S43) : Prop := cmpI x.f0.f0 x.f0.f1 y.f0.f0 y.f0.f1 < 0
theorem rowsOf_srt (H : List S38) : ∀ ps : List S33, srtP ps → (rowsOf H ps).Pairwise keyLt
  | [], _ => List.Pairwise.nil
  | p :: ps, h => by
    obtain ⟨h1, h2⟩ := List.pairwise_cons.1 h
    have ih := rowsOf_srt H ps h2
    unfold rowsOf at ih ⊢
    rw [List.filterMap_cons]
    by_cases c : (rowOf H p.f0 p.f1).2 = true
    · rw [if_pos c]
      refine List.pairwise_cons.2 ⟨fun y hy => ?_, ih⟩
      obtain ⟨q, hq, e⟩ := List.mem_filterMap.1 hy
      split at e
      · have e2 := Option.some.inj e
        subst e2
        unfold keyLt
        rw [rowOf_key, rowOf_key]
        exact h1 q hq
      · cases e
    · rw [if_neg c]
      exact ih
theorem rowsOf_mem (H : List S38) (ps : List S33) (y : S43) (h : y ∈ rowsOf H ps) : y.f0 ∈ ps ∧ y = (rowOf H y.f0.f0 y.f0.f1).1 ∧ (rowOf H y.f0.f0 y.f0.f1).2 = true := by
  obtain ⟨q, hq, e⟩ := List.mem_filterMap.1 h
  split at e
  · rename_i h2
    have e2 := Option.some.inj e
    subst e2
    rw [rowOf_key]
    exact ⟨hq, rfl, h2⟩
  · cases e
theorem hist_rows {H : List S38} {t : Int} (h : Hist H t) : (rowsOf H (prefs H [])).Pairwise keyLt ∧ ∀ y ∈ rowsOf H (prefs H []), PrefG y.f0 ∧ y.f3.f1 < 1786 := by
  refine ⟨rowsOf_srt H _ (prefs_srt H [] List.Pairwise.nil), fun y hy => ?_⟩
  obtain ⟨h1, h2, h3⟩ := rowsOf_mem H _ y hy
  refine ⟨?_, ?_⟩
  · rcases prefs_mem H [] _ h1 with h1 | ⟨c, hc, e⟩
    · cases h1
    · rw [← e]; exact (h.mem c hc).1
  · rw [h2]
    exact row_met _ _ H _ (fun c hc hg => ((h.mem c hc).2.1 hg).2) (fun hh => by cases hh) h3
theorem near_eq (a b c d : Int) (ha : 0 ≤ a ∧ a < 65536) (hc : 0 ≤ c ∧ c < 65536) : serial_Nearer.f a b c d = some (nearB a b c d) := by
  have h := near_is a b c d
  rw [← h]
  unfold serial_Nearer.f serial_Newer.f ga_Nearer.f ga_Newer.f
  by_cases e : a = c
  · subst e
    simp
  · have e1 : IntKind.u16.wrap (a - c) = (a - c) % 65536 := by unfold IntKind.wrap; simp [IntKind.signed, IntKind.bits]
    have e2 : Int.tmod (wrap64 ((wrap64 ((wrap64 a) - (wrap64 c))) + 65536)) 65536 = (a - c) % 65536 := by
      have w : wrap64 ((wrap64 ((wrap64 a) - (wrap64 c))) + 65536) = a - c + 65536 := by unfold wrap64; omega
      rw [w, Int.tmod_eq_emod_of_nonneg (by omega)]
      omega
    rw [e1, e2]
    simp only [if_neg e, Option.bind_some]
    have hp : (a - c) % 65536 ≥ 1 := by omega
    rw [if_pos hp, Option.bind_some]
    by_cases hlt : (a - c) % 65536 < 32768
    · rw [decide_eq_true hlt, if_pos rfl, decide_eq_true (show (a - c) % 65536 ≤ 32767 by omega)]
    · rw [decide_eq_false hlt, if_neg (by simp), decide_eq_false (show ¬ (a - c) % 65536 ≤ 32767 by omega)]
theorem best_eq (a b c d : Int) (ha : 0 ≤ a ∧ a < 65536) (hc : 0 ≤ c ∧ c < 65536) : serial_Best.f a b c d = some (if nearB c d a b = false then (a, b) else (c, d)) := by
  unfold serial_Best.f
  rw [near_eq c d a b hc ha, Option.bind_some]
  cases nearB c d a b <;> rfl
theorem near_self (a b : Int) : nearB a b a b = false := by
  unfold nearB ga_Nearer.f
  rw [if_pos rfl]
  simp
theorem right_hist (c : S38) (hp : PrefG c.f3.f0) (h : (c.f2 = true ∧ c.f3.f1 = 0 ∧ c.f3.f2 = 0 ∧ c.f3.f3 = 0) ∨ (c.f2 = false ∧ (0 ≤ c.f3.f1 ∧ c.f3.f1 < 16) ∧ (0 ≤ c.f3.f2 ∧ c.f3.f2 < 1786))) : change_Right.f 5 c.f0 c.f1 c.f2 c.f3.f0.f0 c.f3.f0.f1 c.f3.f1 c.f3.f2 c.f3.f3 = some 0 := by
  unfold change_Right.f
  rw [hp.right.1, Option.bind_some, if_pos rfl]
  rcases h with ⟨h1, h2, h3, h4⟩ | ⟨h1, h2, h3⟩
  · rw [if_pos h1, h2, h3, h4, h1]
    rfl
  · rw [if_neg (by rw [h1]; simp), change_Right.j0, if_neg (by simp), if_neg (by rw [h1]; simp), if_neg (by omega), if_neg (by omega), if_neg (by omega)]
theorem ofP_iff (a n : Int) (c : S38) : ofP a n c = true ↔ c.f3.f0 = ⟨a, n⟩ := by
  unfold ofP
  rw [Bool.and_eq_true, beq_iff_eq, beq_iff_eq]
  constructor
  · rintro ⟨h1, h2⟩
    cases h : c.f3.f0
    rw [h] at h1 h2
    subst h1 h2
    rfl
  · intro h
    rw [h]
    exact ⟨rfl, rfl⟩
theorem rowOf_snoc (H : List S38) (c : S38) (a n : Int) : rowOf (H ++ [c]) a n = rowStep a n (rowOf H a n) c := by
  unfold rowOf
  rw [List.foldl_append]
  rfl
theorem prefs_snoc (H : List S38) (c : S38) : prefs (H ++ [c]) [] = insP (prefs H []) c.f3.f0 := by
  unfold prefs
  rw [List.foldl_append]
  rfl
theorem cmp31_eq {x y : S33} : cmp31 x y = 0 ↔ x = y := by
  unfold cmp31
  rw [cmpI_eq]
  constructor
  · rintro ⟨h1, h2⟩
    cases x; cases y
    simp only at h1 h2
    subst h1 h2
    rfl
  · rintro rfl
    exact ⟨rfl, rfl⟩
theorem insP_in : ∀ (l : List S33) (p : S33), p ∈ insP l p
  | [], p => List.mem_singleton.2 rfl
  | y :: l, p => by
    unfold insP
    split
    · exact List.mem_cons_of_mem _ (insP_in l p)
    · split
      · rename_i h
        rw [cmp31_eq.1 h]
        exact List.mem_cons_self
      · exact List.mem_cons_self
theorem insP_old : ∀ (l : List S33) (p x : S33), x ∈ l → x ∈ insP l p
  | [], _, _, h => by cases h
  | y :: l, p, x, h => by
    unfold insP
    split
    · rcases List.mem_cons.1 h with rfl | h
      · exact List.mem_cons_self
      · exact List.mem_cons_of_mem _ (insP_old l p x h)
    · split
      · exact h
      · exact List.mem_cons_of_mem _ h
/-- the rows by a function of their prefixes, one of which changes -/
theorem ins_rows (f f' : S33 → S43) (p : S33) (hk : ∀ q, (f q).f0 = q) (hf : ∀ q, q ≠ p → f' q = f q) : ∀ ps : List S33, srtP ps →
    (rowHit (ps.map f) p.f0 p.f1 = true → p ∈ ps ∧ rd_T43 (ps.map f) (rowPos (ps.map f) p.f0 p.f1 : Int) = f p ∧ (insP ps p).map f' = (ps.map f).set (rowPos (ps.map f) p.f0 p.f1) (f' p)) ∧
    (rowHit (ps.map f) p.f0 p.f1 = false → p ∉ ps ∧ (insP ps p).map f' = (ps.map f).take (rowPos (ps.map f) p.f0 p.f1) ++ f' p :: (ps.map f).drop (rowPos (ps.map f) p.f0 p.f1))
  | [], _ => ⟨(fun h => by simp [rowHit, rowPos] at h), fun _ => ⟨by simp, rfl⟩⟩
  | q :: ps, hs => by
    obtain ⟨h1, h2⟩ := List.pairwise_cons.1 hs
    have ih := ins_rows f f' p hk hf ps h2
    have hq : cmpI (f q).f0.f0 (f q).f0.f1 p.f0 p.f1 = cmp31 q p := by rw [hk]; rfl
    rw [List.map_cons]
    by_cases a : cmp31 q p < 0
    · have hqp : q ≠ p := fun e => by rw [cmp31_eq.2 e] at a; omega
      have e : rowPos (f q :: ps.map f) p.f0 p.f1 = rowPos (ps.map f) p.f0 p.f1 + 1 := by rw [rowPos, if_pos (by rw [hq]; exact a)]
      have eh : rowHit (f q :: ps.map f) p.f0 p.f1 = rowHit (ps.map f) p.f0 p.f1 := by
        unfold rowHit
        rw [e]
        by_cases hl : rowPos (ps.map f) p.f0 p.f1 < (ps.map f).length
        · rw [rd_cast (ps.map f) _ hl, rd_cast (f q :: ps.map f) _ (by simpa using hl), List.getElem_cons_succ]
          simp
        · have hl2 : ¬ rowPos (ps.map f) p.f0 p.f1 + 1 < (f q :: ps.map f).length := by simpa using hl
          rw [decide_eq_false hl, decide_eq_false hl2]
          rfl
      rw [eh, e, insP, if_pos a, List.map_cons, hf q hqp]
      refine ⟨fun h => ?_, fun h => ?_⟩
      · obtain ⟨i1, i2, i3⟩ := ih.1 h
        refine ⟨List.mem_cons_of_mem _ i1, ?_, ?_⟩
        · rw [← i2]
          unfold rowHit at h
          rw [Bool.and_eq_true, decide_eq_true_iff] at h
          rw [rd_cast (ps.map f) _ h.1, rd_cast (f q :: ps.map f) _ (by simpa using h.1), List.getElem_cons_succ]
        · rw [i3, List.set_cons_succ]
      · obtain ⟨i1, i2⟩ := ih.2 h
        refine ⟨fun hm => ?_, ?_⟩
        · rcases List.mem_cons.1 hm with rfl | hm
          · exact hqp rfl
          · exact i1 hm
        · rw [i2, List.take_succ_cons, List.drop_succ_cons, List.cons_append]
    · have e : rowPos (f q :: ps.map f) p.f0 p.f1 = 0 := by rw [rowPos, if_neg (by rw [hq]; exact a)]
      have er : rd_T43 (f q :: ps.map f) ((0 : Nat) : Int) = f q := rd_cast (f q :: ps.map f) 0 (by simp)
      by_cases b : cmp31 q p = 0
      · have hqp := cmp31_eq.1 b
        subst hqp
        have hnot : ∀ x ∈ ps, x ≠ q := fun x hx ex => by
          have h3 := h1 x hx
          rw [ex, cmp31_eq.2 rfl] at h3
          omega
        have hm : ps.map f' = ps.map f := List.map_congr_left (fun x hx => hf x (hnot x hx))
        have hh : rowHit (f q :: ps.map f) q.f0 q.f1 = true := by
          unfold rowHit
          rw [e, er, hq, b]
          simp
        rw [hh, e, insP, if_neg a, if_pos b, List.map_cons, hm]
        exact ⟨fun _ => ⟨List.mem_cons_self, er, rfl⟩, (fun h => by cases h)⟩
      · have hh : rowHit (f q :: ps.map f) p.f0 p.f1 = false := by
          unfold rowHit
          rw [e, er, hq]
          simp [b]
        have hpq : cmp31 p q < 0 := cmpI_gt a b
        have hnot : ∀ x ∈ q :: ps, x ≠ p := fun x hx ex => by
          subst ex
          rcases List.mem_cons.1 hx with ex | hx
          · rw [ex, cmp31_eq.2 rfl] at hpq; omega
          · have := cmpI_trans hpq (h1 x hx)
            have h0 : cmpI x.f0 x.f1 x.f0 x.f1 = 0 := cmpI_eq.2 ⟨rfl, rfl⟩
            omega
        have hm : (q :: ps).map f' = (q :: ps).map f := List.map_congr_left (fun x hx => hf x (hnot x hx))
        rw [hh, e, insP, if_neg a, if_neg b, List.map_cons, hm]
        exact ⟨(fun h => by cases h), fun _ => ⟨fun hm => hnot p hm rfl, rfl⟩⟩
/-- every prefix of a history has a way, or had one; no other has -/
theorem rowStep_other (a n : Int) (s : S43 × Bool) (c : S38) (h : c.f3.f0 ≠ ⟨a, n⟩) : rowStep a n s c = s := by
  unfold rowStep
  rw [if_neg (fun h2 => h ((ofP_iff a n c).1 h2))]
theorem rowOf_none : ∀ (H : List S38) (a n : Int) (s : S43 × Bool), (∀ c ∈ H, c.f3.f0 ≠ ⟨a, n⟩) → H.foldl (rowStep a n) s = s
  | [], _, _, _, _ => rfl
  | c :: H, a, n, s, h => by rw [List.foldl_cons, rowStep_other a n s c (h c List.mem_cons_self), rowOf_none H a n s (fun d hd => h d (List.mem_cons_of_mem _ hd))]
theorem prefs_all : ∀ (H : List S38) (out : List S33), (∀ x ∈ out, x ∈ prefs H out) ∧ ∀ c ∈ H, c.f3.f0 ∈ prefs H out
  | [], _ => ⟨fun _ h => h, fun _ h => by cases h⟩
  | d :: H, out => by
    obtain ⟨i1, i2⟩ := prefs_all H (insP out d.f3.f0)
    refine ⟨fun x hx => i1 x (insP_old out _ x hx), fun c hc => ?_⟩
    rcases List.mem_cons.1 hc with rfl | hc
    · exact i1 _ (insP_in out _)
    · exact i2 c hc
theorem rowOf_not (H : List S38) (p : S33) (h : p ∉ prefs H []) : rowOf H p.f0 p.f1 = row0 p.f0 p.f1 :=
  rowOf_none H _ _ _ (fun c hc e => h (by have := (prefs_all H []).2 c hc; rw [e] at this; exact this))
theorem hist_ok {H : List S38} {t : Int} (h : Hist H t) : ∀ p ∈ prefs H [], (rowOf H p.f0 p.f1).2 = true := by
  induction h with
  | nil => intro p hp; cases hp
  | @way l t c h h0 h1 h2 hp hv hm hs ih =>
    intro p hp2
    rw [rowOf_snoc]
    by_cases e : c.f3.f0 = p
    · unfold rowStep
      rw [if_pos ((ofP_iff _ _ c).2 e), if_neg (by rw [h2]; simp)]
    · rw [rowStep_other _ _ _ _ e]
      rw [prefs_snoc] at hp2
      rcases insP_mem _ _ _ hp2 with h3 | h3
      · exact ih p h3
      · exact absurd h3.symm e
  | @gone l t c h h0 h1 h2 hp hv hm hs ho hh ih =>
    intro p hp2
    rw [rowOf_snoc]
    by_cases e : c.f3.f0 = p
    · unfold rowStep
      rw [if_pos ((ofP_iff _ _ c).2 e), if_pos h2]
      subst e
      exact ho
    · rw [rowStep_other _ _ _ _ e]
      rw [prefs_snoc] at hp2
      rcases insP_mem _ _ _ hp2 with h3 | h3
      · exact ih p h3
      · exact absurd h3.symm e
def rowF (H : List S38) (p : S33) : S43 := (rowOf H p.f0 p.f1).1
theorem rowF_key (H : List S38) (p : S33) : (rowF H p).f0 = p := rowOf_key H p.f0 p.f1
theorem rowsOf_map (H : List S38) : ∀ ps : List S33, (∀ p ∈ ps, (rowOf H p.f0 p.f1).2 = true) → rowsOf H ps = ps.map (rowF H)
  | [], _ => rfl
  | p :: ps, h => by
    have ih := rowsOf_map H ps (fun q hq => h q (List.mem_cons_of_mem _ hq))
    unfold rowsOf at ih ⊢
    rw [List.filterMap_cons, if_pos (h p List.mem_cons_self), List.map_cons, ih]
    rfl
theorem seq_ok (a n : Int) : ∀ (H : List S38) (s : S43 × Bool), (∀ c ∈ H, 0 ≤ c.f3.f3 ∧ c.f3.f3 < 65536) → (0 ≤ s.1.f3.f0 ∧ s.1.f3.f0 < 65536) → 0 ≤ (H.foldl (rowStep a n) s).1.f3.f0 ∧ (H.foldl (rowStep a n) s).1.f3.f0 < 65536
  | [], _, _, h => h
  | c :: H, s, hc, h => by
    rw [List.foldl_cons]
    refine seq_ok a n H (rowStep a n s c) (fun d hd => hc d (List.mem_cons_of_mem _ hd)) ?_
    have hcc := hc c List.mem_cons_self
    unfold rowStep
    by_cases h3 : ofP a n c = true
    · rw [if_pos h3]
      by_cases h4 : c.f2 = true
      · rw [if_pos h4]
        exact h
      · rw [if_neg h4]
        show 0 ≤ (if s.2 = true ∧ nearB c.f3.f3 c.f3.f2 s.1.f3.f0 s.1.f3.f1 = false then s.1.f3 else ⟨c.f3.f3, c.f3.f2⟩ : S41).f0 ∧ (if s.2 = true ∧ nearB c.f3.f3 c.f3.f2 s.1.f3.f0 s.1.f3.f1 = false then s.1.f3 else ⟨c.f3.f3, c.f3.f2⟩ : S41).f0 < 65536
        split
        · exact h
        · exact hcc
    · rw [if_neg h3]
      exact h
theorem apply_hist {H : List S38} {t : Int} (h : Hist H t) (hn : H.length < 200) (c : S38) (h0 : c.f0 = (H.length : Int) + 1) (h1 : t ≤ c.f1) (hp : PrefG c.f3.f0)
    (hc : (c.f2 = true ∧ (c.f3.f1 = 0 ∧ c.f3.f2 = 0 ∧ c.f3.f3 = 0) ∧ (rowOf H c.f3.f0.f0 c.f3.f0.f1).2 = true ∧ (rowOf H c.f3.f0.f0 c.f3.f0.f1).1.f1 = true) ∨ (c.f2 = false ∧ ((0 ≤ c.f3.f1 ∧ c.f3.f1 < 16) ∧ (0 ≤ c.f3.f2 ∧ c.f3.f2 < 1786) ∧ (0 ≤ c.f3.f3 ∧ c.f3.f3 < 65536)))) :
    table_Table_Apply.f ((prefs H []).map (rowF H), (H.length : Int), t) c.f0 c.f1 c.f2 c.f3.f0.f0 c.f3.f0.f1 c.f3.f1 c.f3.f2 c.f3.f3 = some (0, (prefs (H ++ [c]) []).map (rowF (H ++ [c])), c.f0, c.f1) := by
  have hr : change_Right.f 5 c.f0 c.f1 c.f2 c.f3.f0.f0 c.f3.f0.f1 c.f3.f1 c.f3.f2 c.f3.f3 = some 0 := right_hist c hp (by
    rcases hc with ⟨q1, q2, _⟩ | ⟨q1, q2, q3, _⟩
    · exact .inl ⟨q1, q2⟩
    · exact .inr ⟨q1, q2, q3⟩)
  have hother : ∀ q, q ≠ c.f3.f0 → rowF (H ++ [c]) q = rowF H q := fun q hq => by
    unfold rowF
    rw [rowOf_snoc, rowStep_other _ _ _ _ (fun e => hq e.symm)]
  have key := ins_rows (rowF H) (rowF (H ++ [c])) c.f3.f0 (rowF_key H) hother (prefs H []) (prefs_srt H [] List.Pairwise.nil)
  have hlen : ((prefs H []).map (rowF H)).length < 256 := by
    have := prefs_len H []
    rw [List.length_nil] at this
    rw [List.length_map]
    omega
  have hno : c.f0 = IntKind.u64.wrap ((H.length : Int) + 1) := by rw [h0, wr64u]; omega
  have hsnoc : rowF (H ++ [c]) c.f3.f0 = (rowStep c.f3.f0.f0 c.f3.f0.f1 (rowOf H c.f3.f0.f0 c.f3.f0.f1) c).1 := by
    unfold rowF
    rw [rowOf_snoc]
  have hofp : ofP c.f3.f0.f0 c.f3.f0.f1 c = true := (ofP_iff _ _ c).2 rfl
  have hseq : 0 ≤ (rowF H c.f3.f0).f3.f0 ∧ (rowF H c.f3.f0).f3.f0 < 65536 := seq_ok _ _ H _ (fun d hd => (h.mem d hd).2.2) (by show (0 : Int) ≤ 0 ∧ (0 : Int) < 65536; omega)
  rw [prefs_snoc]
  unfold table_Table_Apply.f
  rw [hr, Option.bind_some, if_pos rfl]
  unfold table_Table_Apply.g
  rw [if_neg (by rintro (q | q); exact q hno; exact absurd (show c.f1 < t from q) (by omega))]
  by_cases hit : rowHit ((prefs H []).map (rowF H)) c.f3.f0.f0 c.f3.f0.f1 = true
  · obtain ⟨k1, k2, k3⟩ := key.1 hit
    have hok := hist_ok h _ k1
    rw [k3, k2]
    rcases hc with ⟨q1, ⟨q2, q3, q4⟩, q5, q6⟩ | ⟨q1, q2, q3, q4⟩
    · rw [if_pos q1, if_pos ⟨hit, q6⟩, hsnoc]
      unfold rowStep
      rw [if_pos hofp, if_pos q1]
      have hc3 : c.f3 = ⟨c.f3.f0, 0, 0, 0⟩ := by
        cases hh : c.f3
        rw [hh] at q2 q3 q4
        simp only at q2 q3 q4
        subst q2 q3 q4
        rfl
      have e : (⟨(rowF H c.f3.f0).f0, false, ⟨⟨c.f3.f0.f0, c.f3.f0.f1⟩, 0, 0, 0⟩, (rowF H c.f3.f0).f3⟩ : S43) = ⟨(rowOf H c.f3.f0.f0 c.f3.f0.f1).1.f0, false, c.f3, (rowOf H c.f3.f0.f0 c.f3.f0.f1).1.f3⟩ := by
        have : (⟨⟨c.f3.f0.f0, c.f3.f0.f1⟩, 0, 0, 0⟩ : S36) = c.f3 := hc3.symm
        rw [this]
        rfl
      exact congrArg (fun z => some (0, ((prefs H []).map (rowF H)).set _ z, c.f0, c.f1)) e
    · have hng : ¬ c.f2 = true := by rw [q1]; simp
      by_cases hb : nearB c.f3.f3 c.f3.f2 (rowF H c.f3.f0).f3.f0 (rowF H c.f3.f0).f3.f1 = false
      · have hst : rowStep c.f3.f0.f0 c.f3.f0.f1 (rowOf H c.f3.f0.f0 c.f3.f0.f1) c = (⟨(rowOf H c.f3.f0.f0 c.f3.f0.f1).1.f0, true, c.f3, (rowOf H c.f3.f0.f0 c.f3.f0.f1).1.f3⟩, true) := by
          unfold rowStep
          rw [if_pos hofp, if_neg hng, if_pos ⟨hok, hb⟩]
        rw [if_neg hng, if_pos hit, best_eq _ _ _ _ hseq q4, Option.bind_some, hsnoc, hst, if_pos hb]
        rfl
      · have hst : rowStep c.f3.f0.f0 c.f3.f0.f1 (rowOf H c.f3.f0.f0 c.f3.f0.f1) c = (⟨(rowOf H c.f3.f0.f0 c.f3.f0.f1).1.f0, true, c.f3, ⟨c.f3.f3, c.f3.f2⟩⟩, true) := by
          unfold rowStep
          rw [if_pos hofp, if_neg hng, if_neg (fun h => hb h.2)]
        rw [if_neg hng, if_pos hit, best_eq _ _ _ _ hseq q4, Option.bind_some, hsnoc, hst, if_neg hb]
        rfl
  · have hit' : rowHit ((prefs H []).map (rowF H)) c.f3.f0.f0 c.f3.f0.f1 = false := by simpa using hit
    obtain ⟨k1, k2⟩ := key.2 hit'
    have hz := rowOf_not H c.f3.f0 k1
    rcases hc with ⟨_, _, q5, _⟩ | ⟨q1, q2, q3, q4⟩
    · rw [hz] at q5
      cases q5
    · rw [if_neg (by rw [q1]; simp), if_neg hit, if_neg (show ¬ 256 ≤ ((prefs H []).map (rowF H)).length by omega), best_eq _ _ _ _ q4 q4, Option.bind_some, near_self, if_pos rfl, k2, hsnoc]
      unfold rowStep
      rw [if_pos hofp, if_neg (by rw [q1]; simp), hz, if_neg (fun h => by have := h.1; cases this)]
      rfl
theorem of_snoc : ∀ (H : List S38) (c : S38) (T T1 : List S43 × Int × Int), gl_of.l H T = some T1 → gl_of.l (H ++ [c]) T = gl_of.l [c] T1
  | [], c, T, T1, h => by
    have e := Option.some.inj (show some T = some T1 from h)
    subst e
    rfl
  | d :: H, c, T, T1, h => by
    rw [gl_of.l] at h
    obtain ⟨x, hx, h2⟩ := Option.bind_eq_some_iff.mp h
    by_cases hz : x.1 = 0
    · rw [if_pos hz] at h2
      rw [List.cons_append, gl_of.l, hx, Option.bind_some, if_pos hz]
      exact of_snoc H c x.2 T1 h2
    · rw [if_neg hz] at h2
      cases h2
theorem of_hist {H : List S38} {t : Int} (h : Hist H t) : H.length < 200 → gl_of.l H ([], 0, 0) = some ((prefs H []).map (rowF H), (H.length : Int), t) := by
  induction h with
  | nil => intro _; rfl
  | @way l t c h h0 h1 h2 hp hv hm hs ih =>
    intro hn
    rw [List.length_append, List.length_singleton] at hn
    have e := ih (by omega)
    rw [of_snoc l c _ _ e, gl_of.l, apply_hist h (by omega) c h0 h1.1 hp (.inr ⟨h2, hv, hm, hs⟩), Option.bind_some, if_pos rfl, h0, List.length_append, List.length_singleton]
    rfl
  | @gone l t c h h0 h1 h2 hp hv hm hs ho hh ih =>
    intro hn
    rw [List.length_append, List.length_singleton] at hn
    have e := ih (by omega)
    rw [of_snoc l c _ _ e, gl_of.l, apply_hist h (by omega) c h0 h1.1 hp (.inl ⟨h2, ⟨hv, hm, hs⟩, ho, hh⟩), Option.bind_some, if_pos rfl, h0, List.length_append, List.length_singleton]
    rfl
theorem same_rows (l : List S43) (hn : l.length < 1000) : Ev (fun k => gb_SameRows.f k l l) true := by
  have key : ∀ d i : Nat, i + d = l.length → Ev (fun k => gb_SameRows.l0 k l l (i : Int)) true := by
    intro d
    induction d with
    | zero => intro i hi; exact Ev.step (fun k => gb_SameRows.l0.eq_2 ..) (Ev.neg (by omega) (Ev.const _))
    | succ d ih =>
      intro i hi
      refine Ev.step (fun k => gb_SameRows.l0.eq_2 ..) (Ev.pos (by omega) (Ev.pos (by omega) (Ev.pos (by omega) (Ev.neg (by simp) ?_))))
      rw [wn1 i (by omega)]
      exact ih (i + 1) (by omega)
  exact Ev.pos rfl (key l.length 0 (by omega))
theorem awake_tab : gl_awake.f = some true := by decide +kernel
abbrev T8 : ByteArray := (⟨#[0, 1, 2, 2, 3, 3, 3, 3, 4, 4, 4, 4, 4, 4, 4, 4, 5, 5, 5, 5, 5, 5, 5, 5, 5, 5, 5, 5, 5, 5, 5, 5, 6, 6, 6, 6, 6, 6, 6, 6, 6, 6, 6, 6, 6, 6, 6, 6, 6, 6, 6, 6, 6, 6, 6, 6, 6, 6, 6, 6, 6, 6, 6, 6, 7, 7, 7, 7, 7, 7, 7, 7, 7, 7, 7, 7, 7, 7, 7, 7, 7, 7, 7, 7, 7, 7, 7, 7, 7, 7, 7, 7, 7, 7, 7, 7, 7, 7, 7, 7, 7, 7, 7, 7, 7, 7, 7, 7, 7, 7, 7, 7, 7, 7, 7, 7, 7, 7, 7, 7, 7, 7, 7, 7, 7, 7, 7, 7, 8, 8, 8, 8, 8, 8, 8, 8, 8, 8, 8, 8, 8, 8, 8, 8, 8, 8, 8, 8, 8, 8, 8, 8, 8, 8, 8, 8, 8, 8, 8, 8, 8, 8, 8, 8, 8, 8, 8, 8, 8, 8, 8, 8, 8, 8, 8, 8, 8, 8, 8, 8, 8, 8, 8, 8, 8, 8, 8, 8, 8, 8, 8, 8, 8, 8, 8, 8, 8, 8, 8, 8, 8, 8, 8, 8, 8, 8, 8, 8, 8, 8, 8, 8, 8, 8, 8, 8, 8, 8, 8, 8, 8, 8, 8, 8, 8, 8, 8, 8, 8, 8, 8, 8, 8, 8, 8, 8, 8, 8, 8, 8, 8, 8, 8, 8, 8, 8, 8, 8, 8, 8, 8, 8, 8, 8, 8, 8]⟩ : ByteArray)
theorem t8_all : ((List.range 256).all fun i => (List.range 9).all fun j => (decide (i < 2 ^ j)) == decide (bt T8 (i : Int) ≤ (j : Int))) = true := by decide +kernel
theorem t8_bd : ((List.range 256).all fun i => decide (0 ≤ bt T8 (i : Int) ∧ bt T8 (i : Int) ≤ 8)) = true := by decide +kernel
theorem t8 (i : Nat) (h : i < 256) : ∃ L : Nat, bt T8 (i : Int) = (L : Int) ∧ L ≤ 8 ∧ ∀ j, j ≤ 8 → (i < 2 ^ j ↔ L ≤ j) := by
  have h1 : ((List.range 9).all fun j => (decide (i < 2 ^ j)) == decide (bt T8 (i : Int) ≤ (j : Int))) = true := List.all_eq_true.1 t8_all i (List.mem_range.2 h)
  have h2 : 0 ≤ bt T8 (i : Int) ∧ bt T8 (i : Int) ≤ 8 := of_decide_eq_true (List.all_eq_true.1 t8_bd i (List.mem_range.2 h))
  refine ⟨(bt T8 (i : Int)).toNat, by omega, by omega, fun j hj => ?_⟩
  have h3 : ((decide (i < 2 ^ j)) == decide (bt T8 (i : Int) ≤ (j : Int))) = true := List.all_eq_true.1 h1 j (List.mem_range.2 (by omega))
  rw [beq_iff_eq, decide_eq_decide] at h3
  omega
theorem up (c B w n L : Nat) (hB : 2 ^ c = B) (hc : B ≤ n) (h : ∀ j, j ≤ w → (n / B < 2 ^ j ↔ L ≤ j)) : ∀ j, j ≤ w + c → (n < 2 ^ j ↔ L + c ≤ j) := by
  intro j hj
  subst hB
  by_cases hcj : c ≤ j
  · obtain ⟨d, rfl⟩ : ∃ d, j = d + c := ⟨j - c, by omega⟩
    have := h d (by omega)
    rw [Nat.div_lt_iff_lt_mul (Nat.two_pow_pos c), ← Nat.pow_add] at this
    omega
  · have : 2 ^ j ≤ 2 ^ c := Nat.pow_le_pow_right (by omega) (by omega)
    omega
theorem wide (w n L : Nat) (hn : n < 2 ^ w) (hL : L ≤ w) (h : ∀ j, j ≤ w → (n < 2 ^ j ↔ L ≤ j)) : ∀ j, (n < 2 ^ j ↔ L ≤ j) := by
  intro j
  by_cases hj : j ≤ w
  · exact h j hj
  · have : 2 ^ w ≤ 2 ^ j := Nat.pow_le_pow_right (by omega) (by omega)
    omega
theorem len_low (k n : Nat) (c : Int) (hc : 0 ≤ c ∧ c ≤ 32) (hn : n < 4294967296) : ∃ L : Nat, bits_Len64.j0 (k + 1) (n : Int) c = some (c + L) ∧ L ≤ 32 ∧ ∀ j, (n < 2 ^ j ↔ L ≤ j) := by
  rw [bits_Len64.j0]
  by_cases a : n ≥ 65536
  · rw [if_pos (by omega)]
    by_cases b : n / 65536 ≥ 256
    · obtain ⟨L, hL, h8, hj⟩ := t8 (n / 65536 / 256) (by omega)
      have e : ((n : Int) / 65536 / 256) % 256 = ((n / 65536 / 256 : Nat) : Int) := by omega
      rw [if_pos (by omega), if_pos (by omega), if_pos (by omega), e, hL]
      refine ⟨L + 8 + 16, ?_, by omega, wide 32 n _ (by omega) (by omega) (up 16 65536 16 n (L + 8) rfl (by omega) (up 8 256 8 (n / 65536) L rfl (by omega) hj))⟩
      refine congrArg some ?_
      unfold wrap64
      omega
    · obtain ⟨L, hL, h8, hj⟩ := t8 (n / 65536) (by omega)
      have e : ((n : Int) / 65536) % 256 = ((n / 65536 : Nat) : Int) := by omega
      rw [if_neg (by omega), if_pos (by omega), if_pos (by omega), e, hL]
      refine ⟨L + 16, ?_, by omega, wide 24 n _ (by omega) (by omega) (up 16 65536 8 n L rfl (by omega) hj)⟩
      refine congrArg some ?_
      unfold wrap64
      omega
  · rw [if_neg (by omega)]
    by_cases b : n ≥ 256
    · obtain ⟨L, hL, h8, hj⟩ := t8 (n / 256) (by omega)
      have e : ((n : Int) / 256) % 256 = ((n / 256 : Nat) : Int) := by omega
      rw [if_pos (by omega), if_pos (by omega), if_pos (by omega), e, hL]
      refine ⟨L + 8, ?_, by omega, wide 16 n _ (by omega) (by omega) (up 8 256 8 n L rfl (by omega) hj)⟩
      refine congrArg some ?_
      unfold wrap64
      omega
    · obtain ⟨L, hL, h8, hj⟩ := t8 n (by omega)
      have e : (n : Int) % 256 = (n : Int) := by omega
      rw [if_neg (by omega), if_pos (by omega), if_pos (by omega), e, hL]
      refine ⟨L, ?_, by omega, wide 8 n _ (by omega) (by omega) hj⟩
      refine congrArg some ?_
      unfold wrap64
      omega
theorem len_is (k n : Nat) (hn : n < 18446744073709551616) : ∃ L : Nat, bits_Len64.f (k + 1) (n : Int) = some (L : Int) ∧ L ≤ 64 ∧ ∀ j, (n < 2 ^ j ↔ L ≤ j) := by
  unfold bits_Len64.f
  by_cases a : n ≥ 4294967296
  · obtain ⟨L, hL, h32, hj⟩ := len_low k (n / 4294967296) 32 (by omega) (by omega)
    have e : (n : Int) / 4294967296 = ((n / 4294967296 : Nat) : Int) := by omega
    rw [if_pos (by omega), e, hL]
    refine ⟨L + 32, ?_, by omega, wide 64 n _ (by omega) (by omega) (up 32 4294967296 32 n L rfl (by omega) (fun j _ => hj j))⟩
    refine congrArg some ?_
    omega
  · obtain ⟨L, hL, h32, hj⟩ := len_low k n 0 (by omega) (by omega)
    rw [if_neg (by omega), hL]
    exact ⟨L, congrArg some (by omega), by omega, hj⟩

theorem size_is (k n : Nat) (hn : n < 18446744073709551616) : ∃ s : Nat, coin_Size.f (k + 1) (n : Int) = some (s : Int) ∧ 1 ≤ s ∧ s ≤ 9 ∧ ∀ i, 1 ≤ i → i ≤ 8 → (s ≤ i ↔ n < 2 ^ (7 * i)) := by
  obtain ⟨L, hL, h64, hj⟩ := len_is k n hn
  refine ⟨max 1 (min 9 ((L + 6) / 7)), ?_, by omega, by omega, fun i h1 h8 => ?_⟩
  · unfold coin_Size.f
    rw [hL, Option.bind_some]
    refine congrArg some ?_
    have e : wrap64 (Int.tdiv (wrap64 ((L : Int) + 6)) 7) = (((L + 6) / 7 : Nat) : Int) := by
      have : wrap64 ((L : Int) + 6) = ((L + 6 : Nat) : Int) := by unfold wrap64; omega
      rw [this, Int.tdiv_eq_ediv_of_nonneg (by omega)]
      unfold wrap64
      omega
    rw [e]
    unfold mx mn
    (repeat' split) <;> omega
  · rw [hj]
    omega
def tl (n : Nat) : Nat → List Int
  | 0 => []
  | i + 1 => ((n / 256 ^ i % 256 : Nat) : Int) :: tl n i
def hd1 (s n : Nat) : Int := if s = 9 then 255 else ((256 - 2 ^ (9 - s) + n / 256 ^ (s - 1) : Nat) : Int)
def cb (s n : Nat) : List Int := hd1 s n :: tl n (s - 1)
/-- how many bytes n takes -/
def Takes (s n : Nat) : Prop := 1 ≤ s ∧ s ≤ 9 ∧ ∀ i, 1 ≤ i → i ≤ 8 → (s ≤ i ↔ n < 2 ^ (7 * i))
theorem tl_length (n : Nat) : ∀ i, (tl n i).length = i
  | 0 => rfl
  | i + 1 => by simp [tl, tl_length n i]
theorem shr_is (n i : Nat) (hi : i ≤ 8) : (shr .u64 (n : Int) ((8 * i : Nat) : Int)) % 256 = ((n / 256 ^ i % 256 : Nat) : Int) := by
  unfold shr
  have e : min ((8 * i : Nat) : Int).toNat IntKind.u64.bits = 8 * i := by
    have : IntKind.u64.bits = 64 := rfl
    omega
  have e2 : (2 : Int) ^ (8 * i) = ((256 ^ i : Nat) : Int) := by
    rw [show (256 : Nat) = 2 ^ 8 from rfl, ← Nat.pow_mul]
    simp
  rw [e, e2]
  omega
theorem put_loop (n : Nat) : ∀ i : Nat, i ≤ 8 → ∀ (k : Nat) (acc : List Int), i < k → acc.length + i < 140737488355328 → coin_Put.l0 k acc (n : Int) ((i : Int) - 1) = some (acc ++ tl n i) := by
  intro i
  induction i with
  | zero =>
    intro _ k acc hk _
    obtain ⟨k, rfl⟩ : ∃ m, k = m + 1 := ⟨k - 1, by omega⟩
    rw [coin_Put.l0, if_neg (by omega), tl, List.append_nil]
  | succ i ih =>
    intro hi k acc hk hl
    obtain ⟨k, rfl⟩ : ∃ m, k = m + 1 := ⟨k - 1, by omega⟩
    have e1 : wrap64 (8 * (((i + 1 : Nat) : Int) - 1)) = ((8 * i : Nat) : Int) := by unfold wrap64; omega
    have e2 : wrap64 (((i + 1 : Nat) : Int) - 1 - 1) = (i : Int) - 1 := by unfold wrap64; omega
    rw [coin_Put.l0, if_pos (by omega), e1, e2, if_pos (by omega), if_pos (by omega), shr_is n i (by omega)]
    rw [ih (by omega) k (acc ++ [((n / 256 ^ i % 256 : Nat) : Int)]) (by omega) (by simp; omega), tl, List.append_assoc]
    rfl
theorem lead_all : ((List.range 8).all fun q => (List.range 128).all fun h => (!decide (h < 2 ^ (7 - q))) || decide (bits .or .u8 (shl .u8 255 ((8 - q : Nat) : Int)) (h : Int) = ((256 - 2 ^ (8 - q) + h : Nat) : Int))) = true := by decide +kernel
theorem lead_is (q h : Nat) (hq : q < 8) (hh : h < 2 ^ (7 - q)) : bits .or .u8 (shl .u8 255 ((8 - q : Nat) : Int)) (h : Int) = ((256 - 2 ^ (8 - q) + h : Nat) : Int) := by
  have h7 : 2 ^ (7 - q) ≤ 2 ^ 7 := Nat.pow_le_pow_right (by omega) (by omega)
  have h1 : ((List.range 128).all fun h => (!decide (h < 2 ^ (7 - q))) || decide (bits .or .u8 (shl .u8 255 ((8 - q : Nat) : Int)) (h : Int) = ((256 - 2 ^ (8 - q) + h : Nat) : Int))) = true := List.all_eq_true.1 lead_all q (List.mem_range.2 hq)
  have h2 : ((!decide (h < 2 ^ (7 - q))) || decide (bits .or .u8 (shl .u8 255 ((8 - q : Nat) : Int)) (h : Int) = ((256 - 2 ^ (8 - q) + h : Nat) : Int))) = true := List.all_eq_true.1 h1 h (List.mem_range.2 (by omega))
  rw [decide_eq_true hh, Bool.not_true, Bool.false_or] at h2
  exact of_decide_eq_true h2
theorem high_small (s n : Nat) (h1 : 1 ≤ s) (h8 : s ≤ 8) (hn : n < 2 ^ (7 * s)) : n / 256 ^ (s - 1) < 2 ^ (8 - s) := by
  apply Nat.div_lt_of_lt_mul
  rw [show (256 : Nat) = 2 ^ 8 from rfl, ← Nat.pow_mul, ← Nat.pow_add]
  rwa [show 8 * (s - 1) + (8 - s) = 7 * s by omega]
theorem put_of (k s n : Nat) (p : List Int) (hs : Takes s n) (hz : coin_Size.f (k + 11) (n : Int) = some (s : Int)) (hp : p.length + 9 < 140737488355328) : coin_Put.f (k + 11) p (n : Int) = some (p ++ cb s n) := by
  obtain ⟨h1, h9, hs⟩ := hs
  have e3 : wrap64 ((s : Int) - 2) = ((s - 1 : Nat) : Int) - 1 := by unfold wrap64; omega
  unfold coin_Put.f
  rw [hz, Option.bind_some]
  by_cases h : s = 9
  · rw [if_pos (by omega), if_pos (by omega), coin_Put.j0, e3, put_loop n (s - 1) (by omega) _ _ (by omega) (by simp; omega), List.append_assoc]
    unfold cb hd1
    rw [if_pos h]
    rfl
  · have hn := (hs s h1 (by omega)).1 (Nat.le_refl _)
    have e1 : wrap64 (9 - (s : Int)) = ((8 - (s - 1) : Nat) : Int) := by unfold wrap64; omega
    have e2 : wrap64 (8 * (wrap64 ((s : Int) - 1))) = ((8 * (s - 1) : Nat) : Int) := by unfold wrap64; omega
    have hh := high_small s n h1 (by omega) hn
    have hb : n / 256 ^ (s - 1) < 2 ^ (7 - (s - 1)) := by rwa [show 7 - (s - 1) = 8 - s by omega]
    have h7 : 2 ^ (7 - (s - 1)) ≤ 2 ^ 7 := Nat.pow_le_pow_right (by omega) (by omega)
    rw [if_neg (by omega), e1, e2, if_pos (by omega), if_pos (by omega), if_pos (by omega), shr_is n (s - 1) (by omega), Nat.mod_eq_of_lt (by omega), lead_is (s - 1) _ (by omega) hb, coin_Put.j0, e3, put_loop n (s - 1) (by omega) _ _ (by omega) (by simp; omega), List.append_assoc]
    unfold cb hd1
    rw [if_neg h, show 8 - (s - 1) = 9 - s by omega]
    rfl
theorem put_is (k n : Nat) (hn : n < 18446744073709551616) : ∃ s, Takes s n ∧ coin_Size.f (k + 11) (n : Int) = some (s : Int) ∧ ∀ p : List Int, p.length + 9 < 140737488355328 → coin_Put.f (k + 11) p (n : Int) = some (p ++ cb s n) := by
  obtain ⟨s, hz, h1, h9, hs⟩ := size_is (k + 10) n hn
  exact ⟨s, ⟨h1, h9, hs⟩, hz, fun p hp => put_of k s n p ⟨h1, h9, hs⟩ hz hp⟩
def isBytes (l : List Int) : Prop := ∀ x ∈ l, 0 ≤ x ∧ x < 256
theorem tl_bytes (n : Nat) : ∀ i, isBytes (tl n i)
  | 0 => by intro x hx; simp [tl] at hx
  | i + 1 => by
    intro x hx
    rw [tl, List.mem_cons] at hx
    rcases hx with rfl | hx
    · omega
    · exact tl_bytes n i x hx
theorem hd1_bytes (s n : Nat) (h : Takes s n) : 0 ≤ hd1 s n ∧ hd1 s n < 256 := by
  obtain ⟨h1, h9, hs⟩ := h
  unfold hd1
  by_cases h : s = 9
  · rw [if_pos h]; omega
  · rw [if_neg h]
    have hh := high_small s n h1 (by omega) ((hs s h1 (by omega)).1 (Nat.le_refl _))
    have e : 2 ^ (9 - s) = 2 * 2 ^ (8 - s) := by rw [show 9 - s = (8 - s) + 1 by omega, Nat.pow_succ]; omega
    have h8 : 2 ^ (8 - s) ≤ 2 ^ 7 := Nat.pow_le_pow_right (by omega) (by omega)
    generalize n / 256 ^ (s - 1) = q at hh ⊢
    omega
theorem cb_bytes (s n : Nat) (h : Takes s n) : isBytes (cb s n) := by
  intro x hx
  rw [cb, List.mem_cons] at hx
  rcases hx with rfl | hx
  · exact hd1_bytes s n h
  · exact tl_bytes n _ x hx
theorem takes_one (s t a : Nat) (hs : Takes s a) (ht : Takes t a) : s = t := by
  obtain ⟨h1, h9, hs⟩ := hs
  obtain ⟨g1, g9, ht⟩ := ht
  by_cases e : s ≤ 8
  · have := (ht s h1 e).2 ((hs s h1 e).1 (Nat.le_refl _))
    by_cases f : t ≤ 8
    · have := (hs t g1 f).2 ((ht t g1 f).1 (Nat.le_refl _))
      omega
    · omega
  · by_cases f : t ≤ 8
    · have := (hs t g1 f).2 ((ht t g1 f).1 (Nat.le_refl _))
      omega
    · omega
theorem wr64 (n : Int) : IntKind.u64.wrap n = n % 18446744073709551616 := by
  simp [IntKind.wrap, IntKind.signed, IntKind.bits]
def lzOk (b : Nat) : Bool :=
  match bits_LeadingZeros8.f (Go.bits .xor .u8 IntKind.u8.max (b : Int)) with
  | some t => decide (0 ≤ t ∧ t ≤ 8) && (decide (t = 8) || (decide (0 ≤ Go.bits .and .u8 (b : Int) (shr .u8 255 (t + 1))) && decide ((Go.bits .and .u8 (b : Int) (shr .u8 255 (t + 1))).toNat < 2 ^ (7 - t.toNat)) && decide (b = 256 - 2 ^ (8 - t.toNat) + (Go.bits .and .u8 (b : Int) (shr .u8 255 (t + 1))).toNat))) && (!decide (t = 8) || decide (b = 255))
  | none => false
theorem lz_all : ((List.range 256).all lzOk) = true := by decide +kernel
theorem lz_is (b : Nat) (hb : b < 256) : ∃ K : Nat, 1 ≤ K ∧ K ≤ 9 ∧ bits_LeadingZeros8.f (Go.bits .xor .u8 IntKind.u8.max (b : Int)) = some ((K : Int) - 1) ∧ (K = 9 → b = 255) ∧
    (K ≤ 8 → ∃ h : Nat, Go.bits .and .u8 (b : Int) (shr .u8 255 (K : Int)) = (h : Int) ∧ h < 2 ^ (8 - K) ∧ b = 256 - 2 ^ (9 - K) + h) := by
  have h : lzOk b = true := List.all_eq_true.1 lz_all b (List.mem_range.2 hb)
  unfold lzOk at h
  cases e : bits_LeadingZeros8.f (Go.bits .xor .u8 IntKind.u8.max (b : Int)) with
  | none => rw [e] at h; simp at h
  | some t =>
    rw [e] at h
    simp only [Bool.and_eq_true, Bool.or_eq_true, decide_eq_true_eq, Bool.not_eq_true', decide_eq_false_iff_not] at h
    obtain ⟨⟨⟨h0, h8⟩, h1⟩, h2⟩ := h
    refine ⟨(t + 1).toNat, by omega, by omega, by refine congrArg some ?_; omega, fun h => ?_, fun h => ?_⟩
    · rcases h2 with h2 | h2
      · omega
      · exact h2
    · rcases h1 with h1 | ⟨⟨h1, h3⟩, h4⟩
      · omega
      · have e1 : (((t + 1).toNat : Nat) : Int) = t + 1 := by omega
        rw [e1]
        refine ⟨(Go.bits .and .u8 (b : Int) (shr .u8 255 (t + 1))).toNat, by omega, ?_, ?_⟩
        · rwa [show 8 - (t + 1).toNat = 7 - t.toNat by omega]
        · rwa [show 9 - (t + 1).toNat = 8 - t.toNat by omega]
/-- bytes as one number, behind v -/
def foldv (v : Nat) : List Int → Nat
  | [] => v
  | b :: q => foldv (v * 256 + b.toNat) q
theorem foldv_lt : ∀ (q : List Int) (v m : Nat), isBytes q → v < m → foldv v q < m * 256 ^ q.length
  | [], v, m, _, h => by simpa [foldv] using h
  | b :: q, v, m, hq, h => by
    have hb := hq b List.mem_cons_self
    have := foldv_lt q (v * 256 + b.toNat) (m * 256) (fun z hz => hq z (List.mem_cons_of_mem _ hz)) (by omega)
    rw [foldv, List.length_cons, Nat.pow_succ]
    rwa [Nat.mul_assoc, Nat.mul_comm 256] at this
theorem foldv_tl (n : Nat) : ∀ m, foldv (n / 256 ^ m) (tl n m) = n
  | 0 => by simp [tl, foldv]
  | m + 1 => by
    rw [tl, foldv]
    have e : n / 256 ^ (m + 1) * 256 + ((n / 256 ^ m % 256 : Nat) : Int).toNat = n / 256 ^ m := by
      rw [Nat.pow_succ, ← Nat.div_div_eq_div_mul]
      omega
    rw [e, foldv_tl n m]
theorem tl_foldv : ∀ (q : List Int) (v : Nat), isBytes q → tl (foldv v q) q.length = q ∧ foldv v q / 256 ^ q.length = v
  | [], v, _ => by simp [tl, foldv]
  | b :: q, v, hq => by
    have hb := hq b List.mem_cons_self
    obtain ⟨h1, h2⟩ := tl_foldv q (v * 256 + b.toNat) (fun z hz => hq z (List.mem_cons_of_mem _ hz))
    rw [foldv, List.length_cons, tl, h1, h2, Nat.pow_succ, ← Nat.div_div_eq_div_mul, h2]
    refine ⟨?_, by omega⟩
    have : (((v * 256 + b.toNat) % 256 : Nat) : Int) = b := by omega
    rw [this]
theorem or_join (x : Nat) (b : Int) (hx : x < 72057594037927936) (h0 : 0 ≤ b) (h1 : b < 256) : Go.bits .or .u64 (IntKind.u64.wrap ((x : Int) * 256)) (IntKind.u64.wrap b) = ((x * 256 + b.toNat : Nat) : Int) := by
  have e1 : IntKind.u64.wrap ((x : Int) * 256) = ((x * 256 : Nat) : Int) := by
    rw [wr64]; omega
  have e2 : IntKind.u64.wrap b = ((b.toNat : Nat) : Int) := by
    rw [wr64]; omega
  rw [e1, e2, u64_or_nat _ _ (by omega) (by omega), nat_join 8 (x * 256) b.toNat (by omega) (by omega)]
theorem rd_drop (q : List Int) (i : Nat) (hi : i < q.length) : q.drop i = rd q i :: q.drop (i + 1) := by
  rw [List.drop_eq_getElem_cons hi]
  congr 1
  unfold rd
  simp [List.getD_eq_getElem?_getD, List.getElem?_eq_getElem hi]
theorem get_loop (q : List Int) (hq : isBytes q) (hl : q.length ≤ 8) (K : Int) (d : Nat) : ∀ (i v k : Nat), i + d = q.length → v < 256 ^ (8 - d) → d + 12 < k →
    ∃ s, Takes s (foldv v (q.drop i)) ∧ coin_Get.l0 k K (v : Int) q (q.length : Int) (i : Int) = if (s : Int) = K then some (((foldv v (q.drop i) : Nat) : Int), K, 0) else some (0, 0, 4) := by
  induction d with
  | zero =>
    intro i v k hi hv hk
    obtain ⟨k, rfl⟩ : ∃ m, k = m + 12 := ⟨k - 12, by omega⟩
    have e : q.drop i = [] := List.drop_eq_nil_of_le (by omega)
    obtain ⟨s, hs, hz, _⟩ := put_is k v (by have : 256 ^ (8 - 0) = 18446744073709551616 := rfl; omega)
    refine ⟨s, by rw [e]; exact hs, ?_⟩
    rw [coin_Get.l0, if_neg (by omega), hz, Option.bind_some, e]
    rfl
  | succ d ih =>
    intro i v k hi hv hk
    obtain ⟨k, rfl⟩ : ∃ m, k = m + 1 := ⟨k - 1, by omega⟩
    have hb := hq (rd q i) (by
      have := rd_drop q i (by omega)
      have h : rd q i ∈ q.drop i := by rw [this]; exact List.mem_cons_self
      exact List.mem_of_mem_drop h)
    have hp : 256 ^ (8 - (d + 1)) ≤ 256 ^ 7 := Nat.pow_le_pow_right (by omega) (by omega)
    have hp2 : 256 ^ 7 = 72057594037927936 := rfl
    have e1 : wrap64 ((i : Int) + 1) = ((i + 1 : Nat) : Int) := by unfold wrap64; omega
    have hv' : v * 256 + (rd q i).toNat < 256 ^ (8 - d) := by
      rw [show 8 - d = (8 - (d + 1)) + 1 by omega, Nat.pow_succ]
      omega
    obtain ⟨s, hs, h⟩ := ih (i + 1) (v * 256 + (rd q i).toNat) k (by omega) hv' (by omega)
    refine ⟨s, ?_, ?_⟩
    · rw [rd_drop q i (by omega), foldv]; exact hs
    · rw [coin_Get.l0, if_pos (by omega), if_pos (by omega), if_pos (by omega), or_join v _ (by omega) hb.1 hb.2, e1, h, rd_drop q i (by omega), foldv]
/-- what is ahead of bytes whose first one is b -/
theorem get_is (k : Nat) (b : Nat) (q : List Int) (hb : b < 256) (hq : isBytes q) (hl : q.length < 140737488355328) : ∃ K h : Nat, 1 ≤ K ∧ K ≤ 9 ∧ (K = 9 → b = 255 ∧ h = 0) ∧ (K ≤ 8 → h < 2 ^ (8 - K) ∧ b = 256 - 2 ^ (9 - K) + h) ∧
    ((q.length + 1 < K ∧ coin_Get.f (k + 25) ((b : Int) :: q) = some (0, 0, 5)) ∨
      (K ≤ q.length + 1 ∧ ∃ s, Takes s (foldv h (q.take (K - 1))) ∧ coin_Get.f (k + 25) ((b : Int) :: q) = if s = K then some (((foldv h (q.take (K - 1)) : Nat) : Int), (K : Int), 0) else some (0, 0, 4))) := by
  obtain ⟨K, h1, h9, hz, hk9, hk8⟩ := lz_is b hb
  have r0 : rd ((b : Int) :: q) 0 = (b : Int) := rfl
  have e1 : wrap64 ((K : Int) - 1 + 1) = (K : Int) := by unfold wrap64; omega
  have hlen : ((((b : Int) :: q).length : Nat) : Int) = ((q.length + 1 : Nat) : Int) := rfl
  have tail : ∀ h : Nat, h < 256 ^ (8 - (K - 1)) → K ≤ q.length + 1 → ∃ s, Takes s (foldv h (q.take (K - 1))) ∧ coin_Get.j0 (k + 25) ((b : Int) :: q) (K : Int) (h : Int) = if s = K then some (((foldv h (q.take (K - 1)) : Nat) : Int), (K : Int), 0) else some (0, 0, 4) := by
    intro h hh hK
    have ed : ((((b : Int) :: q).take ((K : Nat) : Int).toNat).drop 1) = q.take (K - 1) := by
      rw [Int.toNat_natCast]
      obtain ⟨K, rfl⟩ : ∃ m, K = m + 1 := ⟨K - 1, by omega⟩
      rfl
    have ll : (q.take (K - 1)).length = K - 1 := by rw [List.length_take]; omega
    obtain ⟨s, hs, h2⟩ := get_loop (q.take (K - 1)) (fun z hz => hq z (List.mem_of_mem_take hz)) (by omega) (K : Int) (K - 1) 0 h (k + 24) (by omega) hh (by omega)
    refine ⟨s, by simpa using hs, ?_⟩
    have h2' : coin_Get.l0 (k + 24) (K : Int) (h : Int) (q.take (K - 1)) ((q.take (K - 1)).length : Int) 0 = if (s : Int) = (K : Int) then some (((foldv h ((q.take (K - 1)).drop 0) : Nat) : Int), (K : Int), 0) else some (0, 0, 4) := h2
    rw [coin_Get.j0, if_pos (by omega), if_pos (by omega), ed, h2', List.drop_zero]
    by_cases e : s = K
    · rw [if_pos (by omega), if_pos e]
    · rw [if_neg (by omega), if_neg e]
  by_cases h8 : K ≤ 8
  · obtain ⟨h, he, hh, hbe⟩ := hk8 h8
    refine ⟨K, h, h1, h9, fun e => by omega, fun _ => ⟨hh, hbe⟩, ?_⟩
    by_cases hK : q.length + 1 < K
    · refine .inl ⟨hK, ?_⟩
      unfold coin_Get.f
      rw [if_neg (by omega), if_pos (by omega), r0, hz, Option.bind_some, e1, if_pos (by omega)]
    · refine .inr ⟨by omega, ?_⟩
      have hh2 : h < 256 ^ (8 - (K - 1)) := by
        have a : 2 ^ (8 - K) ≤ 2 ^ (8 * (8 - (K - 1))) := Nat.pow_le_pow_right (by omega) (by omega)
        rw [show (256 : Nat) = 2 ^ 8 from rfl, ← Nat.pow_mul]
        omega
      have hh3 : 2 ^ (8 - K) ≤ 2 ^ 8 := Nat.pow_le_pow_right (by omega) (by omega)
      obtain ⟨s, hs, h2⟩ := tail h hh2 (by omega)
      refine ⟨s, hs, ?_⟩
      unfold coin_Get.f
      rw [if_neg (by omega), if_pos (by omega), r0, hz, Option.bind_some, e1, if_neg (by omega), if_pos (by omega), if_pos (by omega), he, wr64, show ((h : Int) % 18446744073709551616) = (h : Int) by omega, h2]
  · have hK9 : K = 9 := by omega
    refine ⟨K, 0, h1, h9, fun e => ⟨hk9 e, rfl⟩, fun e => by omega, ?_⟩
    by_cases hK : q.length + 1 < K
    · refine .inl ⟨hK, ?_⟩
      unfold coin_Get.f
      rw [if_neg (by omega), if_pos (by omega), r0, hz, Option.bind_some, e1, if_pos (by omega)]
    · refine .inr ⟨by omega, ?_⟩
      obtain ⟨s, hs, h2⟩ := tail 0 (Nat.pow_pos (by omega)) (by omega)
      refine ⟨s, hs, ?_⟩
      unfold coin_Get.f
      rw [if_neg (by omega), if_pos (by omega), r0, hz, Option.bind_some, e1, if_neg (by omega), if_neg (by omega)]
      exact h2
/-- a number's bytes, and others behind them, tell the number -/
theorem get_put (k s n : Nat) (hs : Takes s n) (hn : n < 18446744073709551616) (rest : List Int) (hr : isBytes rest) (hl : rest.length < 1000000) : coin_Get.f (k + 25) (cb s n ++ rest) = some ((n : Int), (s : Int), 0) := by
  have hb := hd1_bytes s n hs
  obtain ⟨b, hbe⟩ := Int.eq_ofNat_of_zero_le hb.1
  have hbn : b < 256 := by omega
  have el : cb s n ++ rest = (b : Int) :: (tl n (s - 1) ++ rest) := by
    rw [cb, hbe]; rfl
  have hq : isBytes (tl n (s - 1) ++ rest) := by
    intro z hz
    rcases List.mem_append.1 hz with hz | hz
    · exact tl_bytes n _ z hz
    · exact hr z hz
  obtain ⟨h1, h9, hs'⟩ := hs
  obtain ⟨K, h, g1, g9, gk9, gk8, hg⟩ := get_is k b (tl n (s - 1) ++ rest) hbn hq (by rw [List.length_append, tl_length]; omega)
  have hKs : K = s ∧ h = n / 256 ^ (s - 1) := by
    unfold hd1 at hbe
    by_cases e9 : s = 9
    · rw [if_pos e9] at hbe
      have : K = 9 := by
        rcases Nat.lt_or_ge K 9 with hlt | hge
        · obtain ⟨a1, a2⟩ := gk8 (by omega)
          have : 2 ^ (9 - K) = 2 * 2 ^ (8 - K) := by rw [show 9 - K = (8 - K) + 1 by omega, Nat.pow_succ]; omega
          have : 2 ^ (8 - K) ≤ 2 ^ 7 := Nat.pow_le_pow_right (by omega) (by omega)
          omega
        · omega
      subst e9
      refine ⟨this, ?_⟩
      rw [(gk9 this).2, Nat.div_eq_of_lt]
      exact hn
    · rw [if_neg e9] at hbe
      have hh := high_small s n h1 (by omega) ((hs' s h1 (by omega)).1 (Nat.le_refl _))
      generalize n / 256 ^ (s - 1) = x at hbe hh ⊢
      have p1 : 2 ^ (9 - s) = 2 * 2 ^ (8 - s) := by rw [show 9 - s = (8 - s) + 1 by omega, Nat.pow_succ]; omega
      have p2 : 2 ^ (8 - s) ≤ 2 ^ 7 := Nat.pow_le_pow_right (by omega) (by omega)
      have p3 : 0 < 2 ^ (8 - s) := Nat.two_pow_pos _
      rcases Nat.lt_or_ge K 9 with hlt | hge
      · obtain ⟨a1, a2⟩ := gk8 (by omega)
        have q1 : 2 ^ (9 - K) = 2 * 2 ^ (8 - K) := by rw [show 9 - K = (8 - K) + 1 by omega, Nat.pow_succ]; omega
        have q2 : 2 ^ (8 - K) ≤ 2 ^ 7 := Nat.pow_le_pow_right (by omega) (by omega)
        rcases Nat.lt_trichotomy K s with h | h | h
        · have : 2 ^ (9 - s) ≤ 2 ^ (8 - K) := Nat.pow_le_pow_right (by omega) (by omega)
          omega
        · subst h
          omega
        · have : 2 ^ (9 - K) ≤ 2 ^ (8 - s) := Nat.pow_le_pow_right (by omega) (by omega)
          omega
      · have := (gk9 (by omega)).1
        omega
  obtain ⟨rfl, rfl⟩ := hKs
  have et : (tl n (K - 1) ++ rest).take (K - 1) = tl n (K - 1) := by
    rw [List.take_append_of_le_length (by rw [tl_length]; exact Nat.le_refl _), List.take_of_length_le (by rw [tl_length]; exact Nat.le_refl _)]
  rw [et, foldv_tl] at hg
  rw [el]
  rcases hg with ⟨hg, _⟩ | ⟨_, t, ht, hg⟩
  · rw [List.length_append, tl_length] at hg
    omega
  · rw [hg, if_pos (takes_one t K n ht ⟨h1, h9, hs'⟩)]
theorem isBytes_append {p q : List Int} (hp : isBytes p) (hq : isBytes q) : isBytes (p ++ q) := fun x hx => (List.mem_append.1 hx).elim (hp x) (hq x)
theorem cb_length (s n : Nat) (h : Takes s n) : (cb s n).length = s := by
  unfold cb
  rw [List.length_cons, tl_length]
  have := h.1
  omega
/-- how many bits are left behind the first n -/
def lo (n : Nat) : Nat := 2 ^ (32 - n)
/-- the first n bits -/
def hi (a n : Nat) : Nat := a / lo n
theorem tk_put (s n : Nat) (m : Int) (hs : Takes s n) (hn : n < 18446744073709551616) (hm : (n : Int) ≤ m) (rest : List Int) (hr : isBytes rest) (hl : rest.length < 1000000) (k : Nat) :
    coin_Purse_Take.f (k + 25) (cb s n ++ rest) 0 m = some ((n : Int), rest, 0) := by
  have hc : (cb s n).length = s := by
    have := hs.1
    rw [cb, List.length_cons, tl_length]
    omega
  have hd : (cb s n ++ rest).drop s = rest := by
    have := List.drop_left (l₁ := cb s n) (l₂ := rest)
    rwa [hc] at this
  unfold coin_Purse_Take.f
  rw [if_pos rfl, get_put k s n hs hn rest hr hl, Option.bind_some]
  show (if (0 : Int) = 0 then (if (n : Int) > m then some (0, cb s n ++ rest, 6) else (if 0 ≤ (s : Int) then (if (s : Int) ≤ ((cb s n ++ rest).length : Int) then some ((n : Int), (cb s n ++ rest).drop (s : Int).toNat, 0) else none) else none)) else some (0, cb s n ++ rest, 0)) = _
  rw [if_pos rfl, if_neg (by omega), if_pos (by omega), if_pos (by rw [List.length_append, hc]; omega), Int.toNat_natCast, hd]
/-- of any bytes: the number ahead, or none -/
theorem get_any (k : Nat) (b : List Int) (hb : isBytes b) (hl : b.length < 1000000) :
    (∃ (s n : Nat) (rest : List Int), Takes s n ∧ n < 18446744073709551616 ∧ b = cb s n ++ rest ∧ coin_Get.f (k + 25) b = some ((n : Int), (s : Int), 0)) ∨
    (∃ e : Int, (e = 4 ∨ e = 5) ∧ coin_Get.f (k + 25) b = some (0, 0, e)) := by
  match b, hb, hl with
  | [], _, _ =>
    refine .inr ⟨5, .inr rfl, ?_⟩
    unfold coin_Get.f
    rw [if_pos (by simp)]
  | x :: q, hb, hl =>
    have hx := hb x List.mem_cons_self
    have hq : isBytes q := fun z hz => hb z (List.mem_cons_of_mem _ hz)
    obtain ⟨c, rfl⟩ := Int.eq_ofNat_of_zero_le hx.1
    have hl' : q.length < 1000000 := by simp at hl; omega
    obtain ⟨K, h, h1, h9, hk9, hk8, hcase⟩ := get_is k c q (by omega) hq (by omega)
    rcases hcase with ⟨hs, hg⟩ | ⟨hle, s, hT, hg⟩
    · exact .inr ⟨5, .inr rfl, hg⟩
    · by_cases hsK : s = K
      · subst hsK
        rw [if_pos rfl] at hg
        have hql : (q.take (s - 1)).length = s - 1 := by rw [List.length_take]; omega
        have hqb : isBytes (q.take (s - 1)) := fun z hz => hq z (List.mem_of_mem_take hz)
        have htl := tl_foldv (q.take (s - 1)) h hqb
        rw [hql] at htl
        refine .inl ⟨s, foldv h (q.take (s - 1)), q.drop (s - 1), hT, ?_, ?_, hg⟩
        · by_cases hs9 : s = 9
          · obtain ⟨_, h0⟩ := hk9 hs9
            have := foldv_lt (q.take (s - 1)) h 1 hqb (by omega)
            rw [hql, hs9] at this
            subst hs9
            omega
          · obtain ⟨hh, _⟩ := hk8 (by omega)
            have := foldv_lt (q.take (s - 1)) h (2 ^ (8 - s)) hqb hh
            rw [hql] at this
            have e : 2 ^ (8 - s) * 256 ^ (s - 1) ≤ 2 ^ 64 := by
              rw [show (256 : Nat) = 2 ^ 8 from rfl, ← Nat.pow_mul, ← Nat.pow_add]
              exact Nat.pow_le_pow_right (by omega) (by omega)
            exact Nat.lt_of_lt_of_le this e
        · unfold cb
          rw [htl.1, List.cons_append, List.take_append_drop]
          refine congrArg (fun z => z :: q) ?_
          unfold hd1
          by_cases hs9 : s = 9
          · rw [if_pos hs9, (hk9 hs9).1]; rfl
          · rw [if_neg hs9, htl.2, ← (hk8 (by omega)).2]
      · rw [if_neg hsK] at hg
        exact .inr ⟨4, .inl rfl, hg⟩
def szN (n : Nat) : Nat := if n < 128 then 1 else if n < 16384 then 2 else if n < 2097152 then 3 else if n < 268435456 then 4 else if n < 34359738368 then 5 else if n < 4398046511104 then 6 else if n < 562949953421312 then 7 else if n < 72057594037927936 then 8 else 9
theorem szN_bd (n : Nat) : 1 ≤ szN n ∧ szN n ≤ 9 := by
  unfold szN
  repeat' split
  all_goals omega
theorem takes_sz (n : Nat) : Takes (szN n) n := by
  refine ⟨(szN_bd n).1, (szN_bd n).2, ?_⟩
  intro i h1 h8
  have hi : i = 1 ∨ i = 2 ∨ i = 3 ∨ i = 4 ∨ i = 5 ∨ i = 6 ∨ i = 7 ∨ i = 8 := by omega
  have p1 : (2 : Nat) ^ (7 * 1) = 128 := rfl
  have p2 : (2 : Nat) ^ (7 * 2) = 16384 := rfl
  have p3 : (2 : Nat) ^ (7 * 3) = 2097152 := rfl
  have p4 : (2 : Nat) ^ (7 * 4) = 268435456 := rfl
  have p5 : (2 : Nat) ^ (7 * 5) = 34359738368 := rfl
  have p6 : (2 : Nat) ^ (7 * 6) = 4398046511104 := rfl
  have p7 : (2 : Nat) ^ (7 * 7) = 562949953421312 := rfl
  have p8 : (2 : Nat) ^ (7 * 8) = 72057594037927936 := rfl
  unfold szN
  rcases hi with rfl | rfl | rfl | rfl | rfl | rfl | rfl | rfl
  · rw [p1]; repeat' split
    all_goals omega
  · rw [p2]; repeat' split
    all_goals omega
  · rw [p3]; repeat' split
    all_goals omega
  · rw [p4]; repeat' split
    all_goals omega
  · rw [p5]; repeat' split
    all_goals omega
  · rw [p6]; repeat' split
    all_goals omega
  · rw [p7]; repeat' split
    all_goals omega
  · rw [p8]; repeat' split
    all_goals omega
/-- a number's bytes -/
def C (n : Nat) : List Int := cb (szN n) n
theorem C_len (n : Nat) : (C n).length = szN n := by
  have := (szN_bd n).1
  rw [C, cb, List.length_cons, tl_length]
  omega
theorem C_le (n : Nat) : 1 ≤ (C n).length ∧ (C n).length ≤ 9 := by rw [C_len]; exact szN_bd n
theorem C_bytes (n : Nat) : isBytes (C n) := cb_bytes _ _ (takes_sz n)
theorem put_C (K n : Nat) (hK : 11 ≤ K) (hn : n < 18446744073709551616) (p : List Int) (hp : p.length + 9 < 140737488355328) : coin_Put.f K p (n : Int) = some (p ++ C n) := by
  obtain ⟨k, rfl⟩ : ∃ k, K = k + 11 := ⟨K - 11, by omega⟩
  obtain ⟨s, hs, _, hput⟩ := put_is k n hn
  rw [hput p hp, C, takes_one s (szN n) n hs (takes_sz n)]
theorem put_i (K : Nat) (a : Int) (hK : 11 ≤ K) (ha : 0 ≤ a ∧ a < 18446744073709551616) (p : List Int) (hp : p.length < 1000000000) : coin_Put.f K p a = some (p ++ C a.toNat) := by
  have := put_C K a.toNat hK (by omega) p (by omega)
  rwa [show ((a.toNat : Nat) : Int) = a by omega] at this
theorem take_C (K n : Nat) (m : Int) (hK : 25 ≤ K) (hn : n < 18446744073709551616) (hm : (n : Int) ≤ m) (rest : List Int) (hr : isBytes rest) (hl : rest.length < 1000000) : coin_Purse_Take.f K (C n ++ rest) 0 m = some ((n : Int), rest, 0) := by
  obtain ⟨k, rfl⟩ : ∃ k, K = k + 25 := ⟨K - 25, by omega⟩
  exact tk_put (szN n) n m (takes_sz n) hn hm rest hr hl k
theorem take_i (K : Nat) (a m : Int) (hK : 25 ≤ K) (ha : 0 ≤ a ∧ a < 18446744073709551616) (hm : a ≤ m) (rest : List Int) (hr : isBytes rest) (hl : rest.length < 1000000) : coin_Purse_Take.f K (C a.toNat ++ rest) 0 m = some (a, rest, 0) := by
  have := take_C K a.toNat m hK (by omega) (by omega) rest hr hl
  rwa [show ((a.toNat : Nat) : Int) = a by omega] at this
theorem take_inv (K : Nat) (s : List Int) (e m : Int) (hs : isBytes s) (hl : s.length < 1000000) (hm : 0 ≤ m) (hK : 25 ≤ K) : ∃ r s' e', coin_Purse_Take.f K s e m = some (r, s', e') ∧ 0 ≤ r ∧ r ≤ m ∧ isBytes s' ∧ s'.length ≤ s.length ∧ (e' = 0 → e = 0 ∧ s = C r.toNat ++ s') := by
  obtain ⟨k, rfl⟩ : ∃ k, K = k + 25 := ⟨K - 25, by omega⟩
  unfold coin_Purse_Take.f
  by_cases he : e = 0
  · subst he
    rw [if_pos rfl]
    rcases get_any k s hs hl with ⟨z, n, rest, hT, hn, hb, hg⟩ | ⟨e', he', hg⟩
    · have hc : (cb z n).length = z := cb_length z n hT
      have hd : s.drop z = rest := by
        have := List.drop_left (l₁ := cb z n) (l₂ := rest)
        rw [hc] at this
        rw [hb, this]
      have hsl : s.length = z + rest.length := by rw [hb, List.length_append, hc]
      have hrb : isBytes rest := fun x hx => hs x (by rw [hb]; exact List.mem_append_right _ hx)
      have hC : C ((n : Int)).toNat = cb z n := by
        rw [Int.toNat_natCast]
        unfold C
        rw [takes_one (szN n) z n (takes_sz n) hT]
      rw [hg, Option.bind_some]
      dsimp only
      rw [if_pos rfl]
      by_cases c : (n : Int) > m
      · rw [if_pos c]; exact ⟨0, s, 6, rfl, by omega, hm, hs, by omega, fun h => absurd h (by decide)⟩
      · rw [if_neg c, if_pos (by omega), if_pos (by omega), Int.toNat_natCast, hd]
        exact ⟨n, rest, 0, rfl, by omega, by omega, hrb, by omega, fun _ => ⟨rfl, by rw [hC]; exact hb⟩⟩
    · rw [hg, Option.bind_some]
      dsimp only
      rw [if_neg (by omega)]
      exact ⟨0, s, e', rfl, by omega, hm, hs, by omega, fun h => by omega⟩
  · rw [if_neg he]
    exact ⟨0, s, e, rfl, by omega, hm, hs, by omega, fun h => absurd h he⟩
theorem refbits_loop (d : Nat) : ∀ (n k : Nat) (c : Nat), n < 2 ^ d → d < k → c + d ≤ 1000 → d ≤ 64 → ∃ L : Nat, ga_bits.l0 k (n : Int) (c : Int) = some ((c + L : Nat) : Int) ∧ L ≤ d ∧ ∀ j, (n < 2 ^ j ↔ L ≤ j) := by
  induction d with
  | zero =>
    intro n k c hn hk _ _
    obtain ⟨k, rfl⟩ : ∃ m, k = m + 1 := ⟨k - 1, by omega⟩
    have h0 : n = 0 := by omega
    subst h0
    refine ⟨0, ?_, by omega, fun j => ?_⟩
    · rw [ga_bits.l0, if_neg (by omega)]; rfl
    · have := Nat.two_pow_pos j
      omega
  | succ d ih =>
    intro n k c hn hk hc h64
    obtain ⟨k, rfl⟩ : ∃ m, k = m + 1 := ⟨k - 1, by omega⟩
    have hp : 2 ^ (d + 1) ≤ 2 ^ 64 := Nat.pow_le_pow_right (by omega) (by omega)
    by_cases h0 : n = 0
    · subst h0
      refine ⟨0, ?_, by omega, fun j => ?_⟩
      · rw [ga_bits.l0, if_neg (by omega)]; rfl
      · have := Nat.two_pow_pos j
        omega
    · obtain ⟨L, hL, hd, hj⟩ := ih (n / 2) k (c + 1) (by rw [Nat.pow_succ] at hn; omega) (by omega) (by omega) (by omega)
      have e1 : IntKind.u64.wrap (Int.tdiv (n : Int) 2) = ((n / 2 : Nat) : Int) := by
        rw [Int.tdiv_eq_ediv_of_nonneg (by omega), wr64]; omega
      have e2 : wrap64 ((c : Int) + 1) = ((c + 1 : Nat) : Int) := by unfold wrap64; omega
      refine ⟨L + 1, ?_, by omega, fun j => ?_⟩
      · rw [ga_bits.l0, if_pos (by omega), e1, e2, hL]
        refine congrArg some ?_
        omega
      · cases j with
        | zero => omega
        | succ j =>
          have := hj j
          rw [Nat.pow_succ]
          omega
theorem refbits_is (n k : Nat) (hn : n < 18446744073709551616) (hk : 64 < k) : ∃ L : Nat, ga_bits.f k (n : Int) = some (L : Int) ∧ L ≤ 64 ∧ ∀ j, (n < 2 ^ j ↔ L ≤ j) := by
  obtain ⟨L, hL, h⟩ := refbits_loop 64 n k 0 (by have : 2 ^ 64 = 18446744073709551616 := rfl; omega) hk (by omega) (by omega)
  refine ⟨L, ?_, h⟩
  unfold ga_bits.f
  rw [show (0 : Int) = ((0 : Nat) : Int) from rfl, hL]
  refine congrArg some ?_
  omega
theorem ref_up (s n : Nat) (hs : Takes s n) (hn : n < 18446744073709551616) (d : Nat) : ∀ (i k : Nat), 1 ≤ i → i + d = s → ga_Coin.l0 (k + 66 + d + 1) (n : Int) (i : Int) = ga_Coin.j1 (k + 66) (n : Int) (s : Int) := by
  obtain ⟨h1, h9, hs⟩ := hs
  induction d with
  | zero =>
    intro i k hi hd
    have e : i = s := by omega
    subst e
    rw [ga_Coin.l0]
    by_cases h : i < 9
    · obtain ⟨L, hL, hl, hj⟩ := refbits_is n (k + 66 + 0) hn (by omega)
      have e7 : wrap64 (7 * (i : Int)) = ((7 * i : Nat) : Int) := by unfold wrap64; omega
      have := (hj (7 * i)).1 ((hs i h1 (by omega)).1 (Nat.le_refl _))
      rw [if_pos (by omega), hL, Option.bind_some, e7, if_neg (by omega)]
    · rw [if_neg (by omega)]
  | succ d ih =>
    intro i k hi hd
    obtain ⟨L, hL, hl, hj⟩ := refbits_is n (k + 66 + (d + 1)) hn (by omega)
    have e7 : wrap64 (7 * (i : Int)) = ((7 * i : Nat) : Int) := by unfold wrap64; omega
    have e1 : wrap64 ((i : Int) + 1) = ((i + 1 : Nat) : Int) := by unfold wrap64; omega
    have h3 : ¬ n < 2 ^ (7 * i) := fun h => by have := (hs i hi (by omega)).2 h; omega
    have := hj (7 * i)
    rw [ga_Coin.l0, if_pos (by omega), hL, Option.bind_some, e7, if_pos (by omega), e1]
    exact ih (i + 1) k (by omega) (by omega)
theorem ref_nine (n : Nat) : ∀ i : Nat, i ≤ 8 → ∀ (k : Nat) (acc : List Int), i < k → acc.length + i < 140737488355328 → ga_Coin.l1 k (n : Int) acc ((i : Int) - 1) = some (acc ++ tl n i) := by
  intro i
  induction i with
  | zero =>
    intro _ k acc hk _
    obtain ⟨k, rfl⟩ : ∃ m, k = m + 1 := ⟨k - 1, by omega⟩
    rw [ga_Coin.l1, if_neg (by omega), tl, List.append_nil]
  | succ i ih =>
    intro hi k acc hk hl
    obtain ⟨k, rfl⟩ : ∃ m, k = m + 1 := ⟨k - 1, by omega⟩
    have e1 : wrap64 (8 * (((i + 1 : Nat) : Int) - 1)) = ((8 * i : Nat) : Int) := by unfold wrap64; omega
    have e2 : wrap64 (((i + 1 : Nat) : Int) - 1 - 1) = (i : Int) - 1 := by unfold wrap64; omega
    rw [ga_Coin.l1, if_pos (by omega), e1, e2, if_pos (by omega), if_pos (by omega), shr_is n i (by omega)]
    rw [ih (by omega) k (acc ++ [((n / 256 ^ i % 256 : Nat) : Int)]) (by omega) (by simp; omega), tl, List.append_assoc]
    rfl
theorem tl_last (n : Nat) : ∀ i, tl n (i + 1) = tl (n / 256) i ++ [((n % 256 : Nat) : Int)]
  | 0 => by simp [tl]
  | i + 1 => by
    rw [tl, tl_last n i, tl, Nat.div_div_eq_div_mul, Nat.pow_succ, Nat.mul_comm]
    rfl
theorem ref_fill (s : Nat) (hs : s ≤ 8) : ∀ (i m k : Nat) (out : List Int), i ≤ s → out.length = s → m < 18446744073709551616 → ga_Coin.l2 (k + i + 1) (m : Int) (s : Int) out ((i : Int) - 1) = ga_Coin.l3 k (s : Int) (tl m i ++ out.drop i) 128 1 := by
  intro i
  induction i with
  | zero =>
    intro m k out _ _ _
    rw [ga_Coin.l2, if_neg (by omega), tl, List.nil_append, List.drop_zero]
  | succ i ih =>
    intro m k out hi hl hm
    have e1 : IntKind.u64.wrap (Int.tdiv (m : Int) 256) = ((m / 256 : Nat) : Int) := by
      rw [Int.tdiv_eq_ediv_of_nonneg (by omega), wr64]; omega
    have e2 : wrap64 (((i + 1 : Nat) : Int) - 1 - 1) = (i : Int) - 1 := by unfold wrap64; omega
    have e3 : (Int.tmod (m : Int) 256) % 256 = ((m % 256 : Nat) : Int) := by
      rw [Int.tmod_eq_emod_of_nonneg (by omega)]; omega
    have e4 : (((i + 1 : Nat) : Int) - 1).toNat = i := by omega
    rw [show k + (i + 1) + 1 = (k + i + 1) + 1 by omega, ga_Coin.l2, if_pos (by omega), if_pos (by omega), if_pos (by omega), e1, e2, e3, e4, ih (m / 256) k _ (by omega) (by rw [List.length_set]; exact hl) (by omega), tl_last, List.append_assoc]
    congr 2
    rw [List.drop_eq_getElem_cons (by rw [List.length_set]; omega), List.getElem_set_self]
    have : (out.set i ((m % 256 : Nat) : Int)).drop (i + 1) = out.drop (i + 1) := by
      rw [List.drop_set_of_lt (by omega)]
    rw [this]
    rfl
theorem ref_lead (s : Nat) (hs : s ≤ 8) (rest : List Int) (d : Nat) : ∀ (j k h : Nat), 1 ≤ j → j + d = s → h + (2 ^ (9 - j) - 2 ^ (9 - s)) < 256 →
    ga_Coin.l3 (k + d + 1) (s : Int) ((h : Int) :: rest) ((2 ^ (8 - j) : Nat) : Int) (j : Int) = some (((h + (2 ^ (9 - j) - 2 ^ (9 - s)) : Nat) : Int) :: rest) := by
  induction d with
  | zero =>
    intro j k h hj hd hh
    have e : j = s := by omega
    subst e
    rw [ga_Coin.l3, if_neg (by omega), Nat.sub_self, Nat.add_zero]
  | succ d ih =>
    intro j k h hj hd hh
    have hjs : (j : Int) < (s : Int) := by omega
    have hkd : k + (d + 1) + 1 = (k + d + 1) + 1 := by omega
    have hjd : j + 1 + d = s := by omega
    have p1 : 2 ^ (9 - j) = 2 * 2 ^ (8 - j) := by rw [show 9 - j = (8 - j) + 1 by omega, Nat.pow_succ]; omega
    have p2 : 2 ^ (9 - s) ≤ 2 ^ (8 - j) := Nat.pow_le_pow_right (by omega) (by omega)
    have p3 : 2 ^ (8 - j) = 2 * 2 ^ (8 - (j + 1)) := by rw [show 8 - j = (8 - (j + 1)) + 1 by omega, Nat.pow_succ]; omega
    have p4 : 9 - (j + 1) = 8 - j := by omega
    have p5 : 2 ^ (8 - j) ≤ 2 ^ 8 := Nat.pow_le_pow_right (by omega) (by omega)
    have hb : h + 2 ^ (8 - j) < 256 := by
      clear ih
      omega
    have e3 : ((h : Int) + ((2 ^ (8 - j) : Nat) : Int)) % 256 = ((h + 2 ^ (8 - j) : Nat) : Int) := by
      clear ih hh p1 p2 p3 p5
      generalize 2 ^ (8 - j) = z at hb ⊢
      omega
    have e1 : wrap64 ((j : Int) + 1) = ((j + 1 : Nat) : Int) := by unfold wrap64; omega
    have e2 : wrap64 (Int.tdiv ((2 ^ (8 - j) : Nat) : Int) 2) = ((2 ^ (8 - (j + 1)) : Nat) : Int) := by
      rw [Int.tdiv_eq_ediv_of_nonneg (by omega)]
      unfold wrap64
      omega
    have r0 : rd ((h : Int) :: rest) 0 = (h : Int) := rfl
    have hl : (((((h : Int) :: rest).length : Nat)) : Int) = ((rest.length + 1 : Nat) : Int) := rfl
    have hl0 : (0 : Int) < (((((h : Int) :: rest).length : Nat)) : Int) := by rw [hl]; omega
    have hset : ((h : Int) :: rest).set (0 : Int).toNat ((h + 2 ^ (8 - j) : Nat) : Int) = ((h + 2 ^ (8 - j) : Nat) : Int) :: rest := rfl
    have hlast : h + 2 ^ (8 - j) + (2 ^ (8 - j) - 2 ^ (9 - s)) = h + (2 ^ (9 - j) - 2 ^ (9 - s)) := by
      clear ih e1 e2 e3 hset r0 hl hl0
      omega
    have hlt : h + 2 ^ (8 - j) + (2 ^ (9 - (j + 1)) - 2 ^ (9 - s)) < 256 := by
      rw [p4, hlast]; exact hh
    have key := ih (j + 1) k (h + 2 ^ (8 - j)) (Nat.le_add_left 1 j) hjd hlt
    rw [hkd, ga_Coin.l3, if_pos hjs, if_pos hl0, r0, e1, e2, e3, hset, key, p4, hlast]
theorem coin_is (k s n : Nat) (hs : Takes s n) (hn : n < 18446744073709551616) : ga_Coin.f (k + 90) (n : Int) = some (cb s n) := by
  obtain ⟨h1, h9, hs'⟩ := hs
  unfold ga_Coin.f
  rw [show k + 90 = (k + 23 - (s - 1)) + 66 + (s - 1) + 1 by omega, show (1 : Int) = ((1 : Nat) : Int) from rfl, ref_up s n ⟨h1, h9, hs'⟩ hn (s - 1) 1 _ (by omega) (by omega)]
  by_cases h : s = 9
  · rw [show k + 23 - (s - 1) + 66 = (k + 80) + 1 by omega, ga_Coin.j1, if_pos (by omega), show (7 : Int) = ((8 : Nat) : Int) - 1 from rfl, ref_nine n 8 (by omega) _ _ (by omega) (by simp)]
    unfold cb hd1
    rw [if_pos h, h]
    rfl
  · have hh := high_small s n h1 (by omega) ((hs' s h1 (by omega)).1 (Nat.le_refl _))
    have e1 : wrap64 ((s : Int) - 1) = (s : Int) - 1 := by unfold wrap64; omega
    have p1 : 2 ^ (9 - s) = 2 * 2 ^ (8 - s) := by rw [show 9 - s = (8 - s) + 1 by omega, Nat.pow_succ]; omega
    have p2 : 2 ^ (8 - s) ≤ 2 ^ 7 := Nat.pow_le_pow_right (by omega) (by omega)
    have p3 : 0 < 2 ^ (8 - s) := Nat.two_pow_pos _
    have et : tl n s = ((n / 256 ^ (s - 1) : Nat) : Int) :: tl n (s - 1) := by
      obtain ⟨s, rfl⟩ : ∃ m, s = m + 1 := ⟨s - 1, by omega⟩
      rw [tl, Nat.add_sub_cancel] at *
      rw [Nat.mod_eq_of_lt (by omega)]
    obtain ⟨K, hK⟩ : ∃ K, k + 23 - (s - 1) + 66 = (K + (s - 1) + 1) + s + 1 + 1 := ⟨k + 23 - (s - 1) + 66 - (2 * s + 2), by omega⟩
    rw [hK, ga_Coin.j1, if_neg (by omega), if_pos (by omega), if_pos (by omega), e1, Int.toNat_natCast, ref_fill s (by omega) s n _ _ (by omega) (by simp) hn, List.drop_eq_nil_of_le (by simp), List.append_nil, et]
    have := ref_lead s (by omega) (tl n (s - 1)) (s - 1) 1 K (n / 256 ^ (s - 1)) (by omega) (by omega) (by have : 2 ^ (9 - 1) = 256 := rfl; omega)
    rw [show ((2 ^ (8 - 1) : Nat) : Int) = 128 from rfl, show ((1 : Nat) : Int) = 1 from rfl] at this
    rw [this]
    unfold cb hd1
    rw [if_neg h]
    refine congrArg some (congrArg (· :: _) ?_)
    have : 2 ^ (9 - 1) = 256 := rfl
    omega
def Cs (l : List Int) : List Int := l.flatMap (fun x => C x.toNat)
theorem Cs_nil : Cs [] = [] := rfl
theorem Cs_cons (x : Int) (l : List Int) : Cs (x :: l) = C x.toNat ++ Cs l := List.flatMap_cons
theorem Cs_app (l m : List Int) : Cs (l ++ m) = Cs l ++ Cs m := List.flatMap_append
theorem Cs_bytes : ∀ l : List Int, isBytes (Cs l)
  | [] => fun x hx => by simp [Cs] at hx
  | x :: l => by rw [Cs_cons]; exact isBytes_append (C_bytes _) (Cs_bytes l)
theorem Cs_len : ∀ l : List Int, (Cs l).length ≤ 9 * l.length
  | [] => Nat.le_refl _
  | x :: l => by
    have h1 := Cs_len l
    have h2 := (C_le x.toNat).2
    rw [Cs_cons, List.length_append, List.length_cons]
    omega
def u64s (l : List Int) : Prop := ∀ x ∈ l, 0 ≤ x ∧ x < 18446744073709551616
theorem putAll_is (K : Nat) (hK : 11 ≤ K) : ∀ (xs l : List Int), u64s xs → l.length + 9 * xs.length < 1000000000 → table_Table_Encode.putAll K l xs = some (l ++ Cs xs)
  | [], l, _, _ => by rw [table_Table_Encode.putAll, Cs_nil, List.append_nil]
  | x :: xs, l, h, hl => by
    have h2 := (C_le x.toNat).2
    rw [List.length_cons] at hl
    rw [table_Table_Encode.putAll, put_i K x hK (h x List.mem_cons_self) l (by omega), Option.bind_some, putAll_is K hK xs _ (fun y hy => h y (List.mem_cons_of_mem _ hy)) (by rw [List.length_append]; omega), Cs_cons, List.append_assoc]
/-- a row that may be read from bytes -/
def okD (x : S43) : Prop := (0 ≤ x.f0.f0 ∧ x.f0.f0 < 4294967296) ∧ (0 ≤ x.f0.f1 ∧ x.f0.f1 ≤ 32) ∧ prefix_Right.f x.f0.f0 x.f0.f1 = some true ∧ (0 ≤ x.f3.f0 ∧ x.f3.f0 ≤ 65535) ∧ (0 ≤ x.f3.f1 ∧ x.f3.f1 ≤ 65534) ∧ x.f2.f0 = x.f0 ∧ (0 ≤ x.f2.f1 ∧ x.f2.f1 < 16) ∧ (0 ≤ x.f2.f2 ∧ x.f2.f2 ≤ 65534) ∧ (0 ≤ x.f2.f3 ∧ x.f2.f3 ≤ 65535) ∧ (x.f1 = false → x.f2.f1 = 0 ∧ x.f2.f2 = 0 ∧ x.f2.f3 = 0)
theorem okD_R {x : S43} (h : okD x) : table_Table_Encode.okR x := by
  obtain ⟨h1, h2, _, h4, h5, _, h7, h8, h9, _⟩ := h
  exact ⟨by omega, by omega, by omega, by omega, by omega, by omega, by omega⟩
theorem rowNums_len (x : S43) : (table_Table_Encode.rowNums x).length ≤ 7 := by
  unfold table_Table_Encode.rowNums
  split <;> simp
theorem rowNums_u64 {x : S43} (h : table_Table_Encode.okR x) : u64s (table_Table_Encode.rowNums x) := by
  obtain ⟨h1, h2, h3, h4, h5, h6, h7⟩ := h
  intro y hy
  unfold table_Table_Encode.rowNums at hy
  by_cases c : x.f1 = true
  · rw [if_pos c] at hy
    simp only [List.cons_append, List.nil_append, List.mem_cons, List.not_mem_nil, or_false] at hy
    rcases hy with rfl | rfl | rfl | rfl | rfl | rfl | rfl <;> omega
  · rw [if_neg c] at hy
    simp only [List.cons_append, List.nil_append, List.mem_cons, List.not_mem_nil, or_false] at hy
    rcases hy with rfl | rfl | rfl | rfl | rfl <;> omega
theorem flat_len : ∀ l : List S43, (l.flatMap table_Table_Encode.rowNums).length ≤ 7 * l.length
  | [] => Nat.le_refl _
  | x :: l => by
    have h1 := flat_len l
    have h2 := rowNums_len x
    rw [List.flatMap_cons, List.length_append, List.length_cons]
    omega
def okT (T : List S43 × Int × Int) : Prop := rowSrt T.1 ∧ T.1.length ≤ 256 ∧ (∀ x ∈ T.1, okD x) ∧ (0 ≤ T.2.1 ∧ T.2.1 < 18446744073709551616) ∧ (0 ≤ T.2.2 ∧ T.2.2 < 18446744073709551616)
theorem nums_u64 {T : List S43 × Int × Int} (hok : ∀ x ∈ T.1, table_Table_Encode.okR x) (hl : T.1.length ≤ 256) (h1 : 0 ≤ T.2.1 ∧ T.2.1 < 18446744073709551616) (h2 : 0 ≤ T.2.2 ∧ T.2.2 < 18446744073709551616) : u64s (table_Table_Encode.nums T) := by
  intro y hy
  unfold table_Table_Encode.nums at hy
  simp only [List.mem_cons] at hy
  rcases hy with rfl | rfl | rfl | hy
  · exact h1
  · exact h2
  · omega
  · obtain ⟨x, hx, hy⟩ := List.mem_flatMap.1 hy
    exact rowNums_u64 (hok x hx) y hy
theorem nums_len (T : List S43 × Int × Int) (hl : T.1.length ≤ 256) : (table_Table_Encode.nums T).length ≤ 1795 := by
  have := flat_len T.1
  unfold table_Table_Encode.nums
  simp only [List.length_cons]
  omega
theorem enc_is (K : Nat) (hK : 11 ≤ K) (T : List S43 × Int × Int) (hok : ∀ x ∈ T.1, table_Table_Encode.okR x) (hl : T.1.length ≤ 256) (h1 : 0 ≤ T.2.1 ∧ T.2.1 < 18446744073709551616) (h2 : 0 ≤ T.2.2 ∧ T.2.2 < 18446744073709551616) :
    table_Table_Encode.f K T = some (Cs (table_Table_Encode.nums T)) := by
  have := nums_len T hl
  unfold table_Table_Encode.f
  rw [putAll_is K hK _ _ (nums_u64 hok hl h1 h2) (by rw [List.length_nil]; omega), List.nil_append]
theorem tk_i (K : Nat) (hK : 25 ≤ K) (x m : Int) (h : 0 ≤ x ∧ x ≤ m) (hm : m < 18446744073709551616) (s : List Int) (hs : isBytes s) (hl : s.length < 1000000) : table_Decode.tk K (C x.toNat ++ s) 0 m = some (x, s, 0) := by
  unfold table_Decode.tk
  rw [take_i K x m hK (by omega) h.2 s hs hl, Option.bind_some, if_pos h]
theorem row_dec (K : Nat) (hK : 25 ≤ K) (X : S43) (h : okD X) (s : List Int) (hs : isBytes s) (hl : s.length < 100000) : table_Decode.row K (Cs (table_Table_Encode.rowNums X) ++ s) 0 = some (X, s, 0) := by
  obtain ⟨h1, h2, _, h4, h5, h6, h7, h8, h9, h10⟩ := h
  have c1 := (C_le X.f0.f0.toNat).2
  have c2 := (C_le X.f0.f1.toNat).2
  have c3 := (C_le X.f3.f0.toNat).2
  have c4 := (C_le X.f3.f1.toNat).2
  have c6 := (C_le X.f2.f2.toNat).2
  have c7 := (C_le X.f2.f3.toNat).2
  unfold table_Table_Encode.rowNums table_Decode.row
  by_cases c : X.f1 = true
  · have c5 := (C_le (X.f2.f1 + 1).toNat).2
    rw [if_pos c]
    simp only [List.cons_append, List.nil_append, Cs_cons, Cs_nil, List.append_assoc]
    rw [tk_i K hK X.f0.f0 4294967295 (by omega) (by omega) _ (by repeat' first | exact C_bytes _ | exact hs | apply isBytes_append) (by simp only [List.length_append]; omega), Option.bind_some,
      tk_i K hK X.f0.f1 32 (by omega) (by omega) _ (by repeat' first | exact C_bytes _ | exact hs | apply isBytes_append) (by simp only [List.length_append]; omega), Option.bind_some,
      tk_i K hK X.f3.f0 65535 (by omega) (by omega) _ (by repeat' first | exact C_bytes _ | exact hs | apply isBytes_append) (by simp only [List.length_append]; omega), Option.bind_some,
      tk_i K hK X.f3.f1 65534 (by omega) (by omega) _ (by repeat' first | exact C_bytes _ | exact hs | apply isBytes_append) (by simp only [List.length_append]; omega), Option.bind_some,
      tk_i K hK (X.f2.f1 + 1) 16 (by omega) (by omega) _ (by repeat' first | exact C_bytes _ | exact hs | apply isBytes_append) (by simp only [List.length_append]; omega), Option.bind_some]
    unfold table_Decode.rest
    rw [if_pos (by show 0 < X.f2.f1 + 1; omega),
      tk_i K hK X.f2.f2 65534 (by omega) (by omega) _ (by repeat' first | exact C_bytes _ | exact hs | apply isBytes_append) (by simp only [List.length_append]; omega), Option.bind_some,
      tk_i K hK X.f2.f3 65535 (by omega) (by omega) s hs (by omega), Option.bind_some]
    obtain ⟨x0, x1, x2, x3⟩ := X
    obtain ⟨y0, y1, y2, y3⟩ := x2
    obtain rfl : x1 = true := c
    obtain rfl : y0 = x0 := h6
    show some ((⟨⟨y0.f0, y0.f1⟩, true, ⟨⟨y0.f0, y0.f1⟩, y1 + 1 - 1, y2, y3⟩, ⟨x3.f0, x3.f1⟩⟩ : S43), s, (0 : Int)) = _
    rw [show y1 + 1 - 1 = y1 by omega]
  · have cf : X.f1 = false := by simpa using c
    obtain ⟨g1, g2, g3⟩ := h10 cf
    rw [if_neg c]
    simp only [List.cons_append, List.nil_append, Cs_cons, Cs_nil, List.append_assoc]
    have c5 := (C_le (0 : Int).toNat).2
    rw [tk_i K hK X.f0.f0 4294967295 (by omega) (by omega) _ (by repeat' first | exact C_bytes _ | exact hs | apply isBytes_append) (by simp only [List.length_append]; omega), Option.bind_some,
      tk_i K hK X.f0.f1 32 (by omega) (by omega) _ (by repeat' first | exact C_bytes _ | exact hs | apply isBytes_append) (by simp only [List.length_append]; omega), Option.bind_some,
      tk_i K hK X.f3.f0 65535 (by omega) (by omega) _ (by repeat' first | exact C_bytes _ | exact hs | apply isBytes_append) (by simp only [List.length_append]; omega), Option.bind_some,
      tk_i K hK X.f3.f1 65534 (by omega) (by omega) _ (by repeat' first | exact C_bytes _ | exact hs | apply isBytes_append) (by simp only [List.length_append]; omega), Option.bind_some,
      tk_i K hK 0 16 (by omega) (by omega) s hs (by omega), Option.bind_some]
    unfold table_Decode.rest
    rw [if_neg (by show ¬ (0 : Int) < 0; omega)]
    obtain ⟨x0, x1, x2, x3⟩ := X
    obtain ⟨y0, y1, y2, y3⟩ := x2
    obtain rfl : x1 = false := cf
    obtain rfl : y0 = x0 := h6
    obtain rfl : y1 = 0 := g1
    obtain rfl : y2 = 0 := g2
    obtain rfl : y3 = 0 := g3
    rfl
theorem low_srt (rows : List S43) (X : S43) (R : List S43) (h : rowSrt (rows ++ X :: R)) : table_Decode.low rows X = false := by
  unfold table_Decode.low
  by_cases c : 0 < rows.length
  · have h2 := (List.pairwise_append.1 h).2.2 rows[rows.length - 1] (List.getElem_mem (by omega)) X List.mem_cons_self
    rw [decide_eq_true c, Bool.true_and, decide_eq_false_iff_not, rd_cast rows _ (by omega)]
    omega
  · rw [decide_eq_false c, Bool.false_and]
theorem loop_dec (K : Nat) (hK : 25 ≤ K) : ∀ (R rows : List S43) (j : Nat), R.length < j → R.length ≤ 1000 → (∀ X ∈ R, okD X) → rowSrt (rows ++ R) →
    table_Decode.loop K j (R.length : Int) (Cs (R.flatMap table_Table_Encode.rowNums)) 0 rows = some (some (rows ++ R), 0)
  | [], rows, j, hj, _, _, _ => by
    obtain ⟨j, rfl⟩ : ∃ i, j = i + 1 := ⟨j - 1, by omega⟩
    rw [table_Decode.loop, if_neg (fun h => by have := h.1; simp at this), List.append_nil]
    rfl
  | X :: R, rows, j, hj, hl, hok, hs => by
    obtain ⟨j, rfl⟩ : ∃ i, j = i + 1 := ⟨j - 1, by omega⟩
    rw [List.length_cons] at hj hl
    have ih := loop_dec K hK R (rows ++ [X]) j (by omega) (by omega) (fun Y hY => hok Y (List.mem_cons_of_mem _ hY)) (by rw [List.append_assoc]; exact hs)
    have hx := hok X List.mem_cons_self
    have hb : (Cs (R.flatMap table_Table_Encode.rowNums)).length < 100000 := by
      have h1 := Cs_len (R.flatMap table_Table_Encode.rowNums)
      have h2 := flat_len R
      omega
    rw [table_Decode.loop, if_pos ⟨by rw [List.length_cons]; omega, rfl⟩, List.flatMap_cons, Cs_app, row_dec K hK X hx _ (Cs_bytes _) hb, Option.bind_some, hx.2.2.1, Option.bind_some,
      if_neg (fun h => by
        rcases h.2 with q | q
        · cases q
        · have q2 : table_Decode.low rows X = true := q
          rw [low_srt rows X R hs] at q2
          cases q2)]
    have e : ((X :: R).length : Int) - 1 = (R.length : Int) := by rw [List.length_cons]; omega
    rw [e]
    show table_Decode.loop K j (R.length : Int) (Cs (R.flatMap table_Table_Encode.rowNums)) 0 (rows ++ [X]) = _
    rw [ih, List.append_assoc]
    rfl
theorem dec_is (K : Nat) (hK : 25 ≤ K) (T : List S43 × Int × Int) (h : okT T) : table_Decode.f K (Cs (table_Table_Encode.nums T)) = some (some T, 0) := by
  obtain ⟨hs, hl, hok, h1, h2⟩ := h
  have c1 := (C_le T.2.2.toNat).2
  have c2 := (C_le ((T.1.length : Nat) : Int).toNat).2
  have hb : (Cs (T.1.flatMap table_Table_Encode.rowNums)).length < 100000 := by
    have h1 := Cs_len (T.1.flatMap table_Table_Encode.rowNums)
    have h2 := flat_len T.1
    omega
  unfold table_Decode.f table_Table_Encode.nums
  rw [Cs_cons, Cs_cons, Cs_cons, tk_i K hK T.2.1 18446744073709551615 (by omega) (by omega) _ (by repeat' first | exact C_bytes _ | exact Cs_bytes _ | apply isBytes_append) (by simp only [List.length_append]; omega), Option.bind_some,
    tk_i K hK T.2.2 18446744073709551615 (by omega) (by omega) _ (by repeat' first | exact C_bytes _ | exact Cs_bytes _ | apply isBytes_append) (by simp only [List.length_append]; omega), Option.bind_some,
    tk_i K hK ((T.1.length : Nat) : Int) 256 (by omega) (by omega) _ (Cs_bytes _) (by omega), Option.bind_some, loop_dec K hK T.1 [] 300 (by omega) (by omega) hok hs, Option.bind_some]
  rfl
def chgOk (c : S38) : Prop := (c.f2 = false → (0 ≤ c.f3.f1 ∧ c.f3.f1 < 16) ∧ (0 ≤ c.f3.f2 ∧ c.f3.f2 < 1786) ∧ (0 ≤ c.f3.f3 ∧ c.f3.f3 < 65536)) ∧ (c.f2 = true → c.f3.f1 = 0 ∧ c.f3.f2 = 0 ∧ c.f3.f3 = 0)
theorem hist_chg {l : List S38} {t : Int} (h : Hist l t) : ∀ c ∈ l, chgOk c := by
  induction h with
  | nil => intro c hc; simp at hc
  | @way l t c h h0 h1 h2 hp hv hm hs ih =>
    intro d hd
    rcases List.mem_append.1 hd with hd | hd
    · exact ih d hd
    · obtain rfl : d = c := List.mem_singleton.1 hd
      exact ⟨fun _ => ⟨hv, hm, hs⟩, (fun q => by rw [h2] at q; cases q)⟩
  | @gone l t c h h0 h1 h2 hp hv hm hs ho hh ih =>
    intro d hd
    rcases List.mem_append.1 hd with hd | hd
    · exact ih d hd
    · obtain rfl : d = c := List.mem_singleton.1 hd
      exact ⟨(fun q => by rw [h2] at q; cases q), fun _ => ⟨hv, hm, hs⟩⟩
def shp (a n : Int) (s : S43 × Bool) : Prop := s.2 = true → (s.1.f2.f0 = ⟨a, n⟩ ∧ (0 ≤ s.1.f2.f1 ∧ s.1.f2.f1 < 16) ∧ (0 ≤ s.1.f2.f2 ∧ s.1.f2.f2 < 1786) ∧ (0 ≤ s.1.f2.f3 ∧ s.1.f2.f3 < 65536) ∧ (0 ≤ s.1.f3.f0 ∧ s.1.f3.f0 < 65536) ∧ (0 ≤ s.1.f3.f1 ∧ s.1.f3.f1 < 1786) ∧ (s.1.f1 = false → s.1.f2.f1 = 0 ∧ s.1.f2.f2 = 0 ∧ s.1.f2.f3 = 0))
theorem shp_step (a n : Int) (s : S43 × Bool) (c : S38) (hc : chgOk c) (h : shp a n s) : shp a n (rowStep a n s c) := by
  unfold rowStep
  by_cases h3 : ofP a n c = true
  · have hp := (ofP_iff a n c).1 h3
    rw [if_pos h3]
    by_cases h4 : c.f2 = true
    · obtain ⟨g1, g2, g3⟩ := hc.2 h4
      rw [if_pos h4]
      intro hs
      obtain ⟨_, _, _, _, q5, q6, _⟩ := h hs
      exact ⟨hp, by show 0 ≤ c.f3.f1 ∧ c.f3.f1 < 16; omega, by show 0 ≤ c.f3.f2 ∧ c.f3.f2 < 1786; omega, by show 0 ≤ c.f3.f3 ∧ c.f3.f3 < 65536; omega, q5, q6, fun _ => ⟨g1, g2, g3⟩⟩
    · have h4' : c.f2 = false := by simpa using h4
      obtain ⟨g1, g2, g3⟩ := hc.1 h4'
      rw [if_neg h4]
      intro _
      refine ⟨hp, g1, g2, g3, ?_, ?_, fun q => by cases q⟩
      · show 0 ≤ (if s.2 = true ∧ nearB c.f3.f3 c.f3.f2 s.1.f3.f0 s.1.f3.f1 = false then s.1.f3 else ⟨c.f3.f3, c.f3.f2⟩ : S41).f0 ∧ (if s.2 = true ∧ nearB c.f3.f3 c.f3.f2 s.1.f3.f0 s.1.f3.f1 = false then s.1.f3 else ⟨c.f3.f3, c.f3.f2⟩ : S41).f0 < 65536
        by_cases q : s.2 = true ∧ nearB c.f3.f3 c.f3.f2 s.1.f3.f0 s.1.f3.f1 = false
        · rw [if_pos q]; exact (h q.1).2.2.2.2.1
        · rw [if_neg q]; exact g3
      · show 0 ≤ (if s.2 = true ∧ nearB c.f3.f3 c.f3.f2 s.1.f3.f0 s.1.f3.f1 = false then s.1.f3 else ⟨c.f3.f3, c.f3.f2⟩ : S41).f1 ∧ (if s.2 = true ∧ nearB c.f3.f3 c.f3.f2 s.1.f3.f0 s.1.f3.f1 = false then s.1.f3 else ⟨c.f3.f3, c.f3.f2⟩ : S41).f1 < 1786
        by_cases q : s.2 = true ∧ nearB c.f3.f3 c.f3.f2 s.1.f3.f0 s.1.f3.f1 = false
        · rw [if_pos q]; exact (h q.1).2.2.2.2.2.1
        · rw [if_neg q]; exact g2
  · rw [if_neg h3]
    exact h
theorem shp_fold (a n : Int) : ∀ (H : List S38) (s : S43 × Bool), (∀ c ∈ H, chgOk c) → shp a n s → shp a n (H.foldl (rowStep a n) s)
  | [], _, _, h => h
  | c :: H, s, hc, h => by
    rw [List.foldl_cons]
    exact shp_fold a n H _ (fun d hd => hc d (List.mem_cons_of_mem _ hd)) (shp_step a n s c (hc c List.mem_cons_self) h)
theorem rows_okD {H : List S38} {t : Int} (h : Hist H t) : ∀ x ∈ (prefs H []).map (rowF H), okD x := by
  intro x hx
  obtain ⟨p, hp, rfl⟩ := List.mem_map.1 hx
  have h2 := hist_ok h p hp
  have hs := shp_fold p.f0 p.f1 H (row0 p.f0 p.f1) (hist_chg h) (fun q => by cases q) h2
  obtain ⟨g1, g2, g3, g4, g5, g6, g7⟩ := hs
  have hk := rowF_key H p
  have hG : PrefG p := by
    rcases prefs_mem H [] p hp with q | ⟨c, hc, rfl⟩
    · simp at q
    · exact (h.mem c hc).1
  obtain ⟨r1, r2, r3, r4⟩ := hG.right
  unfold okD
  rw [hk]
  exact ⟨r2, by omega, r1, by show 0 ≤ (rowOf H p.f0 p.f1).1.f3.f0 ∧ (rowOf H p.f0 p.f1).1.f3.f0 ≤ 65535; unfold rowOf; omega, by show 0 ≤ (rowOf H p.f0 p.f1).1.f3.f1 ∧ (rowOf H p.f0 p.f1).1.f3.f1 ≤ 65534; unfold rowOf; omega, g1, g2, by show 0 ≤ (rowOf H p.f0 p.f1).1.f2.f2 ∧ (rowOf H p.f0 p.f1).1.f2.f2 ≤ 65534; unfold rowOf; omega, by show 0 ≤ (rowOf H p.f0 p.f1).1.f2.f3 ∧ (rowOf H p.f0 p.f1).1.f2.f3 ≤ 65535; unfold rowOf; omega, g7⟩
theorem hist_okT {H : List S38} {t : Int} (h : Hist H t) (hn : H.length ≤ 200) : okT ((prefs H []).map (rowF H), (H.length : Int), t) := by
  have hl := prefs_len H []
  have ht := h.time
  have hr := (hist_rows h).1
  rw [rowsOf_map H _ (hist_ok h)] at hr
  refine ⟨hr, ?_, rows_okD h, ?_, ?_⟩
  · show ((prefs H []).map (rowF H)).length ≤ 256
    rw [List.length_map]
    simp only [List.length_nil] at hl
    omega
  · show 0 ≤ (H.length : Int) ∧ (H.length : Int) < 18446744073709551616
    omega
  · show 0 ≤ t ∧ t < 18446744073709551616
    omega
theorem of_f {H : List S38} {t : Int} (h : Hist H t) (hn : H.length < 200) : gl_of.f H = some ((prefs H []).map (rowF H), (H.length : Int), t) := by
  unfold gl_of.f
  rw [if_pos (by omega)]
  exact of_hist h hn
theorem coins_loop (K : Nat) : ∀ (d i : Nat) (l acc : List Int) (k : Nat), i + d = l.length → l.length ≤ 10 → u64s l → d + 90 + K ≤ k → acc.length + 9 * d < 1000000 → ga_Coins.l0 (k + 1) l acc (i : Int) = some (acc ++ Cs (l.drop i))
  | 0, i, l, acc, k, h, _, _, _, _ => by
    rw [ga_Coins.l0, if_neg (by omega), List.drop_eq_nil_of_le (by omega), Cs_nil, List.append_nil]
  | d + 1, i, l, acc, k, h, h10, hu, hk, ha => by
    obtain ⟨k, rfl⟩ : ∃ j, k = j + 1 := ⟨k - 1, by omega⟩
    have hi : i < l.length := by omega
    have hr : rd l (i : Int) = l[i] := by
      unfold rd
      rw [Int.toNat_natCast, List.getD_eq_getElem?_getD, List.getElem?_eq_getElem hi]
      rfl
    obtain ⟨u1, u2⟩ := hu l[i] (List.getElem_mem hi)
    obtain ⟨n, hn⟩ := Int.eq_ofNat_of_zero_le u1
    have hc : ga_Coin.f (k + 1) l[i] = some (C l[i].toNat) := by
      rw [hn, Int.toNat_natCast, show k + 1 = (k + 1 - 90) + 90 by omega]
      exact coin_is _ _ n (takes_sz n) (by omega)
    have h9 := (C_le l[i].toNat).2
    rw [ga_Coins.l0, if_pos (by omega), if_pos (by omega), hr, hc, Option.bind_some, if_pos (by omega), show wrap64 ((i : Int) + 1) = ((i + 1 : Nat) : Int) by unfold wrap64; omega,
      coins_loop K d (i + 1) l _ k (by omega) h10 hu (by omega) (by rw [List.length_append]; omega), List.drop_eq_getElem_cons hi, Cs_cons, List.append_assoc]
theorem coins_is (k : Nat) (l : List Int) (hu : u64s l) (hl : l.length ≤ 10) (hk : 200 ≤ k) : ga_Coins.f k l = some (Cs l) := by
  obtain ⟨k, rfl⟩ : ∃ j, k = j + 1 := ⟨k - 1, by omega⟩
  have h := coins_loop 0 l.length 0 l [] k (by omega) hl hu (by omega) (by rw [List.length_nil]; omega)
  rw [List.drop_zero, List.nil_append] at h
  exact h
theorem tk_any (K : Nat) (hK : 25 ≤ K) (s : List Int) (e m : Int) (hs : isBytes s) (hl : s.length ≤ 500000) (hm : 0 ≤ m) : ∃ r s' e', table_Decode.tk K s e m = some (r, s', e') ∧ (0 ≤ r ∧ r ≤ m) ∧ isBytes s' ∧ s'.length ≤ s.length ∧ (e' = 0 → e = 0 ∧ s = C r.toNat ++ s') := by
  obtain ⟨r, s', e', h1, h2, h3, h4, h5, h6⟩ := take_inv K s e m hs (by omega) hm hK
  refine ⟨r, s', e', ?_, ⟨h2, h3⟩, h4, h5, h6⟩
  unfold table_Decode.tk
  rw [h1, Option.bind_some, if_pos ⟨h2, h3⟩]
def tailN (X : S43) : List Int := if X.f1 = true then [X.f2.f1 + 1, X.f2.f2, X.f2.f3] else [0]
theorem rest_any (K : Nat) (hK : 25 ≤ K) (a b c d v : Int) (hv : 0 ≤ v ∧ v ≤ 16) (s : List Int) (e : Int) (hs : isBytes s) (hl : s.length ≤ 500000) : ∃ X s' e', table_Decode.rest K a b c d v s e = some (X, s', e') ∧ isBytes s' ∧ s'.length ≤ s.length ∧ X.f0 = ⟨a, b⟩ ∧ X.f3 = ⟨c, d⟩ ∧ (0 ≤ X.f2.f1 ∧ X.f2.f1 ≤ 65535) ∧ (0 ≤ X.f2.f2 ∧ X.f2.f2 ≤ 65535) ∧ (0 ≤ X.f2.f3 ∧ X.f2.f3 ≤ 65535) ∧ (e' = 0 → e = 0 ∧ C v.toNat ++ s = Cs (tailN X) ++ s') := by
  unfold table_Decode.rest
  by_cases h : 0 < v
  · obtain ⟨m, s1, e1, h1, hm, hs1, hl1, hb1⟩ := tk_any K hK s e 65534 hs hl (by omega)
    obtain ⟨q, s2, e2, h2, hq, hs2, hl2, hb2⟩ := tk_any K hK s1 e1 65535 hs1 (by omega) (by omega)
    refine ⟨⟨⟨a, b⟩, true, ⟨⟨a, b⟩, v - 1, m, q⟩, ⟨c, d⟩⟩, s2, e2, ?_, hs2, by omega, rfl, rfl, ⟨by show 0 ≤ v - 1; omega, by show v - 1 ≤ 65535; omega⟩, ⟨hm.1, by show m ≤ 65535; omega⟩, ⟨hq.1, hq.2⟩, fun he => ?_⟩
    · rw [if_pos h, h1, Option.bind_some, h2, Option.bind_some]
    · obtain ⟨g1, g2⟩ := hb2 he
      obtain ⟨g3, g4⟩ := hb1 g1
      refine ⟨g3, ?_⟩
      show C v.toNat ++ s = Cs [v - 1 + 1, m, q] ++ s2
      rw [Cs_cons, Cs_cons, Cs_cons, Cs_nil, List.append_nil, show v - 1 + 1 = v by omega, List.append_assoc, List.append_assoc, ← g2, ← g4]
  · refine ⟨⟨⟨a, b⟩, false, ⟨⟨a, b⟩, 0, 0, 0⟩, ⟨c, d⟩⟩, s, e, by rw [if_neg h], hs, Nat.le_refl _, rfl, rfl, ⟨by show (0 : Int) ≤ 0; omega, by show (0 : Int) ≤ 65535; omega⟩, ⟨by show (0 : Int) ≤ 0; omega, by show (0 : Int) ≤ 65535; omega⟩, ⟨by show (0 : Int) ≤ 0; omega, by show (0 : Int) ≤ 65535; omega⟩, fun he => ⟨he, ?_⟩⟩
    obtain rfl : v = 0 := by omega
    show C (0 : Int).toNat ++ s = Cs [0] ++ s
    rw [Cs_cons, Cs_nil, List.append_nil]
theorem rowNums_tail (X : S43) : table_Table_Encode.rowNums X = X.f0.f0 :: X.f0.f1 :: X.f3.f0 :: X.f3.f1 :: tailN X := rfl
theorem row_any (K : Nat) (hK : 25 ≤ K) (s : List Int) (e : Int) (hs : isBytes s) (hl : s.length ≤ 500000) : ∃ X s' e', table_Decode.row K s e = some (X, s', e') ∧ isBytes s' ∧ s'.length ≤ s.length ∧ table_Table_Encode.okR X ∧ (e' = 0 → e = 0 ∧ s = Cs (table_Table_Encode.rowNums X) ++ s') := by
  obtain ⟨a, s1, e1, h1, ba, hs1, hl1, g1⟩ := tk_any K hK s e 4294967295 hs hl (by omega)
  obtain ⟨b, s2, e2, h2, bb, hs2, hl2, g2⟩ := tk_any K hK s1 e1 32 hs1 (by omega) (by omega)
  obtain ⟨c, s3, e3, h3, bc, hs3, hl3, g3⟩ := tk_any K hK s2 e2 65535 hs2 (by omega) (by omega)
  obtain ⟨d, s4, e4, h4, bd, hs4, hl4, g4⟩ := tk_any K hK s3 e3 65534 hs3 (by omega) (by omega)
  obtain ⟨v, s5, e5, h5, bv, hs5, hl5, g5⟩ := tk_any K hK s4 e4 16 hs4 (by omega) (by omega)
  obtain ⟨X, s6, e6, h6, hs6, hl6, x0, x3, x1, x2, x4, g6⟩ := rest_any K hK a b c d v bv s5 e5 hs5 (by omega)
  refine ⟨X, s6, e6, ?_, hs6, by omega, ?_, fun he => ?_⟩
  · unfold table_Decode.row
    rw [h1, Option.bind_some, h2, Option.bind_some, h3, Option.bind_some, h4, Option.bind_some, h5, Option.bind_some]
    exact h6
  · unfold table_Table_Encode.okR
    rw [x0, x3]
    exact ⟨ba, ⟨bb.1, by show b ≤ 255; omega⟩, x1, x2, x4, bc, ⟨bd.1, by show d ≤ 65535; omega⟩⟩
  · obtain ⟨q6, r6⟩ := g6 he
    obtain ⟨q5, r5⟩ := g5 q6
    obtain ⟨q4, r4⟩ := g4 q5
    obtain ⟨q3, r3⟩ := g3 q4
    obtain ⟨q2, r2⟩ := g2 q3
    obtain ⟨q1, r1⟩ := g1 q2
    refine ⟨q1, ?_⟩
    rw [rowNums_tail, x0, x3, Cs_cons, Cs_cons, Cs_cons, Cs_cons, List.append_assoc, List.append_assoc, List.append_assoc, List.append_assoc, ← r6, ← r5, ← r4, ← r3, ← r2, ← r1]
theorem right_tot (a n : Int) : ∃ r, prefix_Right.f a n = some r := by
  unfold prefix_Right.f prefix_mask.f
  by_cases h : n ≤ 32
  · rw [if_pos h]
    by_cases h0 : n = 0
    · rw [if_pos h0, Option.bind_some]; exact ⟨_, rfl⟩
    · rw [if_neg h0, Option.bind_some]; exact ⟨_, rfl⟩
  · rw [if_neg h]; exact ⟨_, rfl⟩
theorem end_any (s : List Int) (e : Int) : ∃ z x y, coin_Purse_End.f s e = some (z, x, y) ∧ (z = 0 → e = 0 ∧ s = []) := by
  unfold coin_Purse_End.f
  by_cases h : e = 0
  · by_cases h2 : 0 < (s.length : Int)
    · rw [if_pos h, if_pos h2]; exact ⟨_, _, _, rfl, fun q => by cases q⟩
    · rw [if_pos h, if_neg h2]; exact ⟨_, _, _, rfl, fun _ => ⟨h, List.eq_nil_of_length_eq_zero (by omega)⟩⟩
  · rw [if_neg h]; exact ⟨_, _, _, rfl, fun q => absurd q h⟩
theorem loop_any (K : Nat) (hK : 25 ≤ K) : ∀ (j : Nat) (n : Int) (s : List Int) (e : Int) (rows : List S43), 0 ≤ n → n < j → isBytes s → s.length ≤ 500000 → ∃ o r, table_Decode.loop K j n s e rows = some (o, r) ∧ (r = 0 → ∃ R : List S43, o = some (rows ++ R) ∧ (R.length : Int) = n ∧ (∀ x ∈ R, table_Table_Encode.okR x) ∧ e = 0 ∧ s = Cs (R.flatMap table_Table_Encode.rowNums)) ∧ (r ≠ 0 → o = none)
  | 0, n, _, _, _, h0, h1, _, _ => by omega
  | j + 1, n, s, e, rows, h0, h1, hs, hl => by
    rw [table_Decode.loop]
    by_cases hg : 0 < n ∧ e = 0
    · obtain ⟨X, s', e', hx, hs', hl', hok, hinv⟩ := row_any K hK s e hs hl
      obtain ⟨rt, hrt⟩ := right_tot X.f0.f0 X.f0.f1
      rw [if_pos hg, hx, Option.bind_some]
      show ∃ o r, ((prefix_Right.f X.f0.f0 X.f0.f1).bind fun rt => if e' = 0 ∧ (rt = false ∨ table_Decode.low rows X = true) then some (none, 4) else table_Decode.loop K j (n - 1) s' e' (rows ++ [X])) = some (o, r) ∧ _
      rw [hrt, Option.bind_some]
      by_cases hst : e' = 0 ∧ (rt = false ∨ table_Decode.low rows X = true)
      · rw [if_pos hst]
        exact ⟨none, 4, rfl, fun q => (by cases q), fun _ => rfl⟩
      · rw [if_neg hst]
        obtain ⟨o, r, g1, g2, g3⟩ := loop_any K hK j (n - 1) s' e' (rows ++ [X]) (by omega) (by omega) hs' (by omega)
        refine ⟨o, r, g1, fun q => ?_, g3⟩
        obtain ⟨R, k1, k2, k3, k4, k5⟩ := g2 q
        obtain ⟨i1, i2⟩ := hinv k4
        refine ⟨X :: R, by rw [k1, List.append_assoc]; rfl, by rw [List.length_cons]; omega, fun x hx => ?_, i1, ?_⟩
        · rcases List.mem_cons.1 hx with rfl | hx
          · exact hok
          · exact k3 x hx
        · rw [List.flatMap_cons, Cs_app, ← k5]; exact i2
    · rw [if_neg hg]
      obtain ⟨z, x, y, hz, hz0⟩ := end_any s e
      rw [hz, Option.bind_some]
      by_cases hzz : z = 0
      · obtain ⟨e0, s0⟩ := hz0 hzz
        refine ⟨some rows, 0, if_pos hzz, fun _ => ⟨[], by rw [List.append_nil], ?_, fun x hx => (by simp at hx), e0, s0⟩, fun q => absurd rfl q⟩
        have : ¬ 0 < n := fun q => hg ⟨q, e0⟩
        rw [List.length_nil]
        omega
      · exact ⟨none, z, if_neg hzz, fun q => absurd q hzz, fun _ => rfl⟩
theorem dec_any (K : Nat) (hK : 25 ≤ K) (q : List Int) (hq : isBytes q) (hl : q.length ≤ 500000) : ∃ (o : Option (List S43 × Int × Int)) (f : Int), table_Decode.f K q = some (o, f) ∧ (f = 0 → ∃ T', o = some T' ∧ (∀ x ∈ T'.1, table_Table_Encode.okR x) ∧ table_Table_Encode.f K T' = some q) ∧ (f ≠ 0 → o = none) := by
  obtain ⟨a, s1, e1, h1, ba, hs1, hl1, g1⟩ := tk_any K hK q 0 18446744073709551615 hq hl (by omega)
  obtain ⟨b, s2, e2, h2, bb, hs2, hl2, g2⟩ := tk_any K hK s1 e1 18446744073709551615 hs1 (by omega) (by omega)
  obtain ⟨n, s3, e3, h3, bn, hs3, hl3, g3⟩ := tk_any K hK s2 e2 256 hs2 (by omega) (by omega)
  obtain ⟨o, r, h4, g4, g5⟩ := loop_any K hK 300 n s3 e3 [] bn.1 (by omega) hs3 (by omega)
  refine ⟨o.map (fun r => (r, a, b)), r, ?_, fun hr => ?_, fun hr => by rw [g5 hr]; rfl⟩
  · unfold table_Decode.f
    rw [h1, Option.bind_some, h2, Option.bind_some, h3, Option.bind_some, h4, Option.bind_some]
  · obtain ⟨R, k1, k2, k3, k4, k5⟩ := g4 hr
    rw [List.nil_append] at k1
    obtain ⟨i3, r3⟩ := g3 k4
    obtain ⟨i2, r2⟩ := g2 i3
    obtain ⟨i1, r1⟩ := g1 i2
    refine ⟨(R, a, b), by rw [k1]; rfl, k3, ?_⟩
    rw [enc_is K (by omega) (R, a, b) k3 (by show R.length ≤ 256; omega) (by show 0 ≤ a ∧ a < 18446744073709551616; omega) (by show 0 ≤ b ∧ b < 18446744073709551616; omega)]
    unfold table_Table_Encode.nums
    show some (Cs (a :: b :: (R.length : Int) :: R.flatMap table_Table_Encode.rowNums)) = some q
    rw [Cs_cons, Cs_cons, Cs_cons, k2, ← k5, ← r3, ← r2, ← r1]
theorem isB_wf {q : List Int} (h : ∀ n ∈ q, (Lit.int .u8 n).wf = true) : isBytes q := fun x hx => by
  obtain ⟨p, hp, rfl⟩ := u8of x (h x hx)
  omega
theorem wf_isB {q : List Int} (h : isBytes q) : ∀ n ∈ q, (Lit.int .u8 n).wf = true := fun x hx => Go.WalkArith.wf_u8 ⟨(h x hx).1, by have := (h x hx).2; omega⟩
theorem C_zero : C 0 = [0] := by decide
theorem last_f (T : List S43 × Int × Int) : table_Table_Last.f T = some (T.2.1, T.2.2, T) := rfl
theorem rows_f (T : List S43 × Int × Int) : table_Table_Rows.f T = some (T.1, T) := rfl
/-- what stands ahead of row i -/
def preB (T : List S43 × Int × Int) (i : Nat) : List Int := Cs (T.2.1 :: T.2.2 :: (T.1.length : Int) :: (T.1.take i).flatMap table_Table_Encode.rowNums)
theorem preB_len (T : List S43 × Int × Int) (hl : T.1.length ≤ 256) (i : Nat) : (preB T i).length ≤ 100000 := by
  have h1 := Cs_len (T.2.1 :: T.2.2 :: (T.1.length : Int) :: (T.1.take i).flatMap table_Table_Encode.rowNums)
  have h2 := flat_len (T.1.take i)
  simp only [List.length_cons, List.length_take] at h1 h2
  unfold preB
  omega
theorem preB_end (T : List S43 × Int × Int) : preB T T.1.length = Cs (table_Table_Encode.nums T) := by
  unfold preB table_Table_Encode.nums
  rw [List.take_length]
theorem preB_step (T : List S43 × Int × Int) (i : Nat) (hi : i < T.1.length) : preB T (i + 1) = preB T i ++ Cs (table_Table_Encode.rowNums (rd_T43 T.1 (i : Int))) := by
  unfold preB
  rw [List.take_succ_eq_append_getElem hi, List.flatMap_append, List.flatMap_cons, List.flatMap_nil, List.append_nil, rd_cast T.1 i hi]
  rw [Cs_cons, Cs_cons, Cs_cons, Cs_cons, Cs_cons, Cs_cons, Cs_app, List.append_assoc, List.append_assoc, List.append_assoc]
theorem row_want (K : Nat) (hK : 200 ≤ K) (X : S43) (h : table_Table_Encode.okR X) (u v : List Int) (hu : u.length ≤ 100000) (hv : v = u ++ Cs (table_Table_Encode.rowNums X)) : gl_TableBytes.Row K X u v := by
  have hn := rowNums_u64 h
  have hA : u64s [X.f0.f0, X.f0.f1, X.f3.f0, X.f3.f1] := fun y hy => hn y (by
    rw [rowNums_tail]
    simp only [List.mem_cons, List.not_mem_nil, or_false] at hy ⊢
    rcases hy with e | e | e | e
    · exact .inl e
    · exact .inr (.inl e)
    · exact .inr (.inr (.inl e))
    · exact .inr (.inr (.inr (.inl e))))
  have l1 := Cs_len [X.f0.f0, X.f0.f1, X.f3.f0, X.f3.f1]
  have e1 : Cs (table_Table_Encode.rowNums X) = Cs [X.f0.f0, X.f0.f1, X.f3.f0, X.f3.f1] ++ Cs (tailN X) := by rw [rowNums_tail, ← Cs_app]; rfl
  refine ⟨h, hu, _, coins_is K _ hA (by show 4 ≤ 10; omega) hK, by simp only [List.length_cons, List.length_nil] at l1; omega, fun hf => ?_, fun hf => ?_⟩
  · rw [hv, e1]
    unfold tailN
    rw [if_neg (by rw [hf]; simp), show Cs [0] = [0] by rw [Cs_cons, Cs_nil, List.append_nil]; exact C_zero]
  · have e2 : tailN X = [X.f2.f1 + 1, X.f2.f2, X.f2.f3] := if_pos hf
    have hB : u64s [X.f2.f1 + 1, X.f2.f2, X.f2.f3] := fun y hy => hn y (by
      rw [rowNums_tail, e2]
      exact List.mem_cons_of_mem _ (List.mem_cons_of_mem _ (List.mem_cons_of_mem _ (List.mem_cons_of_mem _ hy))))
    have l2 := Cs_len [X.f2.f1 + 1, X.f2.f2, X.f2.f3]
    refine ⟨_, coins_is K _ hB (by show 3 ≤ 10; omega) hK, by simp only [List.length_cons, List.length_nil] at l2; omega, ?_⟩
    rw [hv, e1, e2]
theorem TableBytes : gl_TableBytes.Pure := by
  refine ⟨awake_tab, fun l0 hl hx => ?_⟩
  obtain ⟨H, t, hE, hH, hL⟩ := hist_is l0 hx (by omega)
  have o := hist_okT hH (by omega)
  have hR : rowsOf H (prefs H []) = (prefs H []).map (rowF H) := rowsOf_map H _ (hist_ok hH)
  have hrows := rows_is H (by omega)
  rw [hR] at hrows
  have hof := of_f hH (by omega)
  generalize hT : (((prefs H []).map (rowF H), (H.length : Int), t) : List S43 × Int × Int) = T at o hof
  have hT1 : (prefs H []).map (rowF H) = T.1 := by rw [← hT]
  rw [hT1] at hrows
  have hlT := o.2.1
  have hsm := same_rows T.1 (by omega)
  obtain ⟨k1, h1⟩ := hE
  obtain ⟨k2, h2⟩ := hrows
  obtain ⟨k3, h3⟩ := hsm
  have hok : ∀ x ∈ T.1, table_Table_Encode.okR x := fun x hx => okD_R (o.2.2.1 x hx)
  have hpe := preB_end T
  have hpl := preB_len T hlT T.1.length
  rw [hpe] at hpl
  refine ⟨k1 + k2 + k3 + 300, H, T, Cs (table_Table_Encode.nums T), T.2.1, T.2.2, T.1, T.1, preB T, h1 _ (by omega), hof, hok, enc_is _ (by omega) T hok hlT o.2.2.2.1 o.2.2.2.2, last_f T, h2 _ (by omega), by omega, ?_, fun i hi => ?_, hpe, dec_is _ (by omega) T o, rows_f T, h3 _ (by omega), ?_, hpl, wf_isB (Cs_bytes _), fun q hq hl => dec_any _ (by omega) q (isB_wf hq) hl⟩
  · have hu : u64s [T.2.1, T.2.2, (T.1.length : Int)] := fun y hy => nums_u64 hok hlT o.2.2.2.1 o.2.2.2.2 y (by
      unfold table_Table_Encode.nums
      simp only [List.mem_cons, List.not_mem_nil, or_false] at hy ⊢
      rcases hy with e | e | e
      · exact .inl e
      · exact .inr (.inl e)
      · exact .inr (.inr (.inl e)))
    exact coins_is _ _ hu (by show 3 ≤ 10; omega) (by omega)
  · exact row_want _ (by omega) _ (hok _ (by rw [rd_cast T.1 i hi]; exact List.getElem_mem hi)) _ _ (preB_len T hlT i) (preB_step T i hi)
  · have h9 := (C_le T.2.1.toNat).1
    unfold table_Table_Encode.nums
    rw [Cs_cons, List.length_append]
    omega

end Go.Proofs.Ytmkjgiejnlmncaa.Pure
