-- Lines by a program of this session, for this claim.
import Derived.Test.YtbmiifhmgfhidaaQTriePlaysx0
import Derived.Test.YtbmiifhmgfhidaaQTriePlaysx3
namespace Go.Proofs.Ytbmiifhmgfhidaa.QTriePlays
open Go.RowKit Go.Proofs.YtbmiifhmgfhidaaW.PrintWords Go.Proofs.YtbmiifhmgfhidaaW.PrintLast Go.Proofs.YtbmiifhmgfhidaaW.PrintMore
attribute [local go_sem] max2_int min2_int max_two min_two max_three min_three max_four min_four   -- for this text's walks alone
set_option linter.unusedVariables false
set_option linter.unusedSimpArgs false

inductive Tr (α : Type) where
  | nil : Tr α
  | node (o : Option α) (a b : Tr α) : Tr α
namespace Tr
variable {α : Type}
def put : Tr α → List Bool → α → Tr α
  | nil, [], r => node (some r) nil nil
  | node _ a b, [], r => node (some r) a b
  | nil, false :: p, r => node none (put nil p r) nil
  | nil, true :: p, r => node none nil (put nil p r)
  | node o a b, false :: p, r => node o (put a p r) b
  | node o a b, true :: p, r => node o a (put b p r)
/-- what leads nowhere is cut off -/
def prune : Tr α → Tr α
  | node none nil nil => nil
  | T => T
def drop : Tr α → List Bool → Tr α
  | nil, _ => nil
  | node _ a b, [] => node none a b
  | node o a b, false :: p => node o (prune (drop a p)) b
  | node o a b, true :: p => node o a (prune (drop b p))
def all : Tr α → List α
  | nil => []
  | node o a b => (o.toList ++ all a) ++ all b
def get : Tr α → List Bool → Option α
  | nil, _ => none
  | node o _ _, [] => o
  | node _ a _, false :: p => get a p
  | node _ _ b, true :: p => get b p
/-- the deepest on the way -/
def look : Tr α → List Bool → Option α → Option α
  | nil, _, d => d
  | node o _ _, [], d => o.or d
  | node o a _, false :: p, d => look a p (o.or d)
  | node o _ b, true :: p, d => look b p (o.or d)
end Tr
/-- the bits of an address from one on -/
def pathFrom (a : Int) : Nat → Nat → List Bool
  | 0, _ => []
  | m + 1, i => (trie_side.f a (i : Int) == some 1) :: pathFrom a m (i + 1)
theorem side_is (a : Int) (i : Nat) : trie_side.f a (i : Int) = some (if (trie_side.f a (i : Int) == some 1) = true then 1 else 0) := by
  unfold trie_side.f prefix_Bit.f
  split
  · rw [Option.bind_some]
    split <;> rfl
  · rfl
def oR (o : Option S33) : S33 := o.getD z33
/-- a place of the tree at block h; the first one of all bears the number of routes, too -/
def Nx (w : World) (h : Nat) (x : Option Int) (o : Option S33) (va vb : Value) : Prop :=
  w.heap[h]? = some (match x with
    | none => .cells #[.bool o.isSome, .int .u32 (oR o).f0.f0, .int .u8 (oR o).f0.f1, .int .i64 (oR o).f1, .int .u16 (oR o).f2, .int .u16 (oR o).f3, va, vb] 44 (0, 0)
    | some n => .cells #[.bool o.isSome, .int .u32 (oR o).f0.f0, .int .u8 (oR o).f0.f1, .int .i64 (oR o).f1, .int .u16 (oR o).f2, .int .u16 (oR o).f3, va, vb, .int .i64 n] 46 (0, 0))
theorem Nx.cell {w : World} {h : Nat} {x : Option Int} {o : Option S33} {va vb : Value} (hn : Nx w h x o va vb) :
    w.cell? ⟨h, 0, none⟩ = some (.bool o.isSome) ∧ w.cell? ⟨h, 1, none⟩ = some (.int .u32 (oR o).f0.f0) ∧ w.cell? ⟨h, 2, none⟩ = some (.int .u8 (oR o).f0.f1) ∧ w.cell? ⟨h, 3, none⟩ = some (.int .i64 (oR o).f1) ∧ w.cell? ⟨h, 4, none⟩ = some (.int .u16 (oR o).f2) ∧ w.cell? ⟨h, 5, none⟩ = some (.int .u16 (oR o).f3) ∧ w.cell? ⟨h, 6, none⟩ = some va ∧ w.cell? ⟨h, 7, none⟩ = some vb := by
  cases x with
  | none =>
    have hb : w.heap[h]? = some (.cells _ 44 (0, 0)) := hn
    exact ⟨(blk_cell hb 0).trans rfl, (blk_cell hb 1).trans rfl, (blk_cell hb 2).trans rfl, (blk_cell hb 3).trans rfl, (blk_cell hb 4).trans rfl, (blk_cell hb 5).trans rfl, (blk_cell hb 6).trans rfl, (blk_cell hb 7).trans rfl⟩
  | some n =>
    have hb : w.heap[h]? = some (.cells _ 46 (0, 0)) := hn
    exact ⟨(blk_cell hb 0).trans rfl, (blk_cell hb 1).trans rfl, (blk_cell hb 2).trans rfl, (blk_cell hb 3).trans rfl, (blk_cell hb 4).trans rfl, (blk_cell hb 5).trans rfl, (blk_cell hb 6).trans rfl, (blk_cell hb 7).trans rfl⟩
theorem Nx.n {w : World} {h : Nat} {n : Int} {o : Option S33} {va vb : Value} (hn : Nx w h (some n) o va vb) : w.cell? ⟨h, 8, none⟩ = some (.int .i64 n) := by
  have hb : w.heap[h]? = some (.cells _ 46 (0, 0)) := hn
  exact (blk_cell hb 8).trans rfl
theorem Nx.frozen {w : World} {h : Nat} {x : Option Int} {o : Option S33} {va vb : Value} (hn : Nx w h x o va vb) (i : Nat) : w.frozen? ⟨h, i, none⟩ = false := by
  cases x with
  | none => exact blk_frozen (show w.heap[h]? = some (.cells _ 44 (0, 0)) from hn) i
  | some n => exact blk_frozen (show w.heap[h]? = some (.cells _ 46 (0, 0)) from hn) i
theorem Nx.typed {w : World} {h : Nat} {x : Option Int} {o : Option S33} {va vb : Value} (hn : Nx w h x o va vb) : ∃ cs t, w.heap[h]? = some (.cells cs t (0, 0)) ∧ (t = 44 ∨ t = 46) := by
  cases x with
  | none => exact ⟨_, _, hn, .inl rfl⟩
  | some n => exact ⟨_, _, hn, .inr rfl⟩
theorem Nx.lt {w : World} {h : Nat} {x : Option Int} {o : Option S33} {va vb : Value} (hn : Nx w h x o va vb) : h < w.heap.size := blk_lt hn
theorem Nx.move {w w' : World} {h : Nat} {x : Option Int} {o : Option S33} {va vb : Value} (hn : Nx w h x o va vb) (hk : w'.heap[h]? = w.heap[h]?) : Nx w' h x o va vb := hk.trans hn
theorem Nx.set6 {w : World} {h : Nat} {x : Option Int} {o : Option S33} {va vb : Value} (hn : Nx w h x o va vb) (u : Value) : Nx (w.setCell ⟨h, 6, none⟩ u) h x o u vb := by
  cases x with
  | none => exact blk_put (show w.heap[h]? = some (.cells _ 44 (0, 0)) from hn) 6 u rfl
  | some n => exact blk_put (show w.heap[h]? = some (.cells _ 46 (0, 0)) from hn) 6 u rfl
theorem Nx.set7 {w : World} {h : Nat} {x : Option Int} {o : Option S33} {va vb : Value} (hn : Nx w h x o va vb) (u : Value) : Nx (w.setCell ⟨h, 7, none⟩ u) h x o va u := by
  cases x with
  | none => exact blk_put (show w.heap[h]? = some (.cells _ 44 (0, 0)) from hn) 7 u rfl
  | some n => exact blk_put (show w.heap[h]? = some (.cells _ 46 (0, 0)) from hn) 7 u rfl
theorem Nx.set8 {w : World} {h : Nat} {n : Int} {o : Option S33} {va vb : Value} (hn : Nx w h (some n) o va vb) (m : Int) : Nx (w.setCell ⟨h, 8, none⟩ (.int .i64 m)) h (some m) o va vb := by
  exact blk_put (show w.heap[h]? = some (.cells _ 46 (0, 0)) from hn) 8 _ rfl
theorem Nx.fill {w : World} {h : Nat} {x : Option Int} {o : Option S33} {va vb : Value} (hn : Nx w h x o va vb) (r : S33) : Nx ((((((w.setCell ⟨h, 0, none⟩ (.bool true)).setCell ⟨h, 1, none⟩ (.int .u32 r.f0.f0)).setCell ⟨h, 2, none⟩ (.int .u8 r.f0.f1)).setCell ⟨h, 3, none⟩ (.int .i64 r.f1)).setCell ⟨h, 4, none⟩ (.int .u16 r.f2)).setCell ⟨h, 5, none⟩ (.int .u16 r.f3)) h x (some r) va vb := by
  cases x with
  | none => exact blk_put (blk_put (blk_put (blk_put (blk_put (blk_put (show w.heap[h]? = some (.cells _ 44 (0, 0)) from hn) 0 _ rfl) 1 _ rfl) 2 _ rfl) 3 _ rfl) 4 _ rfl) 5 _ rfl
  | some n => exact blk_put (blk_put (blk_put (blk_put (blk_put (blk_put (show w.heap[h]? = some (.cells _ 46 (0, 0)) from hn) 0 _ rfl) 1 _ rfl) 2 _ rfl) 3 _ rfl) 4 _ rfl) 5 _ rfl
theorem Nx.clear {w : World} {h : Nat} {x : Option Int} {o : Option S33} {va vb : Value} (hn : Nx w h x o va vb) : Nx ((((((w.setCell ⟨h, 0, none⟩ (.bool false)).setCell ⟨h, 1, none⟩ (.int .u32 0)).setCell ⟨h, 2, none⟩ (.int .u8 0)).setCell ⟨h, 3, none⟩ (.int .i64 0)).setCell ⟨h, 4, none⟩ (.int .u16 0)).setCell ⟨h, 5, none⟩ (.int .u16 0)) h x none va vb := by
  cases x with
  | none => exact blk_put (blk_put (blk_put (blk_put (blk_put (blk_put (show w.heap[h]? = some (.cells _ 44 (0, 0)) from hn) 0 _ rfl) 1 _ rfl) 2 _ rfl) 3 _ rfl) 4 _ rfl) 5 _ rfl
  | some n => exact blk_put (blk_put (blk_put (blk_put (blk_put (blk_put (show w.heap[h]? = some (.cells _ 46 (0, 0)) from hn) 0 _ rfl) 1 _ rfl) 2 _ rfl) 3 _ rfl) 4 _ rfl) 5 _ rfl
theorem heap_set (w : World) (h i : Nat) (u : Value) (k : Nat) (hk : k ≠ h) : (w.setCell ⟨h, i, none⟩ u).heap[k]? = w.heap[k]? := Below.heap_setCell w ⟨h, i, none⟩ u k hk
/-- a tree from a pointer on, and its blocks -/
def At (w : World) : Tr S33 → Value → List Nat → Prop
  | .nil, v, bs => v = .pointer none ∧ bs = []
  | .node o a b, v, bs => ∃ h va vb ba bb, v = .pointer (some ⟨h, 0, none⟩) ∧ Nx w h none o va vb ∧ At w a va ba ∧ At w b vb bb ∧ bs = h :: (ba ++ bb)
theorem At.frame {w w' : World} : ∀ {T : Tr S33} {v : Value} {bs : List Nat}, At w T v bs → (∀ k ∈ bs, w'.heap[k]? = w.heap[k]?) → At w' T v bs
  | .nil, _, _, h, _ => h
  | .node _ _ _, _, _, ⟨h, va, vb, ba, bb, e, hn, ha, hb, eb⟩, hk => by
    subst eb
    exact ⟨h, va, vb, ba, bb, e, hn.move (hk h (List.mem_cons_self)), ha.frame (fun k hm => hk k (List.mem_cons_of_mem _ (List.mem_append_left _ hm))), hb.frame (fun k hm => hk k (List.mem_cons_of_mem _ (List.mem_append_right _ hm))), rfl⟩
theorem At.typed {w : World} : ∀ {T : Tr S33} {v : Value} {bs : List Nat}, At w T v bs → ∀ k ∈ bs, ∃ cs t, w.heap[k]? = some (.cells cs t (0, 0)) ∧ (t = 44 ∨ t = 46)
  | .nil, _, _, ⟨_, e⟩, k, hm => by subst e; cases hm
  | .node _ _ _, _, _, ⟨h, va, vb, ba, bb, e, hn, ha, hb, eb⟩, k, hm => by
    subst eb
    rcases List.mem_cons.1 hm with rfl | hm
    · exact hn.typed
    · rcases List.mem_append.1 hm with hm | hm
      · exact ha.typed k hm
      · exact hb.typed k hm
theorem At.lt {w : World} {T : Tr S33} {v : Value} {bs : List Nat} (h : At w T v bs) : ∀ k ∈ bs, k < w.heap.size := fun k hm => by
  obtain ⟨cs, t, hk, _⟩ := h.typed k hm
  exact blk_lt hk
/-- a node and what hangs below it -/
def Nod (w : World) (h : Nat) (x : Option Int) (o : Option S33) (a b : Tr S33) (bs : List Nat) : Prop := ∃ va vb ba bb, Nx w h x o va vb ∧ At w a va ba ∧ At w b vb bb ∧ bs = ba ++ bb
theorem Nod.frame {w w' : World} {h : Nat} {x : Option Int} {o : Option S33} {a b : Tr S33} {bs : List Nat} (hn : Nod w h x o a b bs) (hk : ∀ k ∈ h :: bs, w'.heap[k]? = w.heap[k]?) : Nod w' h x o a b bs := by
  obtain ⟨va, vb, ba, bb, hx, ha, hb, rfl⟩ := hn
  exact ⟨va, vb, ba, bb, hx.move (hk h List.mem_cons_self), ha.frame (fun k hm => hk k (List.mem_cons_of_mem _ (List.mem_append_left _ hm))), hb.frame (fun k hm => hk k (List.mem_cons_of_mem _ (List.mem_append_right _ hm))), rfl⟩
theorem Nod.typed {w : World} {h : Nat} {x : Option Int} {o : Option S33} {a b : Tr S33} {bs : List Nat} (hn : Nod w h x o a b bs) : ∀ k ∈ h :: bs, ∃ cs t, w.heap[k]? = some (.cells cs t (0, 0)) ∧ (t = 44 ∨ t = 46) := by
  obtain ⟨va, vb, ba, bb, hx, ha, hb, rfl⟩ := hn
  intro k hm
  rcases List.mem_cons.1 hm with rfl | hm
  · exact hx.typed
  · rcases List.mem_append.1 hm with hm | hm
    · exact ha.typed k hm
    · exact hb.typed k hm
theorem Nod.lt {w : World} {h : Nat} {x : Option Int} {o : Option S33} {a b : Tr S33} {bs : List Nat} (hn : Nod w h x o a b bs) : ∀ k ∈ h :: bs, k < w.heap.size := fun k hm => by
  obtain ⟨cs, t, hk, _⟩ := hn.typed k hm
  exact blk_lt hk
/-- A trie at block g of W: all its blocks were made since w0. -/
def IsS46 (w0 W : World) (g : Nat) (T : Tr S33) : Prop := ∃ o a b bs, T = .node o a b ∧ Nod W g (some (T.all.length : Int)) o a b bs ∧ (g :: bs).Nodup ∧ ∀ k ∈ g :: bs, w0.heap.size ≤ k
/-- what is neither a trie nor a place of one -/
def Oth (W : World) (k : Nat) : Prop := ∃ cs t, W.heap[k]? = some (.cells cs t (0, 0)) ∧ t ≠ 44 ∧ t ≠ 46
/-- all blocks stay but tries and their places -/
def KeepT (W W' : World) : Prop := W.heap.size ≤ W'.heap.size ∧ ∀ k, Oth W k → W'.heap[k]? = W.heap[k]?
theorem Oth.not {W : World} {k : Nat} (h : Oth W k) {cs : Array Value} {t : TypeId} (hb : W.heap[k]? = some (.cells cs t (0, 0))) : ¬ (t = 44 ∨ t = 46) := by
  obtain ⟨cs', t', h1, h2, h3⟩ := h
  rw [h1] at hb
  injection hb with hb
  injection hb with _ e
  subst e
  exact fun h => h.elim h2 h3
theorem IsS46.frame {w0 W W1 : World} {g : Nat} {T : Tr S33} (h : IsS46 w0 W g T) (hk : ∀ k, k < W.heap.size → ¬ Oth W k → W1.heap[k]? = W.heap[k]?) : IsS46 w0 W1 g T := by
  obtain ⟨o, a, b, bs, rfl, hn, hd, hb⟩ := h
  refine ⟨o, a, b, bs, rfl, hn.frame (fun k hm => hk k (hn.lt k hm) (fun ho => ?_)), hd, hb⟩
  obtain ⟨cs, t, h1, h2⟩ := hn.typed k hm
  exact ho.not h1 h2
theorem IsS46.lt {w0 W : World} {g : Nat} {T : Tr S33} (h : IsS46 w0 W g T) : g < W.heap.size := by
  obtain ⟨o, a, b, bs, rfl, hn, hd, hb⟩ := h
  exact hn.lt g List.mem_cons_self
theorem IsS46.ge {w0 W : World} {g : Nat} {T : Tr S33} (h : IsS46 w0 W g T) : w0.heap.size ≤ g := by
  obtain ⟨o, a, b, bs, rfl, hn, hd, hb⟩ := h
  exact hb g List.mem_cons_self
/-- where a place hangs: whatever is put there makes a tree again -/
def Hole (w : World) (g : Nat) (n : Int) (C : Tr S33 → Tr S33) (h : Nat) (x : Option Int) (B : List Nat) : Prop :=
  ∀ (w' : World) (o : Option S33) (a b : Tr S33) (bs : List Nat), (∀ k ∈ B, w'.heap[k]? = w.heap[k]?) → Nod w' h x o a b bs → ∃ o' a' b' bs', C (.node o a b) = .node o' a' b' ∧ Nod w' g (some n) o' a' b' bs' ∧ (g :: bs').Perm (B ++ h :: bs)
theorem Hole.start (w : World) (g : Nat) (n : Int) : Hole w g n (fun s => s) g (some n) [] := fun _ o a b bs _ hn => ⟨o, a, b, bs, rfl, hn, List.Perm.refl _⟩
theorem Hole.frame {w w1 : World} {g : Nat} {n : Int} {C : Tr S33 → Tr S33} {h : Nat} {x : Option Int} {B : List Nat} (hh : Hole w g n C h x B) (hk : ∀ k ∈ B, w1.heap[k]? = w.heap[k]?) : Hole w1 g n C h x B :=
  fun w' o a b bs hk' hn => hh w' o a b bs (fun k hm => (hk' k hm).trans (hk k hm)) hn
theorem Hole.left {w : World} {g : Nat} {n : Int} {C : Tr S33 → Tr S33} {h h2 : Nat} {x : Option Int} {B bb : List Nat} {o : Option S33} {b : Tr S33} {vb : Value} (hh : Hole w g n C h x B) (hx : Nx w h x o (.pointer (some ⟨h2, 0, none⟩)) vb) (hb : At w b vb bb) : Hole w g n (fun s => C (.node o s b)) h2 none (B ++ h :: bb) := by
  intro w' o2 a2 b2 bs2 hk hn
  obtain ⟨va2, vb2, ba2, bb2, hx2, ha2, hb2, rfl⟩ := hn
  have hN : Nod w' h x o (.node o2 a2 b2) b ((h2 :: (ba2 ++ bb2)) ++ bb) :=
    ⟨_, _, h2 :: (ba2 ++ bb2), bb, hx.move (hk h (by simp)), ⟨h2, va2, vb2, ba2, bb2, rfl, hx2, ha2, hb2, rfl⟩, hb.frame (fun k hm => hk k (by simp [hm])), rfl⟩
  obtain ⟨o', a', b', bs', e, hn', hp⟩ := hh w' o (.node o2 a2 b2) b _ (fun k hm => hk k (by simp [hm])) hN
  refine ⟨o', a', b', bs', e, hn', hp.trans ?_⟩
  rw [List.append_assoc]
  refine List.Perm.append_left B ?_
  show (h :: ((h2 :: (ba2 ++ bb2)) ++ bb)).Perm (h :: (bb ++ h2 :: (ba2 ++ bb2)))
  exact List.Perm.cons h List.perm_append_comm
theorem Hole.right {w : World} {g : Nat} {n : Int} {C : Tr S33 → Tr S33} {h h2 : Nat} {x : Option Int} {B ba : List Nat} {o : Option S33} {a : Tr S33} {va : Value} (hh : Hole w g n C h x B) (hx : Nx w h x o va (.pointer (some ⟨h2, 0, none⟩))) (ha : At w a va ba) : Hole w g n (fun s => C (.node o a s)) h2 none (B ++ h :: ba) := by
  intro w' o2 a2 b2 bs2 hk hn
  obtain ⟨va2, vb2, ba2, bb2, hx2, ha2, hb2, rfl⟩ := hn
  have hN : Nod w' h x o a (.node o2 a2 b2) (ba ++ (h2 :: (ba2 ++ bb2))) :=
    ⟨_, _, ba, h2 :: (ba2 ++ bb2), hx.move (hk h (by simp)), ha.frame (fun k hm => hk k (by simp [hm])), ⟨h2, va2, vb2, ba2, bb2, rfl, hx2, ha2, hb2, rfl⟩, rfl⟩
  obtain ⟨o', a', b', bs', e, hn', hp⟩ := hh w' o a (.node o2 a2 b2) _ (fun k hm => hk k (by simp [hm])) hN
  refine ⟨o', a', b', bs', e, hn', hp.trans ?_⟩
  rw [List.append_assoc]
  exact List.Perm.refl _
theorem KeepT.refl (w : World) : KeepT w w := ⟨Nat.le_refl _, fun _ _ => rfl⟩
theorem KeepT.trans {w w1 w2 : World} (h : KeepT w w1) (k : KeepT w1 w2) : KeepT w w2 := ⟨Nat.le_trans h.1 k.1, fun i hi => by
  have h1 := h.2 i hi
  obtain ⟨cs, t, e, h2, h3⟩ := hi
  exact (k.2 i ⟨cs, t, h1.trans e, h2, h3⟩).trans h1⟩
theorem KeepT.of_below {w w1 : World} (h : Below w.heap.size w w1) : KeepT w w1 := ⟨h.size, fun i hi => by
  obtain ⟨cs, t, e, _⟩ := hi
  exact h.block i (blk_lt e)⟩
theorem KeepT.set {w w1 : World} (h : KeepT w w1) {g : Nat} {x : Option Int} {o : Option S33} {va vb : Value} (hn : Nx w1 g x o va vb) (i : Nat) (u : Value) : KeepT w (w1.setCell ⟨g, i, none⟩ u) :=
  ⟨by simpa [World.setCell] using h.1, fun k hk => by
    have h1 := h.2 k hk
    obtain ⟨cs, t, e, h2, h3⟩ := hk
    refine (heap_set w1 g i u k (fun he => ?_)).trans h1
    subst he
    obtain ⟨cs', t', e', ht⟩ := hn.typed
    exact Oth.not ⟨cs, t, h1.trans e, h2, h3⟩ e' ht⟩
theorem KeepT.blk {w w1 : World} (h : KeepT w w1) {g : Nat} {o : Obj} (hb : w.heap[g]? = some o) {cs : Array Value} {t : TypeId} (e : o = .cells cs t (0, 0)) (h1 : t ≠ 44) (h2 : t ≠ 46) : w1.heap[g]? = some o := (h.2 g ⟨cs, t, by rw [hb, e], h1, h2⟩).trans hb
theorem Tr.put_nil {α : Type} (p : List Bool) (r : α) : Tr.put .nil p r = Tr.put (.node none .nil .nil) p r := by
  cases p with
  | nil => rfl
  | cons k p => cases k <;> rfl
theorem Tr.get_nil {α : Type} (p : List Bool) : Tr.get (.nil : Tr α) p = none := by cases p <;> rfl
theorem Tr.get_nil2 {α : Type} (p : List Bool) : Tr.get (.nil : Tr α) p = Tr.get (.node none .nil .nil) p := by
  cases p with
  | nil => rfl
  | cons k p => cases k <;> simp [Tr.get]
theorem perm_left (B : List Nat) (h h2 : Nat) (l bb : List Nat) : (B ++ h :: ((h2 :: l) ++ bb)).Perm ((B ++ h :: bb) ++ h2 :: l) := by
  rw [List.append_assoc]
  exact List.Perm.append_left B (List.Perm.cons h List.perm_append_comm)
theorem perm_right (B : List Nat) (h h2 : Nat) (l ba : List Nat) : (B ++ h :: (ba ++ (h2 :: l))).Perm ((B ++ h :: ba) ++ h2 :: l) := by
  rw [List.append_assoc]
  exact List.Perm.refl _
theorem new_left {w w3 : World} {g : Nat} {n : Int} {C : Tr S33 → Tr S33} {h h2 : Nat} {x : Option Int} {B bb : List Nat} {o : Option S33} {b : Tr S33} {vb : Value} (hh : Hole w g n C h x B) (hx : Nx w h x o (.pointer none) vb) (hb : At w b vb bb) (hd : (B ++ h :: ([] ++ bb)).Nodup) (hlt : ∀ k ∈ B ++ h :: ([] ++ bb), k < w.heap.size) (hbel : Below w.heap.size w w3) (hg : h2 = w.heap.size) (hbox : Nx w3 h2 none none (.pointer none) (.pointer none)) :
    Hole (w3.setCell ⟨h, 6, none⟩ (.pointer (some ⟨h2, 0, none⟩))) g n (fun s => C (.node o s b)) h2 none (B ++ h :: bb) ∧ Nod (w3.setCell ⟨h, 6, none⟩ (.pointer (some ⟨h2, 0, none⟩))) h2 none none .nil .nil [] ∧ ((B ++ h :: bb) ++ h2 :: []).Nodup := by
  have hne : ∀ k, k ∈ B ∨ k ∈ bb → k ≠ h := by
    intro k hk he
    subst he
    rw [List.nil_append, List.nodup_append] at hd
    rcases hk with hk | hk
    · exact hd.2.2 k hk k List.mem_cons_self rfl
    · exact (List.nodup_cons.1 hd.2.1).1 hk
  have hmv : ∀ k, k ∈ B ∨ k ∈ bb → (w3.setCell ⟨h, 6, none⟩ (.pointer (some ⟨h2, 0, none⟩))).heap[k]? = w.heap[k]? := fun k hk => (heap_set _ _ _ _ _ (hne k hk)).trans (hbel.block k (hlt k (by rcases hk with hk | hk <;> simp [hk])))
  have h2ne : h2 ≠ h := by have := hx.lt; omega
  have hx3 : Nx w3 h x o (.pointer none) vb := hx.move (hbel.block h hx.lt)
  refine ⟨(hh.frame (fun k hk => hmv k (.inl hk))).left (hx3.set6 _) (hb.frame (fun k hk => hmv k (.inr hk))), ⟨_, _, [], [], hbox.move (heap_set _ _ _ _ _ h2ne), ⟨rfl, rfl⟩, ⟨rfl, rfl⟩, rfl⟩, ?_⟩
  rw [List.nodup_append]
  refine ⟨by simpa using hd, by simp, fun a ha b hb2 => ?_⟩
  rw [List.mem_singleton] at hb2
  have := hlt a (by simpa using ha)
  omega
theorem new_right {w w3 : World} {g : Nat} {n : Int} {C : Tr S33 → Tr S33} {h h2 : Nat} {x : Option Int} {B ba : List Nat} {o : Option S33} {a : Tr S33} {va : Value} (hh : Hole w g n C h x B) (hx : Nx w h x o va (.pointer none)) (ha : At w a va ba) (hd : (B ++ h :: (ba ++ [])).Nodup) (hlt : ∀ k ∈ B ++ h :: (ba ++ []), k < w.heap.size) (hbel : Below w.heap.size w w3) (hg : h2 = w.heap.size) (hbox : Nx w3 h2 none none (.pointer none) (.pointer none)) :
    Hole (w3.setCell ⟨h, 7, none⟩ (.pointer (some ⟨h2, 0, none⟩))) g n (fun s => C (.node o a s)) h2 none (B ++ h :: ba) ∧ Nod (w3.setCell ⟨h, 7, none⟩ (.pointer (some ⟨h2, 0, none⟩))) h2 none none .nil .nil [] ∧ ((B ++ h :: ba) ++ h2 :: []).Nodup := by
  have hne : ∀ k, k ∈ B ∨ k ∈ ba → k ≠ h := by
    intro k hk he
    subst he
    rw [List.append_nil, List.nodup_append] at hd
    rcases hk with hk | hk
    · exact hd.2.2 k hk k List.mem_cons_self rfl
    · exact (List.nodup_cons.1 hd.2.1).1 hk
  have hmv : ∀ k, k ∈ B ∨ k ∈ ba → (w3.setCell ⟨h, 7, none⟩ (.pointer (some ⟨h2, 0, none⟩))).heap[k]? = w.heap[k]? := fun k hk => (heap_set _ _ _ _ _ (hne k hk)).trans (hbel.block k (hlt k (by rcases hk with hk | hk <;> simp [hk])))
  have h2ne : h2 ≠ h := by have := hx.lt; omega
  have hx3 : Nx w3 h x o va (.pointer none) := hx.move (hbel.block h hx.lt)
  refine ⟨(hh.frame (fun k hk => hmv k (.inl hk))).right (hx3.set7 _) (ha.frame (fun k hk => hmv k (.inr hk))), ⟨_, _, [], [], hbox.move (heap_set _ _ _ _ _ h2ne), ⟨rfl, rfl⟩, ⟨rfl, rfl⟩, rfl⟩, ?_⟩
  rw [List.nodup_append]
  refine ⟨by simpa using hd, by simp, fun a ha b hb2 => ?_⟩
  rw [List.mem_singleton] at hb2
  have := hlt a (by simpa using ha)
  omega
theorem Tr.all_prune {α : Type} (T : Tr α) : Tr.all (Tr.prune T) = Tr.all T := by
  unfold Tr.prune
  split
  · rfl
  · rfl
namespace Tr
theorem len_put {α : Type} (p : List Bool) (r : α) : ∀ T : Tr α, (all (put T p r)).length + (get T p).toList.length = (all T).length + 1 := by
  induction p with
  | nil =>
    intro T
    cases T with
    | nil => rfl
    | node o a b => simp only [put, all, get, List.length_append, Option.toList_some, List.length_singleton]; omega
  | cons k p ih =>
    intro T
    have hn : ∀ (o : Option α) (a b : Tr α), (all (put (node o a b) (k :: p) r)).length + (get (node o a b) (k :: p)).toList.length = (all (node o a b)).length + 1 := by
      intro o a b
      cases k
      · have := ih a
        simp only [put, all, get, List.length_append] at this ⊢; omega
      · have := ih b
        simp only [put, all, get, List.length_append] at this ⊢; omega
    cases T with
    | nil =>
      have h1 := hn none nil nil
      rw [← put_nil] at h1
      have h2 : get (node none nil nil : Tr α) (k :: p) = get nil (k :: p) := by cases k <;> simp [get]
      rw [h2] at h1
      exact h1
    | node o a b => exact hn o a b
theorem len_drop {α : Type} (p : List Bool) : ∀ T : Tr α, (all (drop T p)).length + (get T p).toList.length = (all T).length := by
  induction p with
  | nil =>
    intro T
    cases T with
    | nil => rfl
    | node o a b => simp only [drop, all, get, List.length_append, Option.toList_none, List.length_nil]; omega
  | cons k p ih =>
    intro T
    cases T with
    | nil => simp [drop, get_nil]
    | node o a b =>
      cases k
      · have := ih a
        simp only [drop, all, all_prune, get, List.length_append] at this ⊢; omega
      · have := ih b
        simp only [drop, all, all_prune, get, List.length_append] at this ⊢; omega
end Tr
def Ty (w : World) (k : Nat) : Prop := ∃ cs t, w.heap[k]? = some (.cells cs t (0, 0)) ∧ (t = 44 ∨ t = 46)
theorem Ty.set {w : World} {k : Nat} (h : Ty w k) (g i : Nat) (u : Value) : Ty (w.setCell ⟨g, i, none⟩ u) k := by
  obtain ⟨cs, t, hb, ht⟩ := h
  by_cases e : k = g
  · subst e
    exact ⟨_, t, blk_set hb i u, ht⟩
  · exact ⟨cs, t, (heap_set w g i u k e).trans hb, ht⟩
theorem KeepT.setT {w w1 : World} (h : KeepT w w1) {g : Nat} (ht : Ty w1 g) (i : Nat) (u : Value) : KeepT w (w1.setCell ⟨g, i, none⟩ u) :=
  ⟨by simpa [World.setCell] using h.1, fun k hk => by
    have h1 := h.2 k hk
    obtain ⟨cs, t, e, h2, h3⟩ := hk
    refine (heap_set w1 g i u k (fun he => ?_)).trans h1
    subst he
    obtain ⟨cs', t', e', ht⟩ := ht
    exact Oth.not ⟨cs, t, h1.trans e, h2, h3⟩ e' ht⟩
theorem set_comm (w : World) (g h i j : Nat) (u v : Value) (hne : i ≠ j) : (w.setCell ⟨g, i, none⟩ u).setCell ⟨h, j, none⟩ v = (w.setCell ⟨h, j, none⟩ v).setCell ⟨g, i, none⟩ u := by
  unfold World.setCell
  simp only
  congr 1
  apply Array.ext_getElem?
  intro k
  simp only [Array.getElem?_modify]
  by_cases e1 : g = k <;> by_cases e2 : h = k <;> simp only [e1, e2, if_true, if_false]
  cases w.heap[k]? with
  | none => rfl
  | some o =>
    cases o with
    | cells cs t fr =>
      simp only [Option.map_some, Option.isSome_none, Bool.false_eq_true, if_false]
      rw [Array.setIfInBounds_comm _ _ (by omega)]
    | _ => rfl
/-- a pointer on the way down, read alone -/
def Cur (w : World) (v : Value) (s : Tr S33) : Prop := (v = .pointer none ∧ s = .nil) ∨ ∃ h x o a b bs, v = .pointer (some ⟨h, 0, none⟩) ∧ s = .node o a b ∧ Nod w h x o a b bs
theorem At.cur {w : World} {T : Tr S33} {v : Value} {bs : List Nat} (h : At w T v bs) : Cur w v T := by
  cases T with
  | nil => exact .inl ⟨h.1, rfl⟩
  | node o a b =>
    obtain ⟨k, va, vb, ba, bb, e, hn, ha, hb, _⟩ := h
    exact .inr ⟨k, none, o, a, b, ba ++ bb, e, rfl, va, vb, ba, bb, hn, ha, hb, rfl⟩
theorem Cur.frame {w w1 : World} {v : Value} {s : Tr S33} (h : Cur w v s) (hk : ∀ k, k < w.heap.size → ¬ Oth w k → w1.heap[k]? = w.heap[k]?) : Cur w1 v s := by
  rcases h with h | ⟨k, x, o, a, b, bs, e1, e2, hn⟩
  · exact .inl h
  · refine .inr ⟨k, x, o, a, b, bs, e1, e2, hn.frame (fun j hm => hk j (hn.lt j hm) (fun ho => ?_))⟩
    obtain ⟨cs, t, h1, h2⟩ := hn.typed j hm
    exact ho.not h1 h2
theorem Cur.below {w w1 : World} {v : Value} {s : Tr S33} (h : Cur w v s) (hb : Below w.heap.size w w1) : Cur w1 v s := h.frame (fun k hk _ => hb.block k hk)
theorem Cur.set {w : World} {v : Value} {s : Tr S33} (h : Cur w v s) {g : Nat} {cs : Array Value} {t : TypeId} (hb : w.heap[g]? = some (.cells cs t (0, 0))) (h1 : t ≠ 44) (h2 : t ≠ 46) (i : Nat) (u : Value) : Cur (w.setCell ⟨g, i, none⟩ u) v s :=
  h.frame (fun k _ hn => heap_set w g i u k (fun e => hn (by subst e; exact ⟨cs, t, hb, h1, h2⟩)))
theorem IsS46.cur {w0 W : World} {g : Nat} {T : Tr S33} (h : IsS46 w0 W g T) : Cur W (.pointer (some ⟨g, 0, none⟩)) T := by
  obtain ⟨o, a, b, bs, rfl, hn, _, _⟩ := h
  exact .inr ⟨g, _, o, a, b, bs, rfl, rfl, hn⟩
theorem IsS46.below {w0 W W1 : World} {g : Nat} {T : Tr S33} (h : IsS46 w0 W g T) (hb : Below W.heap.size W W1) : IsS46 w0 W1 g T := h.frame (fun k hk _ => hb.block k hk)
def bestCells (d : Option S33) : Array Value := #[.int .u32 (oR d).f0.f0, .int .u8 (oR d).f0.f1, .int .i64 (oR d).f1, .int .u16 (oR d).f2, .int .u16 (oR d).f3]
/-- what 'drop' makes of a place: nothing, if there is no route -/
def Tr.dropC (T : Tr S33) (p : List Bool) : Tr S33 := if (T.get p).isSome = true then T.drop p else T
theorem Tr.dropC_nil (o : Option S33) (a b : Tr S33) : Tr.dropC (.node o a b) [] = .node none a b := by
  unfold Tr.dropC
  cases o with
  | none => rfl
  | some r => rfl
theorem Tr.dropC_no {T : Tr S33} {p : List Bool} (h : T.get p = none) : T.dropC p = T := by unfold Tr.dropC; rw [h]; rfl
theorem Tr.dropC_left {o : Option S33} {a b : Tr S33} {p : List Bool} (h : (a.get p).isSome = true) : Tr.dropC (.node o a b) (false :: p) = .node o (Tr.prune (a.dropC p)) b := by
  unfold Tr.dropC
  rw [if_pos h, if_pos (show ((Tr.node o a b).get (false :: p)).isSome = true from h)]
  rfl
theorem Tr.dropC_right {o : Option S33} {a b : Tr S33} {p : List Bool} (h : (b.get p).isSome = true) : Tr.dropC (.node o a b) (true :: p) = .node o a (Tr.prune (b.dropC p)) := by
  unfold Tr.dropC
  rw [if_pos h, if_pos (show ((Tr.node o a b).get (true :: p)).isSome = true from h)]
  rfl
/-- all blocks stay but these; and the base -/
def Kb (w w' : World) (bs : List Nat) : Prop := w.heap.size ≤ w'.heap.size ∧ ∀ k, k < w.heap.size → k ∉ bs → w'.heap[k]? = w.heap[k]?
theorem Kb.of_below {w w' : World} (h : Below w.heap.size w w') (bs : List Nat) : Kb w w' bs := ⟨h.size, fun k hk _ => h.block k hk⟩
theorem Kb.trans {w w1 w2 : World} {bs bs2 : List Nat} (h : Kb w w1 bs) (k : Kb w1 w2 bs2) (hs : ∀ j ∈ bs2, j ∈ bs) : Kb w w2 bs := ⟨Nat.le_trans h.1 k.1, fun j hj hn => (k.2 j (Nat.lt_of_lt_of_le hj h.1) (fun hm => hn (hs j hm))).trans (h.2 j hj hn)⟩
theorem Kb.set {w w1 : World} {bs : List Nat} (h : Kb w w1 bs) {g : Nat} (hg : g ∈ bs) (i : Nat) (u : Value) : Kb w (w1.setCell ⟨g, i, none⟩ u) bs := ⟨by simpa [World.setCell] using h.1, fun j hj hn => (heap_set w1 g i u j (fun e => hn (by rw [e]; exact hg))).trans (h.2 j hj hn)⟩
theorem Kb.keepT {w w1 : World} {bs : List Nat} (h : Kb w w1 bs) (ht : ∀ k ∈ bs, Ty w k) : KeepT w w1 := ⟨h.1, fun k ho => h.2 k (by obtain ⟨cs, t, e, _⟩ := ho; exact blk_lt e) (fun hm => by obtain ⟨cs, t, e, h2⟩ := ht k hm; exact ho.not e h2)⟩
theorem At.nil_iff {w : World} {T : Tr S33} {v : Value} {bs : List Nat} (h : At w T v bs) : (v = .pointer none ∧ T = .nil) ∨ ((∃ k, v = .pointer (some ⟨k, 0, none⟩)) ∧ ∃ o a b, T = .node o a b) := by
  cases T with
  | nil => exact .inl ⟨h.1, rfl⟩
  | node o a b =>
    obtain ⟨k, va, vb, ba, bb, e, _⟩ := h
    exact .inr ⟨⟨k, e⟩, o, a, b, rfl⟩
theorem nod_left {w5 w6 : World} {h h2 : Nat} {x : Option Int} {o o2 : Option S33} {a2 b2 b : Tr S33} {vb : Value} {bb bs2 bs2' : List Nat} (hx : Nx w5 h x o (.pointer (some ⟨h2, 0, none⟩)) vb) (hb : At w5 b vb bb) (hd : (h :: ((h2 :: bs2) ++ bb)).Nodup) (hk : Kb w5 w6 (h2 :: bs2)) (hn : Nod w6 h2 none o2 a2 b2 bs2') (hsub : ∀ k ∈ bs2', k ∈ bs2) (hnd : h2 ∉ bs2' ∧ bs2'.Nodup) :
    (∃ bs', Nod w6 h x o (.node o2 a2 b2) b bs' ∧ (∀ k ∈ bs', k ∈ (h2 :: bs2) ++ bb) ∧ (h ∉ bs' ∧ bs'.Nodup)) ∧ (∃ bs', Nod (w6.setCell ⟨h, 6, none⟩ (.pointer none)) h x o .nil b bs' ∧ (∀ k ∈ bs', k ∈ (h2 :: bs2) ++ bb) ∧ (h ∉ bs' ∧ bs'.Nodup)) := by
  obtain ⟨hh, hd2⟩ := List.nodup_cons.1 hd
  rw [List.nodup_append] at hd2
  obtain ⟨_, hdb, hdis⟩ := hd2
  have hx6 : Nx w6 h x o (.pointer (some ⟨h2, 0, none⟩)) vb := hx.move (hk.2 h hx.lt (fun hm => hh (List.mem_append_left _ hm)))
  have hbm : ∀ k ∈ bb, w6.heap[k]? = w5.heap[k]? := fun k hm => hk.2 k (hb.lt k hm) (fun h2m => hdis k h2m k hm rfl)
  obtain ⟨va2, vb2, ba2, bb2, hx2, ha2, hb2, rfl⟩ := hn
  refine ⟨⟨(h2 :: (ba2 ++ bb2)) ++ bb, ⟨_, _, h2 :: (ba2 ++ bb2), bb, hx6, ⟨h2, va2, vb2, ba2, bb2, rfl, hx2, ha2, hb2, rfl⟩, hb.frame hbm, rfl⟩, fun k hm => ?_, fun hm => ?_, ?_⟩, ⟨bb, ⟨_, _, [], bb, hx6.set6 _, ⟨rfl, rfl⟩, (hb.frame hbm).frame (fun k hm => heap_set _ _ _ _ _ (fun e => hh (List.mem_append_right _ (by rw [← e]; exact hm)))), rfl⟩, fun k hm => List.mem_append_right _ hm, fun hm => hh (List.mem_append_right _ hm), hdb⟩⟩
  · rcases List.mem_append.1 hm with hm | hm
    · rcases List.mem_cons.1 hm with rfl | hm
      · simp
      · exact List.mem_append_left _ (List.mem_cons_of_mem _ (hsub k hm))
    · exact List.mem_append_right _ hm
  · rcases List.mem_append.1 hm with hm | hm
    · rcases List.mem_cons.1 hm with rfl | hm
      · exact hh (by simp)
      · exact hh (List.mem_append_left _ (List.mem_cons_of_mem _ (hsub h hm)))
    · exact hh (List.mem_append_right _ hm)
  · rw [List.nodup_append]
    refine ⟨List.nodup_cons.2 hnd, hdb, fun k hk1 j hj e => ?_⟩
    subst e
    rcases List.mem_cons.1 hk1 with rfl | hm
    · exact hdis k (by simp) k hj rfl
    · exact hdis k (List.mem_cons_of_mem _ (hsub k hm)) k hj rfl
theorem nod_right {w5 w6 : World} {h h2 : Nat} {x : Option Int} {o o2 : Option S33} {a2 b2 a : Tr S33} {va : Value} {ba bs2 bs2' : List Nat} (hx : Nx w5 h x o va (.pointer (some ⟨h2, 0, none⟩))) (ha : At w5 a va ba) (hd : (h :: (ba ++ (h2 :: bs2))).Nodup) (hk : Kb w5 w6 (h2 :: bs2)) (hn : Nod w6 h2 none o2 a2 b2 bs2') (hsub : ∀ k ∈ bs2', k ∈ bs2) (hnd : h2 ∉ bs2' ∧ bs2'.Nodup) :
    (∃ bs', Nod w6 h x o a (.node o2 a2 b2) bs' ∧ (∀ k ∈ bs', k ∈ ba ++ (h2 :: bs2)) ∧ (h ∉ bs' ∧ bs'.Nodup)) ∧ (∃ bs', Nod (w6.setCell ⟨h, 7, none⟩ (.pointer none)) h x o a .nil bs' ∧ (∀ k ∈ bs', k ∈ ba ++ (h2 :: bs2)) ∧ (h ∉ bs' ∧ bs'.Nodup)) := by
  obtain ⟨hh, hd2⟩ := List.nodup_cons.1 hd
  rw [List.nodup_append] at hd2
  obtain ⟨hda, _, hdis⟩ := hd2
  have hx6 : Nx w6 h x o va (.pointer (some ⟨h2, 0, none⟩)) := hx.move (hk.2 h hx.lt (fun hm => hh (List.mem_append_right _ hm)))
  have ham : ∀ k ∈ ba, w6.heap[k]? = w5.heap[k]? := fun k hm => hk.2 k (ha.lt k hm) (fun h2m => hdis k hm k h2m rfl)
  obtain ⟨va2, vb2, ba2, bb2, hx2, ha2, hb2, rfl⟩ := hn
  refine ⟨⟨ba ++ (h2 :: (ba2 ++ bb2)), ⟨_, _, ba, h2 :: (ba2 ++ bb2), hx6, ha.frame ham, ⟨h2, va2, vb2, ba2, bb2, rfl, hx2, ha2, hb2, rfl⟩, rfl⟩, fun k hm => ?_, fun hm => ?_, ?_⟩, ⟨ba, ⟨_, _, ba, [], hx6.set7 _, (ha.frame ham).frame (fun k hm => heap_set _ _ _ _ _ (fun e => hh (List.mem_append_left _ (by rw [← e]; exact hm)))), ⟨rfl, rfl⟩, by simp⟩, fun k hm => List.mem_append_left _ hm, fun hm => hh (List.mem_append_left _ hm), hda⟩⟩
  · rcases List.mem_append.1 hm with hm | hm
    · exact List.mem_append_left _ hm
    · rcases List.mem_cons.1 hm with rfl | hm
      · simp
      · exact List.mem_append_right _ (List.mem_cons_of_mem _ (hsub k hm))
  · rcases List.mem_append.1 hm with hm | hm
    · exact hh (List.mem_append_left _ hm)
    · rcases List.mem_cons.1 hm with rfl | hm
      · exact hh (by simp)
      · exact hh (List.mem_append_right _ (List.mem_cons_of_mem _ (hsub h hm)))
  · rw [List.nodup_append]
    refine ⟨hda, List.nodup_cons.2 hnd, fun k hk1 j hj e => ?_⟩
    subst e
    rcases List.mem_cons.1 hj with rfl | hm
    · exact hdis k hk1 k (by simp) rfl
    · exact hdis k hk1 k (List.mem_cons_of_mem _ (hsub k hm)) rfl
theorem eq42 (w : World) (a b : Option Addr) : (Op.equalIn 10000 42 (.agg #[.pointer a, .pointer b]) (.agg #[.pointer none, .pointer none])).run Try.prog w = .ok (a.isNone && b.isNone) w := by
  obtain ⟨i, hi⟩ : ∃ i, Try.prog.info? 41 = some i := ⟨_, rfl⟩
  have hc : Try.prog.cellsOf 41 = 1 := by kernel_rfl
  have hp0 : ∀ (d : Nat) (x : Option Addr), (Op.equalIn (d + 1) 41 (.pointer x) (.pointer none)).run Try.prog w = .ok x.isNone w := fun d x => by
    cases x <;> simp [Op.equalIn, run_underlying Try.underlying41]
  have hp : ∀ x : Option Addr, (Op.equalIn 9999 41 (.pointer x) (.pointer none)).run Try.prog w = .ok x.isNone w := hp0 9998
  have p0 : ∀ x y : Value, (part 41 #[x, y] (0 * 1)).run Try.prog w = .ok x w := fun x y => by
    simp [part, run_sizeOf w hi, hc]
  have p1 : ∀ x y : Value, (part 41 #[x, y] (1 * 1)).run Try.prog w = .ok y w := fun x y => by
    simp [part, run_sizeOf w hi, hc]
  rw [run_equalIn_array w 9999 _ _ Try.underlying42 hi, hc]
  simp only [List.range, List.range.loop, Op.eqItems, Sem.run_bind, p0, p1, hp, Result.andThen_ok]
  cases a with
  | some a =>
    simp only [Option.isNone_some, Bool.not_false, if_true, Bool.false_and]
    rfl
  | none =>
    simp only [Option.isNone_none, Bool.not_true, Bool.false_eq_true, if_false, Sem.run_bind, p1, hp, Result.andThen_ok, Bool.true_and]
    cases b with
    | some b =>
      simp only [Option.isNone_some, Bool.not_false, if_true]
      rfl
    | none =>
      simp only [Option.isNone_none, Bool.not_true, Bool.false_eq_true, if_false]
      rfl
theorem grown_trans {w w1 w2 : World} {r r1 : Option Nat} (h : w.grownBy w1 r) (k : w1.grownBy w2 r1) (hr : r1 = r ∨ ∃ b, r1 = some b ∧ w.heap.size ≤ b) : w.grownBy w2 r :=
  ⟨k.os.trans h.os, k.tape.trans h.tape, k.output.trans h.output, Nat.le_trans h.size k.size, fun j hj hn => (k.block j (Nat.lt_of_lt_of_le hj h.size) (fun e => by
    rcases hr with hr | ⟨b, hr, hb⟩
    · exact hn (e.trans hr)
    · rw [hr] at e
      injection e with e
      omega)).trans (h.block j hj hn)⟩
theorem Cur.grown {w w1 : World} {v u : Value} {s : Tr S33} {b : Nat} {ok : Nat → Prop} {l : List S33} (h : Cur w v s) (hR : k33.R 33 w b ok u l) (hg : w.grownBy w1 u.ownBlock) : Cur w1 v s :=
  h.frame (fun k hk hn => hg.block k hk (fun e => hn (by
    obtain ⟨cs, hc⟩ := Kd.R_typed hR k e.symm
    exact ⟨cs, 33, hc, by decide, by decide⟩)))
theorem hat_trans {w w1 : World} {r r1 r2 : Option Nat} (h : r1 = r ∨ ∃ b, r1 = some b ∧ w.heap.size ≤ b) (hs : w.heap.size ≤ w1.heap.size) (k : r2 = r1 ∨ ∃ b, r2 = some b ∧ w1.heap.size ≤ b) : r2 = r ∨ ∃ b, r2 = some b ∧ w.heap.size ≤ b := by
  rcases k with k | ⟨b, k, hb⟩
  · rw [k]; exact h
  · exact .inr ⟨b, k, Nat.le_trans hs hb⟩
theorem Oth.of_blk {W : World} {k : Nat} {cs : Array Value} {t : TypeId} (h : W.heap[k]? = some (.cells cs t (0, 0))) (h1 : t ≠ 44) (h2 : t ≠ 46) : Oth W k := ⟨cs, t, h, h1, h2⟩
theorem Oth.set {W : World} {k : Nat} (h : Oth W k) {p : Addr} {u : Value} : Oth (W.setCell p u) k := by
  obtain ⟨cs, t, hb, h1, h2⟩ := h
  by_cases e : k = p.block
  · subst e
    by_cases hs : p.spot.isSome = true
    · exact ⟨cs, t, by simp [World.setCell, Array.getElem?_modify, hb, hs], h1, h2⟩
    · exact ⟨cs.setIfInBounds p.off u, t, by simp [World.setCell, Array.getElem?_modify, hb, hs], h1, h2⟩
  · exact ⟨cs, t, (Below.heap_setCell W p u k e).trans hb, h1, h2⟩
theorem Oth.alloc {W : World} {k : Nat} (h : Oth W k) {o : Obj} : Oth (W.alloc o) k := by
  obtain ⟨cs, t, hb, h1, h2⟩ := h
  exact ⟨cs, t, blk_alloc hb o, h1, h2⟩
theorem Oth.drewN {W : World} {k m : Nat} (h : Oth W k) : Oth (W.drewN m) k := h
theorem Oth.drew {W : World} {k : Nat} (h : Oth W k) : Oth W.drew k := h
theorem IsS46.root {w0 W : World} {g : Nat} {T : Tr S33} (h : IsS46 w0 W g T) : ∃ cs, W.heap[g]? = some (.cells cs 46 (0, 0)) := by
  obtain ⟨o, a, b, bs, rfl, hn, _, _⟩ := h
  obtain ⟨va, vb, ba, bb, hx, _, _, _⟩ := hn
  exact ⟨_, hx⟩
section
variable {w0 W : World} {g : Nat} {T : Tr S33} {α : Type} {d : Kd α} {e : Nat} {base : Nat} {ok : Nat → Prop} {v : Value} {xs : List α}
theorem IsS46.grown {W1 : World} {row : Option Nat} (h : IsS46 w0 W g T) (hw : W.grownBy W1 row) (hne : ∀ k, row = some k → Oth W k) : IsS46 w0 W1 g T := h.frame (fun k hk hn => hw.block k hk (fun e => hn (hne k e.symm)))
theorem IsS46.off (ho : d.R e W base ok v xs) (ht : e ≠ 44 ∧ e ≠ 46) : ∀ k, v.ownBlock = some k → Oth W k := fun k hk => by
  obtain ⟨cs, hc⟩ := Kd.R_typed ho k hk
  exact ⟨cs, e, hc, ht.1, ht.2⟩
theorem IsS46.own_ne (h : IsS46 w0 W g T) (ho : d.R e W base ok v xs) (ht : e ≠ 46) : some g ≠ v.ownBlock := by
  obtain ⟨cs, hb⟩ := h.root
  exact Kd.R_ne ho hb ht
theorem IsS46.own_neQ (h : IsS46 w0 W g T) (ho : d.Q e W base ok v xs) (ht : e ≠ 46) : some g ≠ v.ownBlock := by
  obtain ⟨cs, hb⟩ := h.root
  exact Kd.Q_ne ho hb ht
theorem IsS46.fresh (h : IsS46 w0 W g T) : ∀ k, W.heap.size ≤ k → k ≠ g := fun k hk => by have := h.lt; omega
theorem IsS46.alloc (h : IsS46 w0 W g T) (o : Obj) : IsS46 w0 (W.alloc o) g T := h.below (below_alloc (Below.refl _ _) o)
theorem IsS46.drewN (h : IsS46 w0 W g T) (m : Nat) : IsS46 w0 (W.drewN m) g T := h.frame (fun _ _ _ => rfl)
theorem IsS46.drew (h : IsS46 w0 W g T) : IsS46 w0 W.drew g T := h.frame (fun _ _ _ => rfl)
theorem IsS46.at_ {w' : World} {m : Nat} (hq : W.drewN m = w') (h : IsS46 w0 W g T) : IsS46 w0 w' g T := by subst hq; exact IsS46.drewN h m
theorem IsS46.apart (h : IsS46 w0 W g T) (ho : d.R e W base ok v xs) (ht : ∀ q, q ∈ e :: d.E → q ≠ 46) : d.R e W base (fun k => ok k ∧ k ≠ g) v xs := by
  obtain ⟨cs, hb⟩ := h.root
  exact Kd.R_types ho hb ht
theorem IsS46.apartQ (h : IsS46 w0 W g T) (ho : d.Q e W base ok v xs) (ht : ∀ q, q ∈ e :: d.E → q ≠ 46) : d.Q e W base (fun k => ok k ∧ k ≠ g) v xs := by
  obtain ⟨cs, hb⟩ := h.root
  exact Kd.Q_types ho hb ht
theorem IsS46.ne_blk {a : Nat} {cs : Array Value} {t : TypeId} {fr : Nat × Nat} (h : IsS46 w0 W g T) (hb2 : W.heap[a]? = some (.cells cs t fr)) (ht : t ≠ 46) : g ≠ a := by
  obtain ⟨cs', hb⟩ := h.root
  rintro rfl
  rw [hb] at hb2
  injection hb2 with hb2
  injection hb2 with _ ht2
  exact ht ht2.symm
theorem IsS46.far {p : Addr} (h : IsS46 w0 W g T) (ho : Oth W p.block) (u : Value) : IsS46 w0 (W.setCell p u) g T := h.frame (fun k _ hn => Below.heap_setCell W p u k (fun e => hn (by rw [e]; exact ho)))
theorem IsS46.mk0 (hb : W.heap[g]? = some (.cells #[.bool false, .int .u32 0, .int .u8 0, .int .i64 0, .int .u16 0, .int .u16 0, .pointer none, .pointer none, .int .i64 0] 46 (0, 0))) (hg : w0.heap.size ≤ g) : IsS46 w0 W g (Tr.node none Tr.nil Tr.nil) :=
  ⟨none, .nil, .nil, [], rfl, ⟨_, _, [], [], hb, ⟨rfl, rfl⟩, ⟨rfl, rfl⟩, rfl⟩, by simp, fun k hk => by
    rw [List.mem_singleton] at hk
    subst hk
    exact hg⟩
theorem Kd.R_keepT {w w1 : World} (h : d.R e w base ok v xs) (hk : KeepT w w1) (ht : ∀ q, q ∈ e :: d.E → q ≠ 44 ∧ q ≠ 46) : d.R e w1 base ok v xs :=
  Kd.R_mono (Kd.R_move (Kd.R_bound h) (fun k hk2 => hk.2 k (by
    obtain ⟨_, _, _, q, hq, cs, hc⟩ := hk2
    exact ⟨cs, q, hc, (ht q hq).1, (ht q hq).2⟩))) (fun _ h => h.1)
theorem Kd.R_oldT {w w1 : World} (h : d.R e w base ok v xs) (hk : KeepT w w1) (ht : ∀ q, q ∈ e :: d.E → q ≠ 44 ∧ q ≠ 46) : d.R e w1 base (fun k => ok k ∧ k < w.heap.size) v xs :=
  Kd.R_mono (Kd.R_move (Kd.R_bound h) (fun k hk2 => hk.2 k (by
    obtain ⟨_, _, _, q, hq, cs, hc⟩ := hk2
    exact ⟨cs, q, hc, (ht q hq).1, (ht q hq).2⟩))) (fun _ h => ⟨h.1, h.2.2.1⟩)
end

/-! ### trie_Trie_Put: function 14 -/
def trie_Trie_Put.f (T : Tr S33) (a1_0 a1_1 a1_2 a1_3 a1_4 : Int) : Option (Int × Tr S33) :=
  (prefix_Right.f a1_0 a1_1).bind fun rt => if rt = true then (if T.all.length < 1000000 then some (0, T.put (pathFrom a1_0 a1_1.toNat 0) ⟨⟨a1_0, a1_1⟩, a1_2, a1_3, a1_4⟩) else none) else some (1, T)
set_option maxHeartbeats 8000000 in
set_option maxRecDepth 100000 in
theorem trie_Trie_Put.calls (g : Nat) (T : Tr S33) (a1_0 a1_1 a1_2 a1_3 a1_4 : Int) (r1 : Int) (r2 : Tr S33) (w0 w : World) (hI : IsS46 w0 w g T) (hB : Below w0.heap.size w0 w) (h : trie_Trie_Put.f T a1_0 a1_1 a1_2 a1_3 a1_4 = some (r1, r2)) :
    Calls Try.prog 14 #[.pointer (some ⟨g, 0, none⟩), .agg #[.int .u32 a1_0, .int .u8 a1_1, .int .i64 a1_2, .int .u16 a1_3, .int .u16 a1_4]] w fun e w' => e = .returned (.int .i64 r1) ∧ IsS46 w0 w' g r2 ∧ Below w0.heap.size w0 w' ∧ KeepT w w' := by
  have hu33 := Try.underlying33
  have hu44 := Try.underlying44
  have hu46 := Try.underlying46
  have hu42 := Try.underlying42
  unfold trie_Trie_Put.f at h
  obtain ⟨rt, hrt, h⟩ := Option.bind_eq_some_iff.mp h
  have HI := Aside0.mk hI
  have HB := Aside0.mk hB
  have HRT := Aside0.mk hrt
  have HH := Aside0.mk h
  clear hI hB hrt h
  go_enter Try.func14, Try.ntmps14
  go_wp2_with ((with_reducible refine gate_dst (N := 3) rfl ?_); (try (refine gate_guard (by rfl) ?_; dsimp only)); refine box_event ?hg (N := 3) ?hd (cs := #[.int .u32 a1_0, .int .u8 a1_1, .int .i64 a1_2, .int .u16 a1_3, .int .u16 a1_4]) (t := 33) ?hr ?_; (case hd => rfl); (case hg => rfl); (case hr => first | (go_simp; done) | (go_simp; rfl)); intro g3 hg w1 hbox hb; have BK := Aside0.mk hbox; have HB1 := Aside0.mk hb; clear hg hbox hb; have x0 : w1.cell? ⟨g3, 0, none⟩ = some (.int .u32 a1_0) := (blk_cell BK.out 0).trans rfl; have x1 : w1.cell? ⟨g3, 1, none⟩ = some (.int .u8 a1_1) := (blk_cell BK.out 1).trans rfl)
  refine (prefix_Right.calls a1_0 a1_1 rt _ HRT.out).mono ?_
  rintro e w2 ⟨rfl, hb⟩
  have BK2 := Aside0.mk (blk_below BK.out hb)
  have HB2 := Aside0.mk (below_step HB1.out hb)
  clear hb x0 x1 BK HB1
  have HI2 := Aside0.mk (HI.out.frame (fun k hk _ => HB2.out.block k hk))
  cases rt
  · have hh : some ((1 : Int), T) = some (r1, r2) := HH.out
    simp only [Option.some.injEq, Prod.mk.injEq] at hh
    obtain ⟨rfl, rfl⟩ := hh
    go_wp2_with (fail)
    go_ret
    exact ⟨rfl, HI2.out, below_step HB.out HB2.out, KeepT.of_below HB2.out⟩
  have hh0 : (if T.all.length < 1000000 then some ((0 : Int), T.put (pathFrom a1_0 a1_1.toNat 0) ⟨⟨a1_0, a1_1⟩, a1_2, a1_3, a1_4⟩) else none) = some (r1, r2) := HH.out
  have hcnt : T.all.length < 1000000 := by
    by_cases h2 : T.all.length < 1000000
    · exact h2
    · rw [if_neg h2] at hh0; cases hh0
  rw [if_pos hcnt] at hh0
  have hh : some ((0 : Int), T.put (pathFrom a1_0 a1_1.toNat 0) ⟨⟨a1_0, a1_1⟩, a1_2, a1_3, a1_4⟩) = some (r1, r2) := hh0
  clear hh0
  have HCN := Aside0.mk hcnt
  clear hcnt
  simp only [Option.some.injEq, Prod.mk.injEq] at hh
  obtain ⟨rfl, rfl⟩ := hh
  clear HH
  have hle : a1_1 ≤ 32 := by
    have h1 := HRT.out
    unfold prefix_Right.f at h1
    by_cases h2 : a1_1 ≤ 32
    · exact h2
    · rw [if_neg h2] at h1; cases h1
  obtain ⟨o, a, b, bs, rfl, hn, hd, hge⟩ := HI2.out
  obtain ⟨n, hnn⟩ : ∃ n : Int, n = ((Tr.node o a b).all.length : Int) := ⟨_, rfl⟩
  rw [← hnn] at hn
  have HN := Aside0.mk hn
  have HD := Aside0.mk hd
  have HG := Aside0.mk hge
  have HNN := Aside0.mk hnn
  clear hn hd hge hnn HI2 HI
  have x0 : w2.cell? ⟨g3, 0, none⟩ = some (.int .u32 a1_0) := (blk_cell BK2.out 0).trans rfl
  have x1 : w2.cell? ⟨g3, 1, none⟩ = some (.int .u8 a1_1) := (blk_cell BK2.out 1).trans rfl
  go_wp2_with (fail)
  go_loopg [20, 5] a1_1.toNat (fun kx s20 s5 wr => ∃ (i : Nat) (h : Nat) (x : Option Int) (C : Tr S33 → Tr S33) (o' : Option S33) (a' b' : Tr S33) (bs' B : List Nat), s20 = .int .u8 i ∧ s5 = .pointer (some ⟨h, 0, none⟩) ∧ i ≤ a1_1.toNat ∧ a1_1.toNat - i ≤ kx ∧ Aside0 (Hole wr g n C h x B) ∧ Aside0 (Nod wr h x o' a' b' bs') ∧ Aside0 (B ++ h :: bs').Nodup ∧ Aside0 (∀ k ∈ B ++ h :: bs', w0.heap.size ≤ k ∧ k < wr.heap.size) ∧ Aside0 (∀ r, (Tr.node o a b).put (pathFrom a1_0 a1_1.toNat 0) r = C ((Tr.node o' a' b').put (pathFrom a1_0 (a1_1.toNat - i) i) r)) ∧ Aside0 ((Tr.node o a b).get (pathFrom a1_0 a1_1.toNat 0) = (Tr.node o' a' b').get (pathFrom a1_0 (a1_1.toNat - i) i)) ∧ Aside0 (wr.heap[g3]? = some (.cells #[.int .u32 a1_0, .int .u8 a1_1, .int .i64 a1_2, .int .u16 a1_3, .int .u16 a1_4] 33 (0, 0))) ∧ Aside0 (Below w0.heap.size w0 wr) ∧ Aside0 (KeepT w wr))
  case atStart => exact ⟨0, g, some n, fun s => s, o, a, b, bs, [], rfl, rfl, Nat.zero_le _, Nat.le_refl _, ⟨Hole.start _ _ _⟩, HN, HD, ⟨fun k hk => ⟨HG.out k hk, HN.out.lt k hk⟩⟩, ⟨fun _ => rfl⟩, ⟨rfl⟩, BK2, ⟨below_step HB.out HB2.out⟩, ⟨KeepT.of_below HB2.out⟩⟩
  case round =>
    obtain ⟨i, h, x, C, o', a', b', bs', B, rfl, rfl, hi, hgas, HHole, HN, HD, HG, HP, HGET, BK, HB, HK⟩ := hrel
    by_cases hlt : i < a1_1.toNat
    · have p1 : decide ((i : Int) < a1_1) = true := decide_eq_true (by omega)
      have x0 : wr.cell? ⟨g3, 0, none⟩ = some (.int .u32 a1_0) := (blk_cell BK.out 0).trans rfl
      have x1 : wr.cell? ⟨g3, 1, none⟩ = some (.int .u8 a1_1) := (blk_cell BK.out 1).trans rfl
      go_wp2_with (fail)
      have hside := side_is a1_0 i
      obtain ⟨bt, hbt⟩ : ∃ bt : Bool, (trie_side.f a1_0 (i : Int) == some 1) = bt := ⟨_, rfl⟩
      rw [hbt] at hside
      obtain ⟨m, hm⟩ : ∃ m : Nat, a1_1.toNat - i = m + 1 := ⟨a1_1.toNat - i - 1, by omega⟩
      have hm2 : a1_1.toNat - (i + 1) = m := by omega
      have hpath : pathFrom a1_0 (a1_1.toNat - i) i = bt :: pathFrom a1_0 (a1_1.toNat - (i + 1)) (i + 1) := by rw [hm, hm2, pathFrom, hbt]
      rw [hpath] at HP HGET
      refine (trie_side.calls a1_0 (i : Int) _ _ hside).mono ?_
      rintro e wr2 ⟨rfl, hdr⟩
      have hb := hdr.below
      have HHole2 := Aside0.mk (HHole.out.frame (fun k hk => hb.block k (HG.out k (by simp [hk])).2))
      have HN2 := Aside0.mk (HN.out.frame (fun k hk => hb.block k (HG.out k (List.mem_append_right _ hk)).2))
      have HG2 := Aside0.mk (show ∀ k ∈ B ++ h :: bs', w0.heap.size ≤ k ∧ k < wr2.heap.size from fun k hk => ⟨(HG.out k hk).1, Nat.lt_of_lt_of_le (HG.out k hk).2 hb.size⟩)
      have BK2 := Aside0.mk (blk_below BK.out hb)
      have HB2 := Aside0.mk (below_step HB.out hb)
      have HK2 := Aside0.mk (HK.out.trans (KeepT.of_below hb))
      clear hbt hside hm hm2 hpath hdr hb HHole HN HG BK HB HK x0 x1
      have HHole := HHole2
      have HN := HN2
      have HG := HG2
      have BK := BK2
      have HB := HB2
      have HK := HK2
      clear HHole2 HN2 HG2 BK2 HB2 HK2
      obtain ⟨va, vb, ba, bb, hx, ha, hb', rfl⟩ := HN.out
      clear HN
      cases bt
      · cases a' with
        | node o2 a2 b2 =>
          obtain ⟨h2, va2, vb2, ba2, bb2, rfl, hx2, ha2, hb2, rfl⟩ := ha
          have c0 : wr2.cell? ⟨h, 6, none⟩ = some (.pointer (some ⟨h2, 0, none⟩)) := hx.cell.2.2.2.2.2.2.1
          have HH2 := Aside0.mk (HHole.out.left hx hb')
          have HN2 := Aside0.mk (show Nod wr2 h2 none o2 a2 b2 (ba2 ++ bb2) from ⟨va2, vb2, ba2, bb2, hx2, ha2, hb2, rfl⟩)
          have HPM := Aside0.mk (perm_left B h h2 (ba2 ++ bb2) bb)
          have HD2 := Aside0.mk (HPM.out.nodup_iff.1 HD.out)
          have HG2 := Aside0.mk (fun k hk => HG.out k (HPM.out.mem_iff.2 hk))
          clear hx hx2 ha2 hb2 hb'
          go_wp2_with (fail)
          go_roundg (a1_1.toNat - (i + 1))
          case measure => omega
          case rel => exact ⟨i + 1, h2, none, _, o2, a2, b2, (ba2 ++ bb2), _, by first | rfl | (refine qa_int ?_; omega), rfl, by omega, Nat.le_refl _, HH2, HN2, HD2, HG2, ⟨fun r => HP.out r⟩, ⟨HGET.out⟩, BK, HB, HK⟩
        | nil =>
          obtain ⟨rfl, rfl⟩ : va = .pointer none ∧ ba = [] := ha
          have c0 : wr2.cell? ⟨h, 6, none⟩ = some (.pointer none) := hx.cell.2.2.2.2.2.2.1
          have HX := Aside0.mk hx
          have HO := Aside0.mk hb'
          clear hx hb'
          go_wp2_with ((with_reducible refine gate_dst (N := 38) rfl ?_); (try (refine gate_guard (by rfl) ?_; dsimp only)); refine box_event ?hg (N := 38) ?hd (cs := #[.bool false, .int .u32 0, .int .u8 0, .int .i64 0, .int .u16 0, .int .u16 0, .pointer none, .pointer none]) (t := 44) ?hr ?_; (case hd => rfl); (case hg => rfl); (case hr => first | (go_simp; done) | (go_simp; rfl)); intro h2 hg w3 hbox hb; have BX := Aside0.mk hbox; have HB3 := Aside0.mk hb; have HG3 := Aside0.mk hg; have HX3 := Aside0.mk (HX.out.move (hb.block h HX.out.lt)); clear hg hbox hb c0; have c0 : w3.cell? ⟨h, 6, none⟩ = some (.pointer none) := HX3.out.cell.2.2.2.2.2.2.1; have f0 := HX3.out.frozen 6)
          obtain ⟨hh2, hn2, hd2⟩ := new_left HHole.out HX.out HO.out HD.out (fun k hk => (HG.out k hk).2) HB3.out HG3.out BX.out
          have hge2 : w0.heap.size ≤ h ∧ h < wr2.heap.size := HG.out h (by simp)
          have hsz : (w3.setCell ⟨h, 6, none⟩ (.pointer (some ⟨h2, 0, none⟩))).heap.size = w3.heap.size := by simp [World.setCell]
          have h2lt := blk_lt BX.out
          have hne3 : g3 ≠ h := fun he => by subst he; obtain ⟨cs, t, e1, e2⟩ := HX.out.typed; rw [BK.out] at e1; injection e1 with e1; injection e1 with _ e1; subst e1; exact absurd e2 (by decide)
          have HG2 := Aside0.mk (show ∀ k ∈ (B ++ h :: bb) ++ h2 :: [], w0.heap.size ≤ k ∧ k < (w3.setCell ⟨h, 6, none⟩ (.pointer (some ⟨h2, 0, none⟩))).heap.size from fun k hk => by rw [hsz]; rcases List.mem_append.1 hk with hk | hk; exact ⟨(HG.out k (by simpa using hk)).1, Nat.lt_of_lt_of_le (HG.out k (by simpa using hk)).2 HB3.out.size⟩; rw [List.mem_singleton] at hk; subst hk; exact ⟨by rw [HG3.out]; exact Nat.le_trans hge2.1 (Nat.le_of_lt hge2.2), h2lt⟩)
          go_roundg (a1_1.toNat - (i + 1))
          case measure => omega
          case rel => exact ⟨i + 1, h2, none, _, none, .nil, .nil, [], _, by first | rfl | (refine qa_int ?_; omega), rfl, by omega, Nat.le_refl _, ⟨hh2⟩, ⟨hn2⟩, ⟨hd2⟩, HG2, ⟨fun r => by rw [HP.out r]; show C (Tr.node o' (Tr.put .nil _ r) b') = C (Tr.node o' (Tr.put (.node none .nil .nil) _ r) b'); rw [Tr.put_nil]⟩, ⟨HGET.out.trans (Tr.get_nil2 _)⟩, ⟨(heap_set _ _ _ _ _ hne3).trans (blk_below BK.out HB3.out)⟩, ⟨below_set (below_step HB.out HB3.out) hge2.1⟩, ⟨KeepT.setT (HK.out.trans (KeepT.of_below HB3.out)) (HX.out.move (HB3.out.block h hge2.2)).typed _ _⟩⟩
      · cases b' with
        | node o2 a2 b2 =>
          obtain ⟨h2, va2, vb2, ba2, bb2, rfl, hx2, ha2, hb2, rfl⟩ := hb'
          have c0 : wr2.cell? ⟨h, 7, none⟩ = some (.pointer (some ⟨h2, 0, none⟩)) := hx.cell.2.2.2.2.2.2.2
          have HH2 := Aside0.mk (HHole.out.right hx ha)
          have HN2 := Aside0.mk (show Nod wr2 h2 none o2 a2 b2 (ba2 ++ bb2) from ⟨va2, vb2, ba2, bb2, hx2, ha2, hb2, rfl⟩)
          have HPM := Aside0.mk (perm_right B h h2 (ba2 ++ bb2) ba)
          have HD2 := Aside0.mk (HPM.out.nodup_iff.1 HD.out)
          have HG2 := Aside0.mk (fun k hk => HG.out k (HPM.out.mem_iff.2 hk))
          clear hx hx2 ha2 hb2 ha
          go_wp2_with (fail)
          go_roundg (a1_1.toNat - (i + 1))
          case measure => omega
          case rel => exact ⟨i + 1, h2, none, _, o2, a2, b2, (ba2 ++ bb2), _, by first | rfl | (refine qa_int ?_; omega), rfl, by omega, Nat.le_refl _, HH2, HN2, HD2, HG2, ⟨fun r => HP.out r⟩, ⟨HGET.out⟩, BK, HB, HK⟩
        | nil =>
          obtain ⟨rfl, rfl⟩ : vb = .pointer none ∧ bb = [] := hb'
          have c0 : wr2.cell? ⟨h, 7, none⟩ = some (.pointer none) := hx.cell.2.2.2.2.2.2.2
          have HX := Aside0.mk hx
          have HO := Aside0.mk ha
          clear hx ha
          go_wp2_with ((with_reducible refine gate_dst (N := 38) rfl ?_); (try (refine gate_guard (by rfl) ?_; dsimp only)); refine box_event ?hg (N := 38) ?hd (cs := #[.bool false, .int .u32 0, .int .u8 0, .int .i64 0, .int .u16 0, .int .u16 0, .pointer none, .pointer none]) (t := 44) ?hr ?_; (case hd => rfl); (case hg => rfl); (case hr => first | (go_simp; done) | (go_simp; rfl)); intro h2 hg w3 hbox hb; have BX := Aside0.mk hbox; have HB3 := Aside0.mk hb; have HG3 := Aside0.mk hg; have HX3 := Aside0.mk (HX.out.move (hb.block h HX.out.lt)); clear hg hbox hb c0; have c0 : w3.cell? ⟨h, 7, none⟩ = some (.pointer none) := HX3.out.cell.2.2.2.2.2.2.2; have f0 := HX3.out.frozen 7)
          obtain ⟨hh2, hn2, hd2⟩ := new_right HHole.out HX.out HO.out HD.out (fun k hk => (HG.out k hk).2) HB3.out HG3.out BX.out
          have hge2 : w0.heap.size ≤ h ∧ h < wr2.heap.size := HG.out h (by simp)
          have hsz : (w3.setCell ⟨h, 7, none⟩ (.pointer (some ⟨h2, 0, none⟩))).heap.size = w3.heap.size := by simp [World.setCell]
          have h2lt := blk_lt BX.out
          have hne3 : g3 ≠ h := fun he => by subst he; obtain ⟨cs, t, e1, e2⟩ := HX.out.typed; rw [BK.out] at e1; injection e1 with e1; injection e1 with _ e1; subst e1; exact absurd e2 (by decide)
          have HG2 := Aside0.mk (show ∀ k ∈ (B ++ h :: ba) ++ h2 :: [], w0.heap.size ≤ k ∧ k < (w3.setCell ⟨h, 7, none⟩ (.pointer (some ⟨h2, 0, none⟩))).heap.size from fun k hk => by rw [hsz]; rcases List.mem_append.1 hk with hk | hk; exact ⟨(HG.out k (by simpa using hk)).1, Nat.lt_of_lt_of_le (HG.out k (by simpa using hk)).2 HB3.out.size⟩; rw [List.mem_singleton] at hk; subst hk; exact ⟨by rw [HG3.out]; exact Nat.le_trans hge2.1 (Nat.le_of_lt hge2.2), h2lt⟩)
          go_roundg (a1_1.toNat - (i + 1))
          case measure => omega
          case rel => exact ⟨i + 1, h2, none, _, none, .nil, .nil, [], _, by first | rfl | (refine qa_int ?_; omega), rfl, by omega, Nat.le_refl _, ⟨hh2⟩, ⟨hn2⟩, ⟨hd2⟩, HG2, ⟨fun r => by rw [HP.out r]; show C (Tr.node o' a' (Tr.put .nil _ r)) = C (Tr.node o' a' (Tr.put (.node none .nil .nil) _ r)); rw [Tr.put_nil]⟩, ⟨HGET.out.trans (Tr.get_nil2 _)⟩, ⟨(heap_set _ _ _ _ _ hne3).trans (blk_below BK.out HB3.out)⟩, ⟨below_set (below_step HB.out HB3.out) hge2.1⟩, ⟨KeepT.setT (HK.out.trans (KeepT.of_below HB3.out)) (HX.out.move (HB3.out.block h hge2.2)).typed _ _⟩⟩
    · have p1 : decide ((i : Int) < a1_1) = false := decide_eq_false (by omega)
      have x0 : wr.cell? ⟨g3, 0, none⟩ = some (.int .u32 a1_0) := (blk_cell BK.out 0).trans rfl
      have x1 : wr.cell? ⟨g3, 1, none⟩ = some (.int .u8 a1_1) := (blk_cell BK.out 1).trans rfl
      have hz : a1_1.toNat - i = 0 := by omega
      rw [hz] at HP HGET
      obtain ⟨ro, ra, rb, rbs, hC, hroot, hperm⟩ := HHole.out wr o' a' b' bs' (fun _ _ => rfl) HN.out
      obtain ⟨va, vb, ba, bb, hx, ha, hb', rfl⟩ := HN.out
      have hrt := hroot
      obtain ⟨rva, rvb, rba, rbb, hrx, _, _, _⟩ := hrt
      have c0 : wr.cell? ⟨h, 0, none⟩ = some (.bool o'.isSome) := hx.cell.1
      have n0 : wr.cell? ⟨g, 8, none⟩ = some (.int .i64 n) := hrx.n
      have fg := hrx.frozen 8
      have f0 := hx.frozen 0
      have f1 := hx.frozen 1
      have f2 := hx.frozen 2
      have f3 := hx.frozen 3
      have f4 := hx.frozen 4
      have f5 := hx.frozen 5
      have z1 := hx.cell.2.1
      have z2 := hx.cell.2.2.1
      have z3 := hx.cell.2.2.2.1
      have z4 := hx.cell.2.2.2.2.1
      have z5 := hx.cell.2.2.2.2.2.1
      have x2 : wr.cell? ⟨g3, 2, none⟩ = some (.int .i64 a1_2) := (blk_cell BK.out 2).trans rfl
      have x3 : wr.cell? ⟨g3, 3, none⟩ = some (.int .u16 a1_3) := (blk_cell BK.out 3).trans rfl
      have x4 : wr.cell? ⟨g3, 4, none⟩ = some (.int .u16 a1_4) := (blk_cell BK.out 4).trans rfl
      have HX := Aside0.mk hx
      have HA := Aside0.mk ha
      have HB' := Aside0.mk hb'
      have HR := Aside0.mk hroot
      have HRX := Aside0.mk hrx
      have HC := Aside0.mk hC
      have HPE := Aside0.mk hperm
      clear hx ha hb' hroot hrx hC hperm
      have hlast : ∀ (m : Int) (W : World), W = (if o'.isSome = true then wr else wr.setCell ⟨g, 8, none⟩ (.int .i64 m)) → m = n + 1 → IsS46 w0 ((((((W.drew.setCell ⟨h, 0, none⟩ (.bool true)).setCell ⟨h, 1, none⟩ (.int .u32 a1_0)).setCell ⟨h, 2, none⟩ (.int .u8 a1_1)).setCell ⟨h, 3, none⟩ (.int .i64 a1_2)).setCell ⟨h, 4, none⟩ (.int .u16 a1_3)).setCell ⟨h, 5, none⟩ (.int .u16 a1_4)) g ((Tr.node o a b).put (pathFrom a1_0 a1_1.toNat 0) ⟨⟨a1_0, a1_1⟩, a1_2, a1_3, a1_4⟩) ∧ Below w0.heap.size w0 ((((((W.drew.setCell ⟨h, 0, none⟩ (.bool true)).setCell ⟨h, 1, none⟩ (.int .u32 a1_0)).setCell ⟨h, 2, none⟩ (.int .u8 a1_1)).setCell ⟨h, 3, none⟩ (.int .i64 a1_2)).setCell ⟨h, 4, none⟩ (.int .u16 a1_3)).setCell ⟨h, 5, none⟩ (.int .u16 a1_4)) ∧ KeepT w ((((((W.drew.setCell ⟨h, 0, none⟩ (.bool true)).setCell ⟨h, 1, none⟩ (.int .u32 a1_0)).setCell ⟨h, 2, none⟩ (.int .u8 a1_1)).setCell ⟨h, 3, none⟩ (.int .i64 a1_2)).setCell ⟨h, 4, none⟩ (.int .u16 a1_3)).setCell ⟨h, 5, none⟩ (.int .u16 a1_4)) := by
        intro m W hW hm
        have hTh : Ty wr h := HX.out.typed
        have hTg : Ty wr g := HRX.out.typed
        have hgh : w0.heap.size ≤ h := (HG.out h (by simp)).1
        have hgg : w0.heap.size ≤ g := by
          have := HPE.out.mem_iff.1 (List.mem_cons_self (a := g) (l := rbs))
          exact (HG.out g this).1
        have hTW : Ty W.drew h := by rw [hW]; split; exact hTh; exact hTh.set _ _ _
        have hBW : Below w0.heap.size w0 W.drew := below_drew1 (show Below w0.heap.size w0 W from by rw [hW]; split; exact HB.out; exact below_set HB.out hgg)
        have hKW : KeepT w W.drew := show KeepT w W from by rw [hW]; split; exact HK.out; exact KeepT.setT HK.out hTg _ _
        refine ⟨?_, below_set (below_set (below_set (below_set (below_set (below_set hBW hgh) hgh) hgh) hgh) hgh) hgh, KeepT.setT (KeepT.setT (KeepT.setT (KeepT.setT (KeepT.setT (KeepT.setT hKW hTW _ _) (hTW.set _ _ _) _ _) ((hTW.set _ _ _).set _ _ _) _ _) (((hTW.set _ _ _).set _ _ _).set _ _ _) _ _) ((((hTW.set _ _ _).set _ _ _).set _ _ _).set _ _ _) _ _) (((((hTW.set _ _ _).set _ _ _).set _ _ _).set _ _ _).set _ _ _) _ _⟩
        -- the place, filled, in the tree
        have hfill := HX.out.fill ⟨⟨a1_0, a1_1⟩, a1_2, a1_3, a1_4⟩
        have hd0 : (B ++ h :: (ba ++ bb)).Nodup := HD.out
        have hnb : ∀ k, k ∈ B ∨ k ∈ ba ∨ k ∈ bb → k ≠ h := by
          intro k hk he
          subst he
          rw [List.nodup_append] at hd0
          rcases hk with hk | hk | hk
          · exact hd0.2.2 k hk k List.mem_cons_self rfl
          · exact (List.nodup_cons.1 hd0.2.1).1 (List.mem_append_left _ hk)
          · exact (List.nodup_cons.1 hd0.2.1).1 (List.mem_append_right _ hk)
        have hfr : ∀ (V : World) k, k ≠ h → ((((((V.setCell ⟨h, 0, none⟩ (.bool true)).setCell ⟨h, 1, none⟩ (.int .u32 a1_0)).setCell ⟨h, 2, none⟩ (.int .u8 a1_1)).setCell ⟨h, 3, none⟩ (.int .i64 a1_2)).setCell ⟨h, 4, none⟩ (.int .u16 a1_3)).setCell ⟨h, 5, none⟩ (.int .u16 a1_4)).heap[k]? = V.heap[k]? := fun V k hk => by
          rw [heap_set _ _ _ _ _ hk, heap_set _ _ _ _ _ hk, heap_set _ _ _ _ _ hk, heap_set _ _ _ _ _ hk, heap_set _ _ _ _ _ hk, heap_set _ _ _ _ _ hk]
        obtain ⟨o3, a3, b3, bs3, e3, hn3, hp3⟩ := HHole.out _ (some ⟨⟨a1_0, a1_1⟩, a1_2, a1_3, a1_4⟩) a' b' (ba ++ bb) (fun k hk => hfr wr k (hnb k (.inl hk))) ⟨va, vb, ba, bb, hfill, HA.out.frame (fun k hk => hfr wr k (hnb k (.inr (.inl hk)))), HB'.out.frame (fun k hk => hfr wr k (hnb k (.inr (.inr hk)))), rfl⟩
        have hput : (Tr.node o a b).put (pathFrom a1_0 a1_1.toNat 0) ⟨⟨a1_0, a1_1⟩, a1_2, a1_3, a1_4⟩ = .node o3 a3 b3 := (HP.out _).trans e3
        have hlen := Tr.len_put (pathFrom a1_0 a1_1.toNat 0) (⟨⟨a1_0, a1_1⟩, a1_2, a1_3, a1_4⟩ : S33) (Tr.node o a b)
        have hget : (Tr.node o a b).get (pathFrom a1_0 a1_1.toNat 0) = o' := HGET.out
        rw [hget, hput] at hlen
        rw [hput]
        have hnn := HNN.out
        refine IsS46.frame (W := (((((((if o'.isSome = true then wr else wr.setCell ⟨g, 8, none⟩ (.int .i64 m)).setCell ⟨h, 0, none⟩ (.bool true)).setCell ⟨h, 1, none⟩ (.int .u32 a1_0)).setCell ⟨h, 2, none⟩ (.int .u8 a1_1)).setCell ⟨h, 3, none⟩ (.int .i64 a1_2)).setCell ⟨h, 4, none⟩ (.int .u16 a1_3)).setCell ⟨h, 5, none⟩ (.int .u16 a1_4))) ?_ (fun k _ _ => by rw [hW]; rfl)
        refine ⟨o3, a3, b3, bs3, rfl, ?_, hp3.nodup_iff.2 hd0, fun k hk => (HG.out k (hp3.mem_iff.1 hk)).1⟩
        cases o' with
        | some ro' =>
          have hl : ((Tr.node o3 a3 b3).all.length : Int) = n := by rw [hnn]; simp only [Option.toList_some, List.length_singleton] at hlen; omega
          rw [hl]
          exact hn3
        | none =>
          have hl : ((Tr.node o3 a3 b3).all.length : Int) = m := by rw [hm, hnn]; simp only [Option.toList_none, List.length_nil] at hlen; omega
          rw [hl, if_neg (by simp)]
          rw [set_comm _ g h 8 0 _ _ (by decide), set_comm _ g h 8 1 _ _ (by decide), set_comm _ g h 8 2 _ _ (by decide), set_comm _ g h 8 3 _ _ (by decide), set_comm _ g h 8 4 _ _ (by decide), set_comm _ g h 8 5 _ _ (by decide)]
          obtain ⟨va3, vb3, ba3, bb3, hx3, ha3, hb3, rfl⟩ := hn3
          have hd3 := hp3.nodup_iff.2 hd0
          have hng : ∀ k, k ∈ ba3 ∨ k ∈ bb3 → k ≠ g := by
            intro k hk he
            subst he
            exact (List.nodup_cons.1 hd3).1 (List.mem_append.2 hk)
          exact ⟨va3, vb3, ba3, bb3, hx3.set8 m, ha3.frame (fun k hk => heap_set _ _ _ _ _ (hng k (.inl hk))), hb3.frame (fun k hk => heap_set _ _ _ _ _ (hng k (.inr hk))), rfl⟩
      have HL := Aside0.mk hlast
      clear hlast
      have hne3 : g3 ≠ h := fun he => by subst he; obtain ⟨cs, t, e1, e2⟩ := HX.out.typed; rw [BK.out] at e1; injection e1 with e1; injection e1 with _ e1; subst e1; exact absurd e2 (by decide)
      have hne3g : g3 ≠ g := fun he => by subst he; obtain ⟨cs, t, e1, e2⟩ := HRX.out.typed; rw [BK.out] at e1; injection e1 with e1; injection e1 with _ e1; subst e1; exact absurd e2 (by decide)
      have hwn : wrap64 (n + 1) = n + 1 := by have := HNN.out; have := HCN.out; unfold wrap64; omega
      cases o' with
      | none =>
        go_wp2_with (fail)
        obtain ⟨W, hW⟩ : ∃ W : World, W = wr.setCell ⟨g, 8, none⟩ (.int .i64 (n + 1)) := ⟨_, rfl⟩
        have HFI := Aside0.mk (HL.out (n + 1) W (by rw [hW]; rfl) rfl)
        have hnx : ∃ x', Nx W h x' none va vb := by
          by_cases hgh : h = g
          · subst hgh
            have hx2 := HX.out
            have hxr : Nx wr h (some n) ro rva rvb := HRX.out
            cases x with
            | none => have e := hx2.symm.trans hxr; simp at e
            | some n' => exact ⟨some _, by rw [hW]; exact hx2.set8 _⟩
          · exact ⟨x, by rw [hW]; exact HX.out.move (heap_set _ _ _ _ _ hgh)⟩
        have BKW := Aside0.mk (show W.heap[g3]? = some (.cells #[.int .u32 a1_0, .int .u8 a1_1, .int .i64 a1_2, .int .u16 a1_3, .int .u16 a1_4] 33 (0, 0)) from by rw [hW]; exact (heap_set _ _ _ _ _ hne3g).trans BK.out)
        rw [← hW]
        clear hW
        obtain ⟨x', hnx⟩ := hnx
        have HXD := Aside0.mk (show Nx W.drew h x' _ va vb from hnx)
        have HFD := Aside0.mk HFI.out
        clear hnx HFI HL
        clear x0 x1 x2 x3 x4 c0 n0 fg f0 f1 f2 f3 f4 f5 z1 z2 z3 z4 z5
        have BKW0 := BKW
        clear BKW
        have BKW := Aside0.mk (blk_drew BKW0.out)
        clear BKW0
        refine start_ (n := 9) (S := fun w' => w'.cell? ⟨g3, 0, none⟩ = some (.int .u32 a1_0) ∧ w'.cell? ⟨g3, 1, none⟩ = some (.int .u8 a1_1) ∧ w'.cell? ⟨g3, 2, none⟩ = some (.int .i64 a1_2) ∧ w'.cell? ⟨g3, 3, none⟩ = some (.int .u16 a1_3) ∧ w'.cell? ⟨g3, 4, none⟩ = some (.int .u16 a1_4)) (ds := [8]) #[false, false, false, false, false, false, false, false, false] (by kernel_rfl) rfl rfl ⟨(blk_cell BKW.out 0).trans rfl, (blk_cell BKW.out 1).trans rfl, (blk_cell BKW.out 2).trans rfl, (blk_cell BKW.out 3).trans rfl, (blk_cell BKW.out 4).trans rfl⟩ (fun hHeld => ?_)
        generalize W.drew = wd at BKW HXD HFD hHeld ⊢
        refine pure_ (i := 0) (N := some 61) (v := ?_) (a' := ?_) #[true, false, false, false, false, false, false, false, false] rfl rfl (by kernel_rfl) (fun _ _ _ h => h) (Or.inl ⟨by rfl, ?_⟩) ?_ ?_
        rotate_left
        · intro w'
          go_simp
          with_reducible rfl
        rotate_left
        · simp only [Act.put, List.setIfInBounds_toArray, List.set_cons_zero, List.set_cons_succ, i64_w, i32_w]
          rfl
        refine pure_ (i := 1) (N := some 62) (v := ?_) (a' := ?_) #[true, true, false, false, false, false, false, false, false] rfl rfl (by kernel_rfl) (fun _ _ _ h => h) (Or.inl ⟨by rfl, ?_⟩) ?_ ?_
        rotate_left
        · intro w'
          go_simp
          with_reducible rfl
        rotate_left
        · simp only [Act.put, List.setIfInBounds_toArray, List.set_cons_zero, List.set_cons_succ, i64_w, i32_w]
          rfl
        refine pure_ (i := 3) (N := some 64) (v := ?_) (a' := ?_) #[true, true, false, true, false, false, false, false, false] rfl rfl (by kernel_rfl) (fun _ _ _ h => h) (Or.inl ⟨by rfl, ?_⟩) ?_ ?_
        rotate_left
        · intro w'
          go_simp
          with_reducible rfl
        rotate_left
        · simp only [Act.put, List.setIfInBounds_toArray, List.set_cons_zero, List.set_cons_succ, i64_w, i32_w]
          rfl
        refine pure_ (i := 4) (N := some 65) (v := ?_) (a' := ?_) #[true, true, false, true, true, false, false, false, false] rfl rfl (by kernel_rfl) (fun _ _ _ h => h) (Or.inl ⟨by rfl, ?_⟩) ?_ ?_
        rotate_left
        · intro w'
          go_simp
          with_reducible rfl
        rotate_left
        · simp only [Act.put, List.setIfInBounds_toArray, List.set_cons_zero, List.set_cons_succ, i64_w, i32_w]
          rfl
        refine take_ (i := 2) (N := some 63) (v := ?_) (a' := ?_) #[true, true, true, true, true, false, false, false, false] rfl rfl (by kernel_rfl) (fun _ _ _ h => h) (Or.inl ⟨by rfl, ?_⟩) hHeld ?_ ?_
        rotate_left
        · rintro w' ⟨s0, s1, s2, s3, s4⟩
          go_simp
          with_reducible rfl
        rotate_left
        · simp only [Act.put, List.setIfInBounds_toArray, List.set_cons_zero, List.set_cons_succ, i64_w, i32_w]
          rfl
        refine one_ (i := 5) (N := none) #[true, true, true, true, true, true, false, false, false] rfl rfl (by kernel_rfl) (by decide) (fun K hK => ?_)
        have y0 := HXD.out.frozen 0
        have q0 := HXD.out.cell.1
        refine skip_ (w1 := ?_) (by rfl) rfl ?_ ?_
        rotate_left
        · go_simp
          rfl
        refine hK.out _ _ ⟨(blk_cell (show (wd.setCell ⟨h, 0, none⟩ (.bool true)).heap[g3]? = _ from (heap_set _ _ _ _ _ hne3).trans BKW.out) 0).trans rfl, (blk_cell (show (wd.setCell ⟨h, 0, none⟩ (.bool true)).heap[g3]? = _ from (heap_set _ _ _ _ _ hne3).trans BKW.out) 1).trans rfl, (blk_cell (show (wd.setCell ⟨h, 0, none⟩ (.bool true)).heap[g3]? = _ from (heap_set _ _ _ _ _ hne3).trans BKW.out) 2).trans rfl, (blk_cell (show (wd.setCell ⟨h, 0, none⟩ (.bool true)).heap[g3]? = _ from (heap_set _ _ _ _ _ hne3).trans BKW.out) 3).trans rfl, (blk_cell (show (wd.setCell ⟨h, 0, none⟩ (.bool true)).heap[g3]? = _ from (heap_set _ _ _ _ _ hne3).trans BKW.out) 4).trans rfl⟩ (fun hHeld => ?_)
        clear hK K
        refine pure_ (i := 6) (N := some 66) (v := ?_) (a' := ?_) #[true, true, true, true, true, true, true, false, false] rfl rfl (by kernel_rfl) (fun _ _ _ h => h) (Or.inl ⟨by rfl, ?_⟩) ?_ ?_
        rotate_left
        · intro w'
          go_simp
          with_reducible rfl
        rotate_left
        · simp only [Act.put, List.setIfInBounds_toArray, List.set_cons_zero, List.set_cons_succ, i64_w, i32_w]
          rfl
        refine pure_ (i := 7) (N := some 67) (v := ?_) (a' := ?_) #[true, true, true, true, true, true, true, true, false] rfl rfl (by kernel_rfl) (fun _ _ _ h => h) (Or.inl ⟨by rfl, ?_⟩) ?_ ?_
        rotate_left
        · intro w'
          go_simp
          with_reducible rfl
        rotate_left
        · simp only [Act.put, List.setIfInBounds_toArray, List.set_cons_zero, List.set_cons_succ, i64_w, i32_w]
          rfl
        refine last_ (i := 8) (N := none) #[true, true, true, true, true, true, true, true, true] rfl rfl (by kernel_rfl) (by decide) (fun K hK => ?_)
        have hx9 := HXD.out
        have y1 := hx9.frozen 1
        have y2 := hx9.frozen 2
        have y3 := hx9.frozen 3
        have y4 := hx9.frozen 4
        have y5 := hx9.frozen 5
        have q1 := hx9.cell.2.1
        have q2 := hx9.cell.2.2.1
        have q3 := hx9.cell.2.2.2.1
        have q4 := hx9.cell.2.2.2.2.1
        have q5 := hx9.cell.2.2.2.2.2.1
        refine skip_ (w1 := ?_) (by rfl) rfl ?_ ?_
        rotate_left
        · go_simp
          rfl
        refine hK.out _ _ ?_
        clear hK K
        refine done_ (by kernel_rfl) ?_
        go_wp2_with (fail)
        go_ret
        exact ⟨rfl, HFD.out⟩
      | some ro' =>
        go_wp2_with (fail)
        obtain ⟨W, hW⟩ : ∃ W : World, W = wr := ⟨_, rfl⟩
        have HFI := Aside0.mk (HL.out (n + 1) W (by rw [hW]; rfl) rfl)
        have hnx : ∃ x', Nx W h x' (some ro') va vb := ⟨x, by rw [hW]; exact HX.out⟩
        have BKW := Aside0.mk (show W.heap[g3]? = some (.cells #[.int .u32 a1_0, .int .u8 a1_1, .int .i64 a1_2, .int .u16 a1_3, .int .u16 a1_4] 33 (0, 0)) from by rw [hW]; exact BK.out)
        rw [← hW]
        clear hW
        obtain ⟨x', hnx⟩ := hnx
        have HXD := Aside0.mk (show Nx W.drew h x' _ va vb from hnx)
        have HFD := Aside0.mk HFI.out
        clear hnx HFI HL
        clear x0 x1 x2 x3 x4 c0 n0 fg f0 f1 f2 f3 f4 f5 z1 z2 z3 z4 z5
        have BKW0 := BKW
        clear BKW
        have BKW := Aside0.mk (blk_drew BKW0.out)
        clear BKW0
        refine start_ (n := 9) (S := fun w' => w'.cell? ⟨g3, 0, none⟩ = some (.int .u32 a1_0) ∧ w'.cell? ⟨g3, 1, none⟩ = some (.int .u8 a1_1) ∧ w'.cell? ⟨g3, 2, none⟩ = some (.int .i64 a1_2) ∧ w'.cell? ⟨g3, 3, none⟩ = some (.int .u16 a1_3) ∧ w'.cell? ⟨g3, 4, none⟩ = some (.int .u16 a1_4)) (ds := [8]) #[false, false, false, false, false, false, false, false, false] (by kernel_rfl) rfl rfl ⟨(blk_cell BKW.out 0).trans rfl, (blk_cell BKW.out 1).trans rfl, (blk_cell BKW.out 2).trans rfl, (blk_cell BKW.out 3).trans rfl, (blk_cell BKW.out 4).trans rfl⟩ (fun hHeld => ?_)
        generalize W.drew = wd at BKW HXD HFD hHeld ⊢
        refine pure_ (i := 0) (N := some 61) (v := ?_) (a' := ?_) #[true, false, false, false, false, false, false, false, false] rfl rfl (by kernel_rfl) (fun _ _ _ h => h) (Or.inl ⟨by rfl, ?_⟩) ?_ ?_
        rotate_left
        · intro w'
          go_simp
          with_reducible rfl
        rotate_left
        · simp only [Act.put, List.setIfInBounds_toArray, List.set_cons_zero, List.set_cons_succ, i64_w, i32_w]
          rfl
        refine pure_ (i := 1) (N := some 62) (v := ?_) (a' := ?_) #[true, true, false, false, false, false, false, false, false] rfl rfl (by kernel_rfl) (fun _ _ _ h => h) (Or.inl ⟨by rfl, ?_⟩) ?_ ?_
        rotate_left
        · intro w'
          go_simp
          with_reducible rfl
        rotate_left
        · simp only [Act.put, List.setIfInBounds_toArray, List.set_cons_zero, List.set_cons_succ, i64_w, i32_w]
          rfl
        refine pure_ (i := 3) (N := some 64) (v := ?_) (a' := ?_) #[true, true, false, true, false, false, false, false, false] rfl rfl (by kernel_rfl) (fun _ _ _ h => h) (Or.inl ⟨by rfl, ?_⟩) ?_ ?_
        rotate_left
        · intro w'
          go_simp
          with_reducible rfl
        rotate_left
        · simp only [Act.put, List.setIfInBounds_toArray, List.set_cons_zero, List.set_cons_succ, i64_w, i32_w]
          rfl
        refine pure_ (i := 4) (N := some 65) (v := ?_) (a' := ?_) #[true, true, false, true, true, false, false, false, false] rfl rfl (by kernel_rfl) (fun _ _ _ h => h) (Or.inl ⟨by rfl, ?_⟩) ?_ ?_
        rotate_left
        · intro w'
          go_simp
          with_reducible rfl
        rotate_left
        · simp only [Act.put, List.setIfInBounds_toArray, List.set_cons_zero, List.set_cons_succ, i64_w, i32_w]
          rfl
        refine take_ (i := 2) (N := some 63) (v := ?_) (a' := ?_) #[true, true, true, true, true, false, false, false, false] rfl rfl (by kernel_rfl) (fun _ _ _ h => h) (Or.inl ⟨by rfl, ?_⟩) hHeld ?_ ?_
        rotate_left
        · rintro w' ⟨s0, s1, s2, s3, s4⟩
          go_simp
          with_reducible rfl
        rotate_left
        · simp only [Act.put, List.setIfInBounds_toArray, List.set_cons_zero, List.set_cons_succ, i64_w, i32_w]
          rfl
        refine one_ (i := 5) (N := none) #[true, true, true, true, true, true, false, false, false] rfl rfl (by kernel_rfl) (by decide) (fun K hK => ?_)
        have y0 := HXD.out.frozen 0
        have q0 := HXD.out.cell.1
        refine skip_ (w1 := ?_) (by rfl) rfl ?_ ?_
        rotate_left
        · go_simp
          rfl
        refine hK.out _ _ ⟨(blk_cell (show (wd.setCell ⟨h, 0, none⟩ (.bool true)).heap[g3]? = _ from (heap_set _ _ _ _ _ hne3).trans BKW.out) 0).trans rfl, (blk_cell (show (wd.setCell ⟨h, 0, none⟩ (.bool true)).heap[g3]? = _ from (heap_set _ _ _ _ _ hne3).trans BKW.out) 1).trans rfl, (blk_cell (show (wd.setCell ⟨h, 0, none⟩ (.bool true)).heap[g3]? = _ from (heap_set _ _ _ _ _ hne3).trans BKW.out) 2).trans rfl, (blk_cell (show (wd.setCell ⟨h, 0, none⟩ (.bool true)).heap[g3]? = _ from (heap_set _ _ _ _ _ hne3).trans BKW.out) 3).trans rfl, (blk_cell (show (wd.setCell ⟨h, 0, none⟩ (.bool true)).heap[g3]? = _ from (heap_set _ _ _ _ _ hne3).trans BKW.out) 4).trans rfl⟩ (fun hHeld => ?_)
        clear hK K
        refine pure_ (i := 6) (N := some 66) (v := ?_) (a' := ?_) #[true, true, true, true, true, true, true, false, false] rfl rfl (by kernel_rfl) (fun _ _ _ h => h) (Or.inl ⟨by rfl, ?_⟩) ?_ ?_
        rotate_left
        · intro w'
          go_simp
          with_reducible rfl
        rotate_left
        · simp only [Act.put, List.setIfInBounds_toArray, List.set_cons_zero, List.set_cons_succ, i64_w, i32_w]
          rfl
        refine pure_ (i := 7) (N := some 67) (v := ?_) (a' := ?_) #[true, true, true, true, true, true, true, true, false] rfl rfl (by kernel_rfl) (fun _ _ _ h => h) (Or.inl ⟨by rfl, ?_⟩) ?_ ?_
        rotate_left
        · intro w'
          go_simp
          with_reducible rfl
        rotate_left
        · simp only [Act.put, List.setIfInBounds_toArray, List.set_cons_zero, List.set_cons_succ, i64_w, i32_w]
          rfl
        refine last_ (i := 8) (N := none) #[true, true, true, true, true, true, true, true, true] rfl rfl (by kernel_rfl) (by decide) (fun K hK => ?_)
        have hx9 := HXD.out
        have y1 := hx9.frozen 1
        have y2 := hx9.frozen 2
        have y3 := hx9.frozen 3
        have y4 := hx9.frozen 4
        have y5 := hx9.frozen 5
        have q1 := hx9.cell.2.1
        have q2 := hx9.cell.2.2.1
        have q3 := hx9.cell.2.2.2.1
        have q4 := hx9.cell.2.2.2.2.1
        have q5 := hx9.cell.2.2.2.2.2.1
        refine skip_ (w1 := ?_) (by rfl) rfl ?_ ?_
        rotate_left
        · go_simp
          rfl
        refine hK.out _ _ ?_
        clear hK K
        refine done_ (by kernel_rfl) ?_
        go_wp2_with (fail)
        go_ret
        exact ⟨rfl, HFD.out⟩

end Go.Proofs.Ytbmiifhmgfhidaa.QTriePlays
