-- Lines by a program of this session, for this claim.
import Derived.Test.YtmkjgiejnlmncaaQTableBytesx0
import Derived.Test.YtmkjgiejnlmncaaQTableBytesx4
import Derived.Test.YtmkjgiejnlmncaaQTableBytesx5
import Derived.Test.YtmkjgiejnlmncaaQTableBytesx6
import Derived.Test.YtmkjgiejnlmncaaQTableBytesx7
namespace Go.Proofs.Ytmkjgiejnlmncaa.QTableBytes
open Go.RowKit Go.Proofs.YtmkjgiejnlmncaaW.PrintWords Go.Proofs.YtmkjgiejnlmncaaW.PrintLast Go.Proofs.YtmkjgiejnlmncaaW.PrintMore
attribute [local go_sem] max2_int min2_int max_two min_two max_three min_three max_four min_four   -- for this text's walks alone
set_option linter.unusedVariables false
set_option maxRecDepth 100000
set_option maxHeartbeats 8000000
set_option linter.unusedSimpArgs false

/-! ### table_Table_Apply: function 21 -/
theorem table_Table_Apply.keep_row {w W W1 : World} (h : KeepT w W) {b : Nat} {ok : Nat → Prop} {v : Value} {l : List S43} (hR : k43.R 43 W b ok v l) (hg : W.grownBy W1 v.ownBlock) : KeepT w W1 := ⟨Nat.le_trans h.1 hg.size, fun k hk => by
 have h1 := h.2 k hk; obtain ⟨cs, t, e, h2, h3⟩ := hk; have e2 := h1.trans e
 exact (hg.block k (blk_lt e2) (Kd.R_ne hR e2 (fun h => h2 h.symm))).trans h1⟩
theorem table_Table_Apply.keep_set {w W : World} (h : KeepT w W) {g : Nat} {cs : Array Value} (hb : W.heap[g]? = some (.cells cs 70 (0, 0))) (j : Nat) (u : Value) : KeepT w (W.setCell ⟨g, j, none⟩ u) := ⟨Nat.le_trans h.1 (Nat.le_of_eq (by simp)), fun k hk => by
 have h1 := h.2 k hk; refine (Below.heap_setCell W ⟨g, j, none⟩ u k (fun e => ?_)).trans h1; obtain ⟨cs', t, e1, h2, h3⟩ := hk; have e3 : k = g := e; subst e3; rw [h1, e1] at hb
 injection hb with hb
 injection hb with _ hb
 exact h3 hb⟩
theorem table_Table_Apply.rd_set (l : List S43) (i : Nat) (y : S43) (h : i < l.length) : rd_T43 (l.set i y) (i : Int) = y := by
 rw [rd_cast _ i (by simpa using h), List.getElem_set_self]
theorem table_Table_Apply.ne_of {W : World} {g g' t t' : Nat} {cs cs' : Array Value} (h : W.heap[g]? = some (.cells cs t (0, 0))) (h' : W.heap[g']? = some (.cells cs' t' (0, 0))) (hn : t ≠ t') : g ≠ g' := fun e => by
 subst e; rw [h] at h'
 injection h' with h'
 injection h' with _ h'
 exact hn h'

theorem table_Table_Apply.rd_mid (l : List S43) (i : Nat) (x : S43) (h : i ≤ l.length) : rd_T43 (l.take i ++ x :: l.drop i) (i : Int) = x := by
 have hl : (l.take i).length = i := by rw [List.length_take]; omega
 show (l.take i ++ x :: l.drop i).getD (i : Int).toNat _ = x
 rw [Int.toNat_natCast, List.getD_eq_getElem?_getD, List.getElem?_append_right (by omega), hl, Nat.sub_self]; rfl
theorem table_Table_Apply.set_mid (l : List S43) (i : Nat) (x y : S43) (h : i ≤ l.length) : (l.take i ++ x :: l.drop i).set i y = l.take i ++ y :: l.drop i := by
 have hl : (l.take i).length = i := by rw [List.length_take]; omega
 rw [List.set_append_right _ _ (by omega), hl, Nat.sub_self]; rfl

/-- `copy` where an element fills `s` cells: the row's cells from `o` on hold the source's. -/
theorem table_Table_Apply.run_copy_rowN {P : Program} (w : World) (dT sT ty elem : TypeId) (s g o dLen dCap : Nat) (a : Addr) (sLen sCap : Nat) (cur : Array Value) (t : TypeId) (cs : List Value)
 (hu : P.underlying dT = some (.slice elem)) (hs : (P.info? elem).map (·.size) = some s)
 (hg : w.heap[g]? = some (.cells cur t (0, 0))) (hn : cs.length = Nat.min sLen dLen * s)
 (hsrc : ∀ j v, cs[j]? = some v → w.cell? (a.add j) = some v) (hfit : o + cs.length ≤ cur.size) (h1 : ∀ v ∈ cs, v.oneCell' = true) :
 (Builtin.copy_ #[dT, sT] ty #[.slice (some ⟨g, o, none⟩) dLen dCap, .slice (some a) sLen sCap]).run P w =
  .ok (goInt (Nat.min sLen dLen)) (w.setRow g (cur.toList.take o ++ cs ++ cur.toList.drop (o + cs.length)).toArray) := by
 have hl := run_loadCells_list (P := P) w a cs hsrc; have hst := run_storeCells_at P g o t cs 0 cur w hg (by simpa using hfit) h1
 cases hq : P.info? elem with
 | none => simp [hq] at hs
 | some i =>
  have hi : i.size = s := by simpa [hq] using hs
  simp [Builtin.copy_, run_underlying hu, Builtin.lenOf, Builtin.firstCells, sizeOf, typeInfo, hq, hi, ← hn, hl, hst]
theorem table_Table_Apply.lists {α : Type} (C vs mv D : List α) (a b c : Nat) (h : a + vs.length = b) (hb : b ≤ C.length) (hc : c = b) :
 (C.take b ++ mv ++ D).take a ++ (vs ++ (C.take b ++ mv ++ D).drop c) = C.take a ++ vs ++ mv ++ D := by
 subst hc
 have hl : (C.take c).length = c := by rw [List.length_take]; omega
 rw [List.append_assoc (C.take c), List.take_append_of_le_length (by omega), List.take_take, Nat.min_eq_left (by omega), List.drop_left' hl]
 simp only [List.append_assoc]
theorem table_Table_Apply.one1 {α : Type} {R : α → List Value → Prop} {size : Nat} {ps : List α} {cs : List Value} (h : Reps R size ps cs) (hs : 0 < size) (hR : ∀ x c, R x c → ∀ u ∈ c, u.oneCell' = true) : ∀ u ∈ cs, u.oneCell' = true := by
 intro u hu; obtain ⟨p, hp, rfl⟩ := List.mem_iff_getElem.1 hu; have h1 : p / size < ps.length := (Nat.div_lt_iff_lt_mul hs).2 (by rw [← h.1]; exact hp); refine hR _ _ (h.2 (p / size) _ (List.getElem?_eq_getElem h1)) _ (List.mem_iff_getElem?.2 ⟨p % size, ?_⟩); rw [List.getElem?_take, if_pos (Nat.mod_lt _ hs), List.getElem?_drop, Nat.mul_comm, Nat.div_add_mod, List.getElem?_eq_getElem hp]
set_option maxHeartbeats 4000000 in
theorem table_Table_Apply.shift (g n c i vb vc : Nat) (cur : Array Value) (vs : List Value) (w : World) (hi : i < n) (hroom : n + 1 ≤ c) (hc63 : c ≤ 9223372036854775807) (hvb : vb ≠ g)
 (hg : w.heap[g]? = some (.cells cur 43 (0, 0))) (hcur : c * 10 ≤ cur.size) (hvl : vs.length = 10) (h1c : ∀ v ∈ cur.toList.take (n * 10), v.oneCell' = true) (h1v : ∀ v ∈ vs, v.oneCell' = true)
 (vcur : Array Value) (tv : TypeId) (hgv : w.heap[vb]? = some (.cells vcur tv (0, 0))) (hvs : ∀ j v, vs[j]? = some v → w.cell? ⟨vb, j, none⟩ = some v) :
 Calls Try.prog 37 #[.slice (some ⟨g, 0, none⟩) n c, .int .i64 i, .slice (some ⟨vb, 0, none⟩) 1 vc] w fun e w' =>
  e = .returned (.slice (some ⟨g, 0, none⟩) (n + 1) c) ∧ w' = w.drew.setRow g (cur.toList.take (i * 10) ++ vs ++ (cur.toList.drop (i * 10)).take ((n - i) * 10) ++ cur.toList.drop ((n + 1) * 10)).toArray := by
 have hov : ∀ lb cb, (callFunc 51 #[.slice (some ⟨vb, 0, none⟩) 1 vc, .slice (some ⟨g, (i + 1) * 10, none⟩) lb cb]).run Try.prog w = .ok (.value (.bool false)) w := fun lb cb => by
  rw [run_callFunc_extern Try.func51 (by kernel_rfl) (by kernel_rfl) (by kernel_rfl) (e := Extern.SlicesOverlaps.overlaps #[48, 48] #[4]) (by kernel_rfl),
   Lib.run_overlaps_apart w 48 4 43 Try.underlying48 10 (fun w => by rfl) ⟨vb, 0, none⟩ ⟨g, (i + 1) * 10, none⟩ 1 vc lb cb hvb tv 43 vcur.size cur.size (by simp [World.shape?, hgv]) (by simp [World.shape?, hg]) (by omega) (by simp [World.frozen?, hgv]) (by simp [World.frozen?, hgv])]
  rfl
 obtain ⟨mv, hmv⟩ : ∃ mv, mv = (cur.toList.drop (i * 10)).take ((n - i) * 10) := ⟨_, rfl⟩
 have hml : mv.length = (n - i) * 10 := by
  rw [hmv, List.length_take, List.length_drop, Array.length_toList]; omega
 have hmi : ∀ v ∈ mv, v ∈ cur.toList.take (n * 10) := fun v hv => by
  rw [hmv, show (n - i) * 10 = n * 10 - i * 10 from by omega, ← List.drop_take] at hv; exact List.mem_of_mem_drop hv
 have hsz : (Try.prog.info? 43).map (·.size) = some 10 := by kernel_rfl
 have hcp1 : ∀ ty dc sc, (Builtin.copy_ #[48, 48] ty #[.slice (some ⟨g, (i + 1) * 10, none⟩) (n - i) dc, .slice (some ⟨g, i * 10, none⟩) (n + 1 - i) sc]).run Try.prog w.drew = .ok (goInt (Nat.min (n + 1 - i) (n - i))) (w.drew.setRow g (cur.toList.take ((i + 1) * 10) ++ mv ++ cur.toList.drop ((i + 1) * 10 + mv.length)).toArray) := fun ty dc sc =>
  table_Table_Apply.run_copy_rowN w.drew 48 48 ty 43 10 g ((i + 1) * 10) _ dc ⟨g, i * 10, none⟩ _ sc cur 43 mv Try.underlying48 hsz hg (by rw [hml, show Nat.min (n + 1 - i) (n - i) = n - i from Nat.min_eq_right (by omega) |>.trans (by omega)])
   (fun j v hj => by
    rw [hmv, List.getElem?_take] at hj
    split at hj
    · rw [List.getElem?_drop, Array.getElem?_toList] at hj
      rw [Addr.add_lit]
      show w.cell? _ = _
      simp [World.cell?, hg, hj]
    · cases hj) (by rw [hml]; omega) (fun v hv => h1c v (hmi v hv))
 obtain ⟨W1, hW1⟩ : ∃ W1, W1 = w.drew.setRow g (cur.toList.take ((i + 1) * 10) ++ mv ++ cur.toList.drop ((i + 1) * 10 + mv.length)).toArray := ⟨_, rfl⟩
 rw [← hW1] at hcp1; have HW1 := Ad hW1; have HMV := Ad hmv; clear hW1 hmv
 obtain ⟨R1, hR1⟩ : ∃ R1 : Array Value, R1 = (cur.toList.take ((i + 1) * 10) ++ mv ++ cur.toList.drop ((i + 1) * 10 + mv.length)).toArray := ⟨_, rfl⟩
 have hg1 : W1.heap[g]? = some (.cells R1 43 (0, 0)) := by
  rw [HW1.out, hR1]; exact setRow_heap w.drew g cur _ 43 _ hg
 have hR1s : R1.size = cur.size := by
  rw [hR1]
  simp only [List.size_toArray, List.length_append, List.length_take, List.length_drop, Array.length_toList, hml]
  omega
 have hv1 : ∀ j v, vs[j]? = some v → W1.cell? ⟨vb, j, none⟩ = some v := fun j v hj => by
  rw [← hvs j v hj, HW1.out]; exact cell_setRow_other w.drew g _ ⟨vb, j, none⟩ hvb
 have hcp2 : ∀ (W : World), W.heap = W1.heap → ∀ ty dc, (Builtin.copy_ #[48, 48] ty #[.slice (some ⟨g, i * 10, none⟩) (n + 1 - i) dc, .slice (some ⟨vb, 0, none⟩) 1 vc]).run Try.prog W = .ok (goInt (Nat.min 1 (n + 1 - i))) (W.setRow g (R1.toList.take (i * 10) ++ vs ++ R1.toList.drop (i * 10 + vs.length)).toArray) := fun W hW ty dc =>
  table_Table_Apply.run_copy_rowN W 48 48 ty 43 10 g (i * 10) _ dc ⟨vb, 0, none⟩ _ vc R1 43 vs Try.underlying48 hsz (by rw [hW]; exact hg1) (by rw [hvl, show Nat.min 1 (n + 1 - i) = 1 from Nat.min_eq_left (by omega)])
   (fun j v hj => by
    rw [Addr.add_lit, ← hv1 j v hj]
    simp [World.cell?, hW]) (by rw [hvl, hR1s]; omega) h1v
 have HR1 := Ad hR1; clear hR1
 have mixed : Try.prog.follows Departure.mixedOrders = true := by kernel_rfl
 have hw1 : IntKind.i64.wrap ((i : Int) + 1) = (i : Int) + 1 := by rw [IntKind.wrap_i64]; omega
 have hb1 : (0 : Int) ≤ (i : Int) + 1 := by omega
 have hin : i ≤ n := by omega
 have hin1 : i < n + 1 := by omega
 have htn : ((i : Int) + 1).toNat = i + 1 := by omega
 have hb2 : ¬ (c = i + 1) := by omega
 have hb3 : (i : Int) ≤ (n : Int) + 1 := by omega
 have hb5 : (i : Int) + 1 ≤ (n : Int) + 1 := by omega
 have hb4 : ¬ (c = i) := by omega
 go_enter Try.func37, Try.ntmps37
 go_wp2_with (simp only [hov])
 go_region_law_o (refine step_copy_runI rfl _ _ 48 48 rfl _ _ (by simp [Act.eval, Act.put]) (by simp [Act.eval, Act.put]) (hcp1 _ _ _) ?_)
 go_wp2_with (at_builtin; refine wpList_copy_runI _ rfl _ _ 48 48 rfl _ _ rfl rfl (hcp2 _ rfl _ _) ?_)
 go_ret; refine ⟨rfl, ?_⟩; rw [HW1.out, setRow_setRow]
 congr 2
 rw [HR1.out, List.toList_toArray]; refine (table_Table_Apply.lists cur.toList vs mv _ (i * 10) ((i + 1) * 10) (i * 10 + 10) (by rw [hvl]; omega) (by rw [Array.length_toList]; omega) (by omega)).trans ?_; rw [HMV.out, List.length_take, List.length_drop, Array.length_toList]
 congr 2
 omega
set_option maxHeartbeats 4000000 in
theorem table_Table_Apply.grow (g n c i vb vc : Nat) (cur : Array Value) (vs : List Value) (w : World) (hi : i < n) (hnc : n ≤ c) (hroom : c < n + 1) (hn : n ≤ 1000)
 (hg : w.heap[g]? = some (.cells cur 43 (0, 0))) (hcur : n * 10 ≤ cur.size) (hvl : vs.length = 10) (h1c : ∀ v ∈ cur.toList.take (n * 10), v.oneCell' = true) (h1v : ∀ v ∈ vs, v.oneCell' = true)
 (hvb : vb < w.heap.size) (hvs : ∀ j v, vs[j]? = some v → w.cell? ⟨vb, j, none⟩ = some v) :
 Calls Try.prog 37 #[.slice (some ⟨g, 0, none⟩) n c, .int .i64 i, .slice (some ⟨vb, 0, none⟩) 1 vc] w fun e w' =>
  e = .returned (.slice (some ⟨w.heap.size, 0, none⟩) (n + 1) (grownCap w (n + 1) c 43)) ∧ ∃ R2 : Array Value, w' = (w.alloc (.cells R2 43)).drew.drew ∧ R2.size = grownCap w (n + 1) c 43 * 10 ∧ R2.toList.take ((n + 1) * 10) = cur.toList.take (i * 10) ++ vs ++ (cur.toList.drop (i * 10)).take ((n - i) * 10) := by
 have hinfo : (Try.prog.info? 43).map (fun i => (i.zero, i.size, i.bytes)) = some (some (.agg #[.int .u32 0, .int .u8 0, .bool false, .int .u32 0, .int .u8 0, .int .i64 0, .int .u16 0, .int .u16 0, .int .u16 0, .int .u16 0] : Value), 10, 48) := by kernel_rfl
 obtain ⟨i0, hi0, hz0, hzs, hzb⟩ := info_parts hinfo
 have hsz : (Try.prog.info? 43).map (·.size) = some 10 := by kernel_rfl
 have hgw : g < w.heap.size := Nat.lt_of_not_le fun h => by rw [Array.getElem?_eq_none h] at hg; cases hg
 have hkk : (n : Int) + 1 - (i : Int) = ((n + 1 - i : Nat) : Int) := by omega
 have hik : i + (n + 1 - i) = n + 1 := by omega
 have hzc : ∀ k, (Builtin.zeroCells (.agg #[.int .u32 0, .int .u8 0, .bool false, .int .u32 0, .int .u8 0, .int .i64 0, .int .u16 0, .int .u16 0, .int .u16 0, .int .u16 0] : Value).cells k).size = k * 10 := fun k => by
  simp only [Builtin.zeroCells, Array.size_map, Array.size_range]
  rfl
 obtain ⟨olds, holds⟩ : ∃ olds, olds = cur.toList.take (i * 10) := ⟨_, rfl⟩
 have hol : olds.length = i * 10 := by rw [holds, List.length_take, Array.length_toList]; omega
 have hold : (Builtin.firstCells i0.size i (.slice (some ⟨g, 0, none⟩) i c)).run Try.prog w.drew = .ok olds.toArray w.drew := by
  rw [hzs]
  exact run_firstCells_some w.drew 10 i ⟨g, 0, none⟩ i c olds hol (fun j v hj => by
   rw [holds, List.getElem?_take] at hj
   split at hj
   · rw [Array.getElem?_toList] at hj
     rw [Addr.add_lit]
     show w.cell? _ = _
     simp [World.cell?, hg, hj]
   · cases hj)
 have hrz : ∀ ty, (Builtin.append_ #[48, 3] ty #[.slice (some ⟨g, 0, none⟩) i c, .int .i64 ((n : Int) + 1 - (i : Int))]).run Try.prog w =
  .ok (.slice (some ⟨w.heap.size, 0, none⟩) (n + 1) (grownCap w (n + 1) c 43)) (w.drew.alloc (.cells (olds.toArray ++ Builtin.zeroCells (.agg #[.int .u32 0, .int .u8 0, .bool false, .int .u32 0, .int .u8 0, .int .i64 0, .int .u16 0, .int .u16 0, .int .u16 0, .int .u16 0] : Value).cells (n + 1 - i) ++ Builtin.zeroCells (.agg #[.int .u32 0, .int .u8 0, .bool false, .int .u32 0, .int .u8 0, .int .i64 0, .int .u16 0, .int .u16 0, .int .u16 0, .int .u16 0] : Value).cells (grownCap w (n + 1) c 43 - (n + 1))) 43)) := fun ty => by
  have h := Lib.run_append_grow_zeros w 48 3 ty 43 i0 _ .i64 .i64 Try.underlying48 Try.underlying3 hi0 hz0 (some ⟨g, 0, none⟩) i c olds hold (n + 1 - i) (by omega) (by omega) (by omega) (by omega) (by rw [hzb]; omega) (by rw [hzb, hik]; exact growslice_fits hroom (by omega)); rw [hik] at h; rw [hkk]; exact h
 obtain ⟨G, hG⟩ : ∃ G, G = grownCap w (n + 1) c 43 := ⟨_, rfl⟩
 obtain ⟨ROW, hROW⟩ : ∃ ROW : Array Value, ROW = olds.toArray ++ Builtin.zeroCells (.agg #[.int .u32 0, .int .u8 0, .bool false, .int .u32 0, .int .u8 0, .int .i64 0, .int .u16 0, .int .u16 0, .int .u16 0, .int .u16 0] : Value).cells (n + 1 - i) ++ Builtin.zeroCells (.agg #[.int .u32 0, .int .u8 0, .bool false, .int .u32 0, .int .u8 0, .int .i64 0, .int .u16 0, .int .u16 0, .int .u16 0, .int .u16 0] : Value).cells (G - (n + 1)) := ⟨_, rfl⟩
 rw [← hG] at hrz ⊢; rw [← hROW] at hrz
 have hGn : n + 1 ≤ G := by rw [hG]; exact grownCap_ge w _ _ _
 have hG63 : G ≤ 9223372036854775807 := by
  have := grownCap_le_maxLen w (n + 1) c 43 (by unfold maxLen; omega); rw [← hG] at this
  unfold maxLen at this
  omega
 have hRs : ROW.size = G * 10 := by
  rw [hROW]
  simp only [Array.size_append, List.size_toArray, hzc, hol]
  omega
 have hRt : ROW.toList.take (i * 10) = olds := by
  rw [hROW]
  simp only [Array.toList_append, List.append_assoc]
  rw [List.take_append_of_le_length (by omega), ← hol, List.take_length]
 obtain ⟨mv, hmv⟩ : ∃ mv, mv = (cur.toList.drop (i * 10)).take ((n - i) * 10) := ⟨_, rfl⟩
 have hml : mv.length = (n - i) * 10 := by
  rw [hmv, List.length_take, List.length_drop, Array.length_toList]; omega
 have hmi : ∀ v ∈ mv, v ∈ cur.toList.take (n * 10) := fun v hv => by
  rw [hmv, show (n - i) * 10 = n * 10 - i * 10 from by omega, ← List.drop_take] at hv; exact List.mem_of_mem_drop hv
 obtain ⟨R1, hR1⟩ : ∃ R1 : Array Value, R1 = (ROW.toList.take (i * 10) ++ vs ++ ROW.toList.drop (i * 10 + vs.length)).toArray := ⟨_, rfl⟩
 have hR1s : R1.size = G * 10 := by
  rw [hR1]
  simp only [List.size_toArray, List.length_append, List.length_take, List.length_drop, Array.length_toList, hvl, hRs]
  omega
 obtain ⟨R2, hR2⟩ : ∃ R2 : Array Value, R2 = (R1.toList.take ((i + 1) * 10) ++ mv ++ R1.toList.drop ((i + 1) * 10 + mv.length)).toArray := ⟨_, rfl⟩
 have hR2s : R2.size = G * 10 := by
  rw [hR2]
  simp only [List.size_toArray, List.length_append, List.length_take, List.length_drop, Array.length_toList, hml, hR1s]
  omega
 have hR2t : R2.toList.take ((n + 1) * 10) = cur.toList.take (i * 10) ++ vs ++ mv := by
  have e1 : R1.toList.take ((i + 1) * 10) = olds ++ vs := by
   rw [hR1, hRt, List.toList_toArray, show (i + 1) * 10 = (olds ++ vs).length from by rw [List.length_append, hol, hvl]; omega, List.take_left]
  rw [hR2, List.toList_toArray, e1, show (n + 1) * 10 = (olds ++ vs ++ mv).length from by simp only [List.length_append, hol, hvl, hml]; omega, List.take_left, holds]
 have hcpA : ∀ (W : World), W.heap = (w.alloc (.cells ROW 43)).heap → ∀ ty dc, (Builtin.copy_ #[48, 48] ty #[.slice (some ⟨w.heap.size, i * 10, none⟩) (n + 1 - i) dc, .slice (some ⟨vb, 0, none⟩) 1 vc]).run Try.prog W = .ok (goInt (Nat.min 1 (n + 1 - i))) (W.setRow w.heap.size R1) := fun W hW ty dc => by
  rw [hR1]
  exact table_Table_Apply.run_copy_rowN W 48 48 ty 43 10 w.heap.size (i * 10) _ dc ⟨vb, 0, none⟩ _ vc ROW 43 vs Try.underlying48 hsz (by rw [hW]; exact heap_alloc_new w _) (by rw [hvl, show Nat.min 1 (n + 1 - i) = 1 from Nat.min_eq_left (by omega)])
   (fun j v hj => by
    rw [Addr.add_lit]; rw [← hvs j v hj, Nat.zero_add]
    exact World.cell?_of_block (w := w) (w' := W) (a := ⟨vb, j, none⟩) ((congrArg (fun h => h[vb]?) hW).trans (((Below.refl w.heap.size w).alloc (Nat.le_refl _) (.cells ROW 43)).block vb hvb))) (by rw [hvl, hRs]; omega) h1v
 have hcpB : ∀ (W : World), W.heap = ((w.alloc (.cells ROW 43)).setRow w.heap.size R1).heap → ∀ ty dc sc, (Builtin.copy_ #[48, 48] ty #[.slice (some ⟨w.heap.size, (i + 1) * 10, none⟩) (n - i) dc, .slice (some ⟨g, i * 10, none⟩) (n - i) sc]).run Try.prog W = .ok (goInt (Nat.min (n - i) (n - i))) (W.setRow w.heap.size R2) := fun W hW ty dc sc => by
  rw [hR2]
  exact table_Table_Apply.run_copy_rowN W 48 48 ty 43 10 w.heap.size ((i + 1) * 10) _ dc ⟨g, i * 10, none⟩ _ sc R1 43 mv Try.underlying48 hsz (by rw [hW]; exact setRow_heap (w.alloc (.cells ROW 43)) w.heap.size ROW R1 43 _ (heap_alloc_new w _)) (by rw [hml, show Nat.min (n - i) (n - i) = n - i from Nat.min_self _])
   (fun j v hj => by
    rw [Addr.add_lit]; rw [hmv, List.getElem?_take] at hj
    split at hj
    · rw [List.getElem?_drop, Array.getElem?_toList] at hj
      have e0 : W.heap[g]? = some (.cells cur 43 (0, 0)) := by
       rw [hW, setRow_other _ _ _ _ (Nat.ne_of_lt hgw), ← hg]; exact ((Below.refl w.heap.size w).alloc (Nat.le_refl _) (.cells ROW 43)).block g hgw
      simp [World.cell?, e0, hj]
    · cases hj) (by rw [hml, hR1s]; omega) (fun v hv => h1c v (hmi v hv))
 have HR2s := Ad hR2s; have HR2t := Ad hR2t; have HMV := Ad hmv
 have mixed : Try.prog.follows Departure.mixedOrders = true := by kernel_rfl
 have hw1 : IntKind.i64.wrap ((i : Int) + 1) = (i : Int) + 1 := by rw [IntKind.wrap_i64]; omega
 have hb1 : (0 : Int) ≤ (i : Int) + 1 := by omega
 have hin : i ≤ n := by omega
 have hin1 : i ≤ c := by omega
 have htn : ((i : Int) + 1).toNat = i + 1 := by omega
 have hb3 : (i : Int) ≤ (n : Int) := by omega
 have hGi : ¬ (G = i) := by omega
 have hGim : ¬ (G = i + 1) := by omega
 have hci : ¬ (c = i) := by omega
 have hz3 : (c : Int) < (n : Int) + 1 := by omega
 clear hkk hik hold hROW hG hRs hRt hR1 hR1s hR2 hR2s hR2t hmv hml hmi holds hol hzc; have hA := hcpA (w.alloc (.cells ROW 43)).drew rfl; have hB := hcpB ((w.alloc (.cells ROW 43)).drew.setRow w.heap.size R1).drew rfl; clear hcpA hcpB
 go_enter Try.func37, Try.ntmps37
 go_wp2_with (first
  | (at_builtin; refine Lib.wpList_append_run _ rfl _ _ _ _ rfl _ _ rfl rfl _ _ (hrz _) ?_)
  | fail)
 go_region_law_o (refine step_copy_runI rfl _ _ 48 48 rfl (.slice (some ⟨w.heap.size, (i + 1) * 10, none⟩) (n - i) (G - (i + 1))) (.slice (some ⟨g, i * 10, none⟩) (n - i) (c - i)) (by simp [Act.eval, Act.put]) (by simp [Act.eval, Act.put]) (hB _ _ _) ?_)
 go_wp2; go_ret; exact ⟨rfl, R2, by show (((w.alloc (.cells ROW 43)).setRow w.heap.size R1).setRow w.heap.size R2).drew.drew = _; rw [setRow_setRow, World.setRow_alloc_new], HR2s.out, by rw [HR2t.out, HMV.out]⟩
set_option maxHeartbeats 4000000 in
theorem table_Table_Apply.ins (v : Value) (l : List S43) (x : S43) (Ax : Option Addr) (cx b : Nat) (w0 w : World) (hR : k43.R 43 w b (fun _ => True) v l) (hx : Kd.C k43 w Ax 1 [x]) (hl : l.length ≤ 1000) (hB : Below b w0 w) (hb : b ≤ w.heap.size) :
 Calls Try.prog 37 #[v, .int .i64 l.length, .slice Ax 1 cx] w fun e w' => ∃ v', e = .returned v' ∧ k43.R 43 w' b (fun _ => True) v' (l ++ [x]) ∧ Below b w0 w' ∧ w.grownBy w' v.ownBlock := by
 obtain ⟨A, c, rfl, hlc, hC⟩ := Kd.R_reads hR; have HR := Ad hR; have HX := Ad hx; have HB := Ad hB; clear hR hx hB hC
 go_enter Try.func37, Try.ntmps37
 have q1 : decide (0 ≤ (l.length : Int)) = true := decide_eq_true (by omega); have q2 : decide ((l.length : Int) ≤ (c : Int)) = true := decide_eq_true (by omega)
 go_wp2_with ((with_reducible refine gate_builtin (b := .append) (xs := #[.tmp 23, .tmp 24]) rfl ?_); at_builtin; refine Kd.R_append_rows k43 (w0 := w0) b rfl (.tmp 23) (.tmp 24) 48 43 (.agg #[.int .u32 0, .int .u8 0, .bool false, .int .u32 0, .int .u8 0, .int .i64 0, .int .u16 0, .int .u16 0, .int .u16 0, .int .u16 0]) 48 rfl Try.underlying48 (by kernel_rfl) rfl (by decide) (by omega) (.slice A l.length c) l [x] Ax 1 cx (fun _ => True) (fun _ => False) rfl rfl HR.out HX.out (fun x cs hk => by rw [k43_open hk]; exact k43_mkM w b _ x) (fun _ h => h.elim) (fun _ _ => trivial) HB.out hb (by omega) ?_; intro v1 w1 hR1 hB1 hG1 _)
 all_goals
  go_ret
  first
   | exact ⟨v1, rfl, hR1, hB1, hG1⟩
   | exact ⟨v1, rfl, hR1, hB1, by rw [show (Value.slice A l.length l.length).ownBlock = (Value.slice A l.length c).ownBlock from by cases A <;> rfl]; exact hG1⟩
/-- slices.Insert of one element: the row with it at place i. -/
theorem table_Table_Apply.insert (v : Value) (l : List S43) (x : S43) (Ax : Option Addr) (cx b bx i : Nat) (w0 w : World) (hR : k43.R 43 w b (fun _ => True) v l) (hX : k43.R 43 w bx (fun _ => True) (.slice Ax 1 cx) [x]) (hvx : ∀ k, v.ownBlock = some k → k < bx) (hl : l.length ≤ 1000) (hi : i ≤ l.length) (hB : Below b w0 w) (hb : b ≤ w.heap.size) :
 Calls Try.prog 37 #[v, .int .i64 i, .slice Ax 1 cx] w fun e w' => ∃ v', e = .returned v' ∧ k43.R 43 w' b (fun _ => True) v' (l.take i ++ x :: l.drop i) ∧ Below b w0 w' ∧ w.grownBy w' v.ownBlock := by
 rcases Nat.lt_or_ge i l.length with hlt | hge
 · obtain ⟨_, inner, ⟨hil, hcase⟩, hreps⟩ := hR
   obtain ⟨_, innx, ⟨hixl, hxcase⟩, hxreps⟩ := hX; have hixl : innx.length = 10 := hixl; have hil : inner.length = l.length * 10 := hil
   have one_ : ∀ (W : World) (bb : Nat) (okk : Nat → Prop) (x : S43) (c : List Value), k43.M W bb okk x c → ∀ u ∈ c, u.oneCell' = true := fun W bb okk x c h u hu => k43.K_one (k43.K_of_M h) u hu
   have ho1 : ∀ u ∈ inner, u.oneCell' = true := table_Table_Apply.one1 hreps (by decide) (one_ _ _ _)
   have ho2 : ∀ u ∈ innx, u.oneCell' = true := table_Table_Apply.one1 hxreps (by decide) (one_ _ _ _)
   have hnew : ∀ (W : World) (okk : Nat → Prop), Reps (k43.M W b okk) 10 (l.take i ++ x :: l.drop i) (inner.take (i * 10) ++ innx ++ inner.drop (i * 10)) := fun W okk => by
    rw [show l.take i ++ x :: l.drop i = (l.take i ++ [x]) ++ l.drop i from by simp]; exact (Kd.reps_append (Kd.reps_append (Kd.reps_take (hreps.imp_ (fun x c h => by rw [k43_openM h]; exact k43_mkM W b okk x)) hi) (hxreps.imp_ (fun x c h => by rw [k43_openM h]; exact k43_mkM W b okk x))) (Kd.reps_drop (hreps.imp_ (fun x c h => by rw [k43_openM h]; exact k43_mkM W b okk x))))
   have hnl : (inner.take (i * 10) ++ innx ++ inner.drop (i * 10)).length = (l.take i ++ x :: l.drop i).length * 10 := (hnew w (fun _ => True)).1
   have hnn : (l.take i ++ x :: l.drop i).length = l.length + 1 := by
    simp only [List.length_append, List.length_take, List.length_cons, List.length_drop]; omega
   rcases hcase with ⟨_, h0⟩ | ⟨g, cap, cur, rfl, hbg, hg, hle, hcm, hcs, hct⟩
   · omega
   rcases hxcase with ⟨_, h0⟩ | ⟨gx, capx, curx, hvx', hbx, hgx, hlex, hcmx, hcsx, hctx⟩
   · simp at h0
   injection hvx' with e1 e2 e3
   subst e1 e3; have hcs : cur.size = cap * 10 := hcs; have hct : cur.toList.take (l.length * 10) = inner := hct
   have hctx : curx.toList.take 10 = innx := by rw [← hctx]; rfl
   have hk : g < bx := hvx g (by simp [Value.ownBlock])
   have hgx' : gx ≠ g := by omega
   have hgxl : gx < w.heap.size := Nat.lt_of_not_le fun h => by rw [Array.getElem?_eq_none h] at hgx; cases hgx
   have hvs : ∀ j v, innx[j]? = some v → w.cell? ⟨gx, j, none⟩ = some v := fun j v hj => by
    rw [← hctx, List.getElem?_take] at hj
    split at hj
    · rw [Array.getElem?_toList] at hj
      simp [World.cell?, hgx, hj]
    · cases hj
   have hmid : cur.toList.take (i * 10) ++ innx ++ (cur.toList.drop (i * 10)).take ((l.length - i) * 10) = inner.take (i * 10) ++ innx ++ inner.drop (i * 10) := by
    rw [← hct, List.take_take, List.drop_take, Nat.min_eq_left (by omega), show l.length * 10 - i * 10 = (l.length - i) * 10 from by omega]
   by_cases hroom : l.length + 1 ≤ cap
   · refine (table_Table_Apply.shift g l.length cap i gx cx cur innx w hlt hroom (by unfold maxLen at hcm; omega) hgx' hg (by omega) hixl (by rw [hct]; exact ho1) ho2 curx 43 hgx hvs).mono ?_
     rintro e w' ⟨rfl, rfl⟩; rw [hmid]; refine ⟨_, rfl, ⟨fun _ _ => trivial, inner.take (i * 10) ++ innx ++ inner.drop (i * 10), ⟨hnl, .inr ⟨g, cap, _, by rw [hnn], hbg, setRow_heap w.drew g cur _ 43 _ hg, by rw [hnn]; exact hroom, hcm, ?_, ?_⟩⟩, hnew _ _⟩, below_setRow (below_drew1 hB) hbg _, ⟨rfl, rfl, rfl, Nat.le_of_eq (setRow_size w.drew g _).symm, fun k hk hne => (setRow_other w.drew g k _ (fun e => hne (by rw [e]; rfl))).trans rfl⟩⟩
     · show _ = cap * 10
       rw [hnn] at hnl
       simp only [List.size_toArray, List.length_append, List.length_drop, Array.length_toList] at hnl ⊢
       omega
     · show List.take (_ * 10) _ = _
       rw [List.toList_toArray, ← hnl, List.take_left]
   · refine (table_Table_Apply.grow g l.length cap i gx cx cur innx w hlt hle (by omega) hl hg (by omega) hixl (by rw [hct]; exact ho1) ho2 hgxl hvs).mono ?_; rintro e w' ⟨rfl, R2, rfl, hRs, hRt⟩; rw [hmid] at hRt; refine ⟨_, rfl, ⟨fun _ _ => trivial, inner.take (i * 10) ++ innx ++ inner.drop (i * 10), ⟨hnl, .inr ⟨w.heap.size, grownCap w (l.length + 1) cap 43, R2, by rw [hnn], hb, heap_alloc_new w _, by rw [hnn]; exact grownCap_ge w _ _ _, grownCap_le_maxLen w _ _ _ (by unfold maxLen; omega), hRs, by rw [hnn]; exact hRt⟩⟩, hnew _ _⟩, below_drew1 (below_drew1 (hB.alloc hb _)), ?_⟩; exact ⟨rfl, rfl, rfl, ((Below.refl w.heap.size w).alloc (Nat.le_refl _) (.cells R2 43)).size, fun k hk _ => ((Below.refl w.heap.size w).alloc (Nat.le_refl _) (.cells R2 43)).block k hk⟩
 · obtain rfl : i = l.length := by omega
   obtain ⟨A', c', e', _, hC⟩ := Kd.R_reads hX
   injection e' with e1 _ e3
   subst e1 e3; refine (table_Table_Apply.ins v l x Ax cx b w0 w hR hC hl hB hb).mono ?_; rintro e w' ⟨v', rfl, h1, h2, h3⟩; refine ⟨v', rfl, ?_, h2, h3⟩; rw [List.take_length, List.drop_length]; exact h1


theorem table_Table_Apply.bad (g b : Nat) (v : Value) (l : List S43) (no tm : Int) (c : S38) (w0 w : World) (hg : w.heap[g]? = some (.cells #[v, .int .u64 no, .int .u64 tm] 70 (0, 0))) (hR : k43.R 43 w b (fun _ => True) v l) (hbg : b ≤ g) (hbw : b ≤ w.heap.size) (hB : Below b w0 w) (hlen : l.length ≤ 256) (kr : Nat) (er : Int) (hrt : change_Right.f kr c.f0 c.f1 c.f2 c.f3.f0.f0 c.f3.f0.f1 c.f3.f1 c.f3.f2 c.f3.f3 = some er) (hne : ¬ er = 0) : Calls Try.prog 21 #[.pointer (some ⟨g, 0, none⟩), .agg #[.int .u64 c.f0, .int .u64 c.f1, .bool c.f2, .int .u32 c.f3.f0.f0, .int .u8 c.f3.f0.f1, .int .i64 c.f3.f1, .int .u16 c.f3.f2, .int .u16 c.f3.f3]] w fun e w' => e = .returned (.int .i64 er) ∧ (∃ v', w'.heap[g]? = some (.cells #[v', .int .u64 no, .int .u64 tm] 70 (0, 0)) ∧ k43.R 43 w' b (fun _ => True) v' (l)) ∧ Below b w0 w' ∧ KeepT w w' := by
 have hu38 := Try.underlying38; have hu33 := Try.underlying33; have hu36 := Try.underlying36; have hu41 := Try.underlying41; have hu43 := Try.underlying43; have hu70 := Try.underlying70; have HR := Ad hR; have HRT := Ad hrt; have BKg := Ad hg; have HB0 := Ad hB; clear hR hrt hg hB
 go_enter Try.func21, Try.ntmps21
 go_wp2_with (((with_reducible refine gate_dst (N := 3) rfl ?_); (try (refine gate_guard (by rfl) ?_; dsimp only)); refine box_event ?hg (N := 3) ?hd (cs := #[.int .u64 c.f0, .int .u64 c.f1, .bool c.f2, .int .u32 c.f3.f0.f0, .int .u8 c.f3.f0.f1, .int .i64 c.f3.f1, .int .u16 c.f3.f2, .int .u16 c.f3.f3]) (t := 38) ?hr ?_; (case hd => rfl); (case hg => rfl); (case hr => first | (go_simp; done)); intro g3 hg w3 hbox hb; have BK3 := Ad hbox; have HB3 := Ad hb; have BKg3 := Ad (blk_below BKg.out hb); clear hb hbox hg; have p0 : w3.cell? ⟨g3, 0, none⟩ = some (.int .u64 c.f0) := (blk_cell BK3.out 0).trans rfl; have p1 : w3.cell? ⟨g3, 1, none⟩ = some (.int .u64 c.f1) := (blk_cell BK3.out 1).trans rfl; have p2 : w3.cell? ⟨g3, 2, none⟩ = some (.bool c.f2) := (blk_cell BK3.out 2).trans rfl; have p3 : w3.cell? ⟨g3, 3, none⟩ = some (.int .u32 c.f3.f0.f0) := (blk_cell BK3.out 3).trans rfl; have p4 : w3.cell? ⟨g3, 4, none⟩ = some (.int .u8 c.f3.f0.f1) := (blk_cell BK3.out 4).trans rfl; have p5 : w3.cell? ⟨g3, 5, none⟩ = some (.int .i64 c.f3.f1) := (blk_cell BK3.out 5).trans rfl; have p6 : w3.cell? ⟨g3, 6, none⟩ = some (.int .u16 c.f3.f2) := (blk_cell BK3.out 6).trans rfl; have p7 : w3.cell? ⟨g3, 7, none⟩ = some (.int .u16 c.f3.f3) := (blk_cell BK3.out 7).trans rfl))
 refine (change_Right.calls kr c.f0 c.f1 c.f2 c.f3.f0.f0 c.f3.f0.f1 c.f3.f1 c.f3.f2 c.f3.f3 er _ HRT.out).mono ?_; rintro e w4 ⟨rfl, hb⟩; have BK34 := Ad (blk_below BK3.out hb); have BKg4 := Ad (blk_below BKg3.out hb); have HB4 := Ad (below_step HB3.out hb); have HR4 := Ad (Kd.R_below HR.out HB4.out); clear hb p0 p1 p2 p3 p4 p5 p6 p7 BK3 BKg3 HB3; have HB04 := Ad (below_then HB0.out hbw HB4.out)
 have q1 : (er != 0) = true := by simpa using hne
 go_wp2_with (fail)
 go_ret; exact ⟨rfl, ⟨v, BKg4.out, HR4.out⟩, HB04.out, KeepT.of_below HB4.out⟩
theorem table_Table_Apply.order (g b : Nat) (v : Value) (l : List S43) (no tm : Int) (c : S38) (w0 w : World) (hg : w.heap[g]? = some (.cells #[v, .int .u64 no, .int .u64 tm] 70 (0, 0))) (hR : k43.R 43 w b (fun _ => True) v l) (hbg : b ≤ g) (hbw : b ≤ w.heap.size) (hB : Below b w0 w) (hlen : l.length ≤ 256) (kr : Nat) (er : Int) (hrt : change_Right.f kr c.f0 c.f1 c.f2 c.f3.f0.f0 c.f3.f0.f1 c.f3.f1 c.f3.f2 c.f3.f3 = some er) (hz : er = 0) (hor : ¬ c.f0 = IntKind.u64.wrap (no + 1) ∨ c.f1 < tm) : Calls Try.prog 21 #[.pointer (some ⟨g, 0, none⟩), .agg #[.int .u64 c.f0, .int .u64 c.f1, .bool c.f2, .int .u32 c.f3.f0.f0, .int .u8 c.f3.f0.f1, .int .i64 c.f3.f1, .int .u16 c.f3.f2, .int .u16 c.f3.f3]] w fun e w' => e = .returned (.int .i64 8) ∧ (∃ v', w'.heap[g]? = some (.cells #[v', .int .u64 no, .int .u64 tm] 70 (0, 0)) ∧ k43.R 43 w' b (fun _ => True) v' (l)) ∧ Below b w0 w' ∧ KeepT w w' := by
 have hu38 := Try.underlying38; have hu33 := Try.underlying33; have hu36 := Try.underlying36; have hu41 := Try.underlying41; have hu43 := Try.underlying43; have hu70 := Try.underlying70; have HR := Ad hR; have HRT := Ad hrt; have BKg := Ad hg; have HB0 := Ad hB; clear hR hrt hg hB
 go_enter Try.func21, Try.ntmps21
 go_wp2_with (((with_reducible refine gate_dst (N := 3) rfl ?_); (try (refine gate_guard (by rfl) ?_; dsimp only)); refine box_event ?hg (N := 3) ?hd (cs := #[.int .u64 c.f0, .int .u64 c.f1, .bool c.f2, .int .u32 c.f3.f0.f0, .int .u8 c.f3.f0.f1, .int .i64 c.f3.f1, .int .u16 c.f3.f2, .int .u16 c.f3.f3]) (t := 38) ?hr ?_; (case hd => rfl); (case hg => rfl); (case hr => first | (go_simp; done)); intro g3 hg w3 hbox hb; have BK3 := Ad hbox; have HB3 := Ad hb; have BKg3 := Ad (blk_below BKg.out hb); clear hb hbox hg; have p0 : w3.cell? ⟨g3, 0, none⟩ = some (.int .u64 c.f0) := (blk_cell BK3.out 0).trans rfl; have p1 : w3.cell? ⟨g3, 1, none⟩ = some (.int .u64 c.f1) := (blk_cell BK3.out 1).trans rfl; have p2 : w3.cell? ⟨g3, 2, none⟩ = some (.bool c.f2) := (blk_cell BK3.out 2).trans rfl; have p3 : w3.cell? ⟨g3, 3, none⟩ = some (.int .u32 c.f3.f0.f0) := (blk_cell BK3.out 3).trans rfl; have p4 : w3.cell? ⟨g3, 4, none⟩ = some (.int .u8 c.f3.f0.f1) := (blk_cell BK3.out 4).trans rfl; have p5 : w3.cell? ⟨g3, 5, none⟩ = some (.int .i64 c.f3.f1) := (blk_cell BK3.out 5).trans rfl; have p6 : w3.cell? ⟨g3, 6, none⟩ = some (.int .u16 c.f3.f2) := (blk_cell BK3.out 6).trans rfl; have p7 : w3.cell? ⟨g3, 7, none⟩ = some (.int .u16 c.f3.f3) := (blk_cell BK3.out 7).trans rfl))
 refine (change_Right.calls kr c.f0 c.f1 c.f2 c.f3.f0.f0 c.f3.f0.f1 c.f3.f1 c.f3.f2 c.f3.f3 er _ HRT.out).mono ?_; rintro e w4 ⟨rfl, hb⟩; have BK34 := Ad (blk_below BK3.out hb); have BKg4 := Ad (blk_below BKg3.out hb); have HB4 := Ad (below_step HB3.out hb); have HR4 := Ad (Kd.R_below HR.out HB4.out); clear hb p0 p1 p2 p3 p4 p5 p6 p7 BK3 BKg3 HB3; have HB04 := Ad (below_then HB0.out hbw HB4.out)
 have q1 : (er != 0) = false := by simp [hz]
 subst hz; have t0 : w4.cell? ⟨g, 0, none⟩ = some v := (blk_cell BKg4.out 0).trans rfl; have t1 : w4.cell? ⟨g, 1, none⟩ = some (.int .u64 no) := (blk_cell BKg4.out 1).trans rfl; have t2 : w4.cell? ⟨g, 2, none⟩ = some (.int .u64 tm) := (blk_cell BKg4.out 2).trans rfl; have p0 : w4.cell? ⟨g3, 0, none⟩ = some (.int .u64 c.f0) := (blk_cell BK34.out 0).trans rfl; have p1 : w4.cell? ⟨g3, 1, none⟩ = some (.int .u64 c.f1) := (blk_cell BK34.out 1).trans rfl; have p2 : w4.cell? ⟨g3, 2, none⟩ = some (.bool c.f2) := (blk_cell BK34.out 2).trans rfl; have p3 : w4.cell? ⟨g3, 3, none⟩ = some (.int .u32 c.f3.f0.f0) := (blk_cell BK34.out 3).trans rfl; have p4 : w4.cell? ⟨g3, 4, none⟩ = some (.int .u8 c.f3.f0.f1) := (blk_cell BK34.out 4).trans rfl; have p5 : w4.cell? ⟨g3, 5, none⟩ = some (.int .i64 c.f3.f1) := (blk_cell BK34.out 5).trans rfl; have p6 : w4.cell? ⟨g3, 6, none⟩ = some (.int .u16 c.f3.f2) := (blk_cell BK34.out 6).trans rfl; have p7 : w4.cell? ⟨g3, 7, none⟩ = some (.int .u16 c.f3.f3) := (blk_cell BK34.out 7).trans rfl
 by_cases hno : c.f0 = IntKind.u64.wrap (no + 1)
 · have hlt : c.f1 < tm := hor.resolve_left (fun h => h hno)
   have q2 : (c.f0 != IntKind.u64.wrap (no + 1)) = false := by simp [hno]
   have q3 : decide (c.f1 < tm) = true := decide_eq_true hlt; clear hno hor
   go_wp2_with (fail)
   go_quiet (fail)
   all_goals
    go_wp2_with (fail)
    go_ret; exact ⟨rfl, ⟨v, BKg4.out, Kd.R_drewN HR4.out nq⟩, pw_below_drewN HB04.out nq, KeepT.of_below (pw_below_drewN HB4.out nq)⟩
 · have q2 : (c.f0 != IntKind.u64.wrap (no + 1)) = true := by simpa using hno
   clear hor
   go_wp2_with (fail)
   go_quiet (fail)
   all_goals
    go_wp2_with (fail)
    go_ret; exact ⟨rfl, ⟨v, BKg4.out, Kd.R_drewN HR4.out nq⟩, pw_below_drewN HB04.out nq, KeepT.of_below (pw_below_drewN HB4.out nq)⟩
theorem table_Table_Apply.none1 (g b : Nat) (v : Value) (l : List S43) (no tm : Int) (c : S38) (w0 w : World) (hg : w.heap[g]? = some (.cells #[v, .int .u64 no, .int .u64 tm] 70 (0, 0))) (hR : k43.R 43 w b (fun _ => True) v l) (hbg : b ≤ g) (hbw : b ≤ w.heap.size) (hB : Below b w0 w) (hlen : l.length ≤ 256) (kr : Nat) (hrt : change_Right.f kr c.f0 c.f1 c.f2 c.f3.f0.f0 c.f3.f0.f1 c.f3.f1 c.f3.f2 c.f3.f3 = some 0) (hno : c.f0 = IntKind.u64.wrap (no + 1)) (hti : ¬ c.f1 < tm) (i : Nat) (cv : Nat → Int) (hi : i ≤ l.length) (hcmp : ∀ j : Nat, j < l.length → prefix_Compare.f 3 (rd_T43 l (j : Int)).f0.f0 (rd_T43 l (j : Int)).f0.f1 c.f3.f0.f0 c.f3.f0.f1 = some (cv j) ∧ (cv j < 0 ↔ j < i)) (hgn : c.f2 = true) (hmiss : (decide (i < l.length) && (cv i == 0)) = false) : Calls Try.prog 21 #[.pointer (some ⟨g, 0, none⟩), .agg #[.int .u64 c.f0, .int .u64 c.f1, .bool c.f2, .int .u32 c.f3.f0.f0, .int .u8 c.f3.f0.f1, .int .i64 c.f3.f1, .int .u16 c.f3.f2, .int .u16 c.f3.f3]] w fun e w' => e = .returned (.int .i64 2) ∧ (∃ v', w'.heap[g]? = some (.cells #[v', .int .u64 no, .int .u64 tm] 70 (0, 0)) ∧ k43.R 43 w' b (fun _ => True) v' (l)) ∧ Below b w0 w' ∧ KeepT w w' := by
 have HNO := Ad hno; have HGN := Ad hgn; clear hno hgn; have HMISS := Ad hmiss; clear hmiss; obtain ⟨A, cA, rfl, hlc, hC⟩ := Kd.R_reads hR; have HC := Ad hC; have HM := Ad hcmp; clear hC hcmp; have hu38 := Try.underlying38; have hu33 := Try.underlying33; have hu36 := Try.underlying36; have hu41 := Try.underlying41; have hu43 := Try.underlying43; have hu70 := Try.underlying70; have HR := Ad hR; have HRT := Ad hrt; have BKg := Ad hg; have HB0 := Ad hB; clear hR hrt hg hB
 go_enter Try.func21, Try.ntmps21
 go_wp2_with (((with_reducible refine gate_dst (N := 3) rfl ?_); (try (refine gate_guard (by rfl) ?_; dsimp only)); refine box_event ?hg (N := 3) ?hd (cs := #[.int .u64 c.f0, .int .u64 c.f1, .bool c.f2, .int .u32 c.f3.f0.f0, .int .u8 c.f3.f0.f1, .int .i64 c.f3.f1, .int .u16 c.f3.f2, .int .u16 c.f3.f3]) (t := 38) ?hr ?_; (case hd => rfl); (case hg => rfl); (case hr => first | (go_simp; done)); intro g3 hg w3 hbox hb; have BK3 := Ad hbox; have HB3 := Ad hb; have BKg3 := Ad (blk_below BKg.out hb); clear hb hbox hg; have p0 : w3.cell? ⟨g3, 0, none⟩ = some (.int .u64 c.f0) := (blk_cell BK3.out 0).trans rfl; have p1 : w3.cell? ⟨g3, 1, none⟩ = some (.int .u64 c.f1) := (blk_cell BK3.out 1).trans rfl; have p2 : w3.cell? ⟨g3, 2, none⟩ = some (.bool c.f2) := (blk_cell BK3.out 2).trans rfl; have p3 : w3.cell? ⟨g3, 3, none⟩ = some (.int .u32 c.f3.f0.f0) := (blk_cell BK3.out 3).trans rfl; have p4 : w3.cell? ⟨g3, 4, none⟩ = some (.int .u8 c.f3.f0.f1) := (blk_cell BK3.out 4).trans rfl; have p5 : w3.cell? ⟨g3, 5, none⟩ = some (.int .i64 c.f3.f1) := (blk_cell BK3.out 5).trans rfl; have p6 : w3.cell? ⟨g3, 6, none⟩ = some (.int .u16 c.f3.f2) := (blk_cell BK3.out 6).trans rfl; have p7 : w3.cell? ⟨g3, 7, none⟩ = some (.int .u16 c.f3.f3) := (blk_cell BK3.out 7).trans rfl))
 refine (change_Right.calls kr c.f0 c.f1 c.f2 c.f3.f0.f0 c.f3.f0.f1 c.f3.f1 c.f3.f2 c.f3.f3 0 _ HRT.out).mono ?_; rintro e w4 ⟨rfl, hb⟩; have BK34 := Ad (blk_below BK3.out hb); have BKg4 := Ad (blk_below BKg3.out hb); have HB4 := Ad (below_step HB3.out hb); have HR4 := Ad (Kd.R_below HR.out HB4.out); clear hb p0 p1 p2 p3 p4 p5 p6 p7 BK3 BKg3 HB3; have HB04 := Ad (below_then HB0.out hbw HB4.out); have t0 : w4.cell? ⟨g, 0, none⟩ = some (.slice A l.length cA) := (blk_cell BKg4.out 0).trans rfl; have t1 : w4.cell? ⟨g, 1, none⟩ = some (.int .u64 no) := (blk_cell BKg4.out 1).trans rfl; have t2 : w4.cell? ⟨g, 2, none⟩ = some (.int .u64 tm) := (blk_cell BKg4.out 2).trans rfl; have p0 : w4.cell? ⟨g3, 0, none⟩ = some (.int .u64 c.f0) := (blk_cell BK34.out 0).trans rfl; have p1 : w4.cell? ⟨g3, 1, none⟩ = some (.int .u64 c.f1) := (blk_cell BK34.out 1).trans rfl; have p2 : w4.cell? ⟨g3, 2, none⟩ = some (.bool c.f2) := (blk_cell BK34.out 2).trans rfl; have p3 : w4.cell? ⟨g3, 3, none⟩ = some (.int .u32 c.f3.f0.f0) := (blk_cell BK34.out 3).trans rfl; have p4 : w4.cell? ⟨g3, 4, none⟩ = some (.int .u8 c.f3.f0.f1) := (blk_cell BK34.out 4).trans rfl; have p5 : w4.cell? ⟨g3, 5, none⟩ = some (.int .i64 c.f3.f1) := (blk_cell BK34.out 5).trans rfl; have p6 : w4.cell? ⟨g3, 6, none⟩ = some (.int .u16 c.f3.f2) := (blk_cell BK34.out 6).trans rfl; have p7 : w4.cell? ⟨g3, 7, none⟩ = some (.int .u16 c.f3.f3) := (blk_cell BK34.out 7).trans rfl
 have q2 : (c.f0 != IntKind.u64.wrap (no + 1)) = false := by simp [HNO.out]
 have q3 : decide (c.f1 < tm) = false := decide_eq_false (by omega); clear hti
 go_wp2_with (fail)
 go_quiet (fail)
 obtain ⟨w5, hq⟩ : ∃ w5 : World, w4.drewN nq = w5 := ⟨_, rfl⟩
 rw [hq]; have BK35 := Ad (blk_at hq BK34.out); have BKg5 := Ad (blk_at hq BKg4.out); have HB5 := Ad (below_at hq HB4.out); have HB05 := Ad (below_at hq HB04.out); have HR5 := Ad (Kd.R_at hq HR4.out); clear hq t0 t1 t2 q2 q3 p0 p1 p2 p3 p4 p5 p6 p7 BK34 BKg4 HB4 HB04 HR4; have t0 : w5.cell? ⟨g, 0, none⟩ = some (.slice A l.length cA) := (blk_cell BKg5.out 0).trans rfl; have p0 : w5.cell? ⟨g3, 0, none⟩ = some (.int .u64 c.f0) := (blk_cell BK35.out 0).trans rfl; have p1 : w5.cell? ⟨g3, 1, none⟩ = some (.int .u64 c.f1) := (blk_cell BK35.out 1).trans rfl; have p2 : w5.cell? ⟨g3, 2, none⟩ = some (.bool c.f2) := (blk_cell BK35.out 2).trans rfl; have p3 : w5.cell? ⟨g3, 3, none⟩ = some (.int .u32 c.f3.f0.f0) := (blk_cell BK35.out 3).trans rfl; have p4 : w5.cell? ⟨g3, 4, none⟩ = some (.int .u8 c.f3.f0.f1) := (blk_cell BK35.out 4).trans rfl; have p5 : w5.cell? ⟨g3, 5, none⟩ = some (.int .i64 c.f3.f1) := (blk_cell BK35.out 5).trans rfl; have p6 : w5.cell? ⟨g3, 6, none⟩ = some (.int .u16 c.f3.f2) := (blk_cell BK35.out 6).trans rfl; have p7 : w5.cell? ⟨g3, 7, none⟩ = some (.int .u16 c.f3.f3) := (blk_cell BK35.out 7).trans rfl
 go_wp2_with (fail)
 refine (table_Table_find.calls 3 g no tm A cA l c.f3.f0.f0 c.f3.f0.f1 i cv _ BKg5.out (Kd.C_below HC.out HB5.out) (by omega) hi HM.out).mono ?_; rintro e w6 ⟨rfl, hb⟩; have BK3 := Ad (blk_below BK35.out hb); have BKg := Ad (blk_below BKg5.out hb); have HBW := Ad (below_step HB5.out hb); have HRW := Ad (Kd.R_below HR5.out hb); clear hb t0 p0 p1 p2 p3 p4 p5 p6 p7 BK35 BKg5 HB5 HR5 HB05; have HB06 := Ad (below_then HB0.out hbw HBW.out); have HK := Ad (KeepT.of_below HBW.out); have t0 : w6.cell? ⟨g, 0, none⟩ = some (.slice A l.length cA) := (blk_cell BKg.out 0).trans rfl; have p0 : w6.cell? ⟨g3, 0, none⟩ = some (.int .u64 c.f0) := (blk_cell BK3.out 0).trans rfl; have p1 : w6.cell? ⟨g3, 1, none⟩ = some (.int .u64 c.f1) := (blk_cell BK3.out 1).trans rfl; have p2 : w6.cell? ⟨g3, 2, none⟩ = some (.bool c.f2) := (blk_cell BK3.out 2).trans rfl; have p3 : w6.cell? ⟨g3, 3, none⟩ = some (.int .u32 c.f3.f0.f0) := (blk_cell BK3.out 3).trans rfl; have p4 : w6.cell? ⟨g3, 4, none⟩ = some (.int .u8 c.f3.f0.f1) := (blk_cell BK3.out 4).trans rfl; have p5 : w6.cell? ⟨g3, 5, none⟩ = some (.int .i64 c.f3.f1) := (blk_cell BK3.out 5).trans rfl; have p6 : w6.cell? ⟨g3, 6, none⟩ = some (.int .u16 c.f3.f2) := (blk_cell BK3.out 6).trans rfl; have p7 : w6.cell? ⟨g3, 7, none⟩ = some (.int .u16 c.f3.f3) := (blk_cell BK3.out 7).trans rfl; have q7 : (decide (i < l.length) && (cv i == 0)) = false := HMISS.out; have q8 : c.f2 = true := HGN.out; rw [q8] at p2; clear q8
 go_wp2_with (fail)
 go_ret; exact ⟨rfl, ⟨_, BKg.out, HRW.out⟩, HB06.out, HK.out⟩
theorem table_Table_Apply.none2 (g b : Nat) (v : Value) (l : List S43) (no tm : Int) (c : S38) (w0 w : World) (hg : w.heap[g]? = some (.cells #[v, .int .u64 no, .int .u64 tm] 70 (0, 0))) (hR : k43.R 43 w b (fun _ => True) v l) (hbg : b ≤ g) (hbw : b ≤ w.heap.size) (hB : Below b w0 w) (hlen : l.length ≤ 256) (kr : Nat) (hrt : change_Right.f kr c.f0 c.f1 c.f2 c.f3.f0.f0 c.f3.f0.f1 c.f3.f1 c.f3.f2 c.f3.f3 = some 0) (hno : c.f0 = IntKind.u64.wrap (no + 1)) (hti : ¬ c.f1 < tm) (i : Nat) (cv : Nat → Int) (hi : i ≤ l.length) (hcmp : ∀ j : Nat, j < l.length → prefix_Compare.f 3 (rd_T43 l (j : Int)).f0.f0 (rd_T43 l (j : Int)).f0.f1 c.f3.f0.f0 c.f3.f0.f1 = some (cv j) ∧ (cv j < 0 ↔ j < i)) (hgn : c.f2 = true) (hlt : i < l.length) (h0 : cv i = 0) (hhas : (rd_T43 l (i : Int)).f1 = false) : Calls Try.prog 21 #[.pointer (some ⟨g, 0, none⟩), .agg #[.int .u64 c.f0, .int .u64 c.f1, .bool c.f2, .int .u32 c.f3.f0.f0, .int .u8 c.f3.f0.f1, .int .i64 c.f3.f1, .int .u16 c.f3.f2, .int .u16 c.f3.f3]] w fun e w' => e = .returned (.int .i64 2) ∧ (∃ v', w'.heap[g]? = some (.cells #[v', .int .u64 no, .int .u64 tm] 70 (0, 0)) ∧ k43.R 43 w' b (fun _ => True) v' (l)) ∧ Below b w0 w' ∧ KeepT w w' := by
 have HNO := Ad hno; have HGN := Ad hgn; clear hno hgn; have H0 := Ad h0; have HHAS := Ad hhas; clear h0 hhas; obtain ⟨A, cA, rfl, hlc, hC⟩ := Kd.R_reads hR; have HC := Ad hC; have HM := Ad hcmp; clear hC hcmp; have hu38 := Try.underlying38; have hu33 := Try.underlying33; have hu36 := Try.underlying36; have hu41 := Try.underlying41; have hu43 := Try.underlying43; have hu70 := Try.underlying70; have HR := Ad hR; have HRT := Ad hrt; have BKg := Ad hg; have HB0 := Ad hB; clear hR hrt hg hB
 go_enter Try.func21, Try.ntmps21
 go_wp2_with (((with_reducible refine gate_dst (N := 3) rfl ?_); (try (refine gate_guard (by rfl) ?_; dsimp only)); refine box_event ?hg (N := 3) ?hd (cs := #[.int .u64 c.f0, .int .u64 c.f1, .bool c.f2, .int .u32 c.f3.f0.f0, .int .u8 c.f3.f0.f1, .int .i64 c.f3.f1, .int .u16 c.f3.f2, .int .u16 c.f3.f3]) (t := 38) ?hr ?_; (case hd => rfl); (case hg => rfl); (case hr => first | (go_simp; done)); intro g3 hg w3 hbox hb; have BK3 := Ad hbox; have HB3 := Ad hb; have BKg3 := Ad (blk_below BKg.out hb); clear hb hbox hg; have p0 : w3.cell? ⟨g3, 0, none⟩ = some (.int .u64 c.f0) := (blk_cell BK3.out 0).trans rfl; have p1 : w3.cell? ⟨g3, 1, none⟩ = some (.int .u64 c.f1) := (blk_cell BK3.out 1).trans rfl; have p2 : w3.cell? ⟨g3, 2, none⟩ = some (.bool c.f2) := (blk_cell BK3.out 2).trans rfl; have p3 : w3.cell? ⟨g3, 3, none⟩ = some (.int .u32 c.f3.f0.f0) := (blk_cell BK3.out 3).trans rfl; have p4 : w3.cell? ⟨g3, 4, none⟩ = some (.int .u8 c.f3.f0.f1) := (blk_cell BK3.out 4).trans rfl; have p5 : w3.cell? ⟨g3, 5, none⟩ = some (.int .i64 c.f3.f1) := (blk_cell BK3.out 5).trans rfl; have p6 : w3.cell? ⟨g3, 6, none⟩ = some (.int .u16 c.f3.f2) := (blk_cell BK3.out 6).trans rfl; have p7 : w3.cell? ⟨g3, 7, none⟩ = some (.int .u16 c.f3.f3) := (blk_cell BK3.out 7).trans rfl))
 refine (change_Right.calls kr c.f0 c.f1 c.f2 c.f3.f0.f0 c.f3.f0.f1 c.f3.f1 c.f3.f2 c.f3.f3 0 _ HRT.out).mono ?_; rintro e w4 ⟨rfl, hb⟩; have BK34 := Ad (blk_below BK3.out hb); have BKg4 := Ad (blk_below BKg3.out hb); have HB4 := Ad (below_step HB3.out hb); have HR4 := Ad (Kd.R_below HR.out HB4.out); clear hb p0 p1 p2 p3 p4 p5 p6 p7 BK3 BKg3 HB3; have HB04 := Ad (below_then HB0.out hbw HB4.out); have t0 : w4.cell? ⟨g, 0, none⟩ = some (.slice A l.length cA) := (blk_cell BKg4.out 0).trans rfl; have t1 : w4.cell? ⟨g, 1, none⟩ = some (.int .u64 no) := (blk_cell BKg4.out 1).trans rfl; have t2 : w4.cell? ⟨g, 2, none⟩ = some (.int .u64 tm) := (blk_cell BKg4.out 2).trans rfl; have p0 : w4.cell? ⟨g3, 0, none⟩ = some (.int .u64 c.f0) := (blk_cell BK34.out 0).trans rfl; have p1 : w4.cell? ⟨g3, 1, none⟩ = some (.int .u64 c.f1) := (blk_cell BK34.out 1).trans rfl; have p2 : w4.cell? ⟨g3, 2, none⟩ = some (.bool c.f2) := (blk_cell BK34.out 2).trans rfl; have p3 : w4.cell? ⟨g3, 3, none⟩ = some (.int .u32 c.f3.f0.f0) := (blk_cell BK34.out 3).trans rfl; have p4 : w4.cell? ⟨g3, 4, none⟩ = some (.int .u8 c.f3.f0.f1) := (blk_cell BK34.out 4).trans rfl; have p5 : w4.cell? ⟨g3, 5, none⟩ = some (.int .i64 c.f3.f1) := (blk_cell BK34.out 5).trans rfl; have p6 : w4.cell? ⟨g3, 6, none⟩ = some (.int .u16 c.f3.f2) := (blk_cell BK34.out 6).trans rfl; have p7 : w4.cell? ⟨g3, 7, none⟩ = some (.int .u16 c.f3.f3) := (blk_cell BK34.out 7).trans rfl
 have q2 : (c.f0 != IntKind.u64.wrap (no + 1)) = false := by simp [HNO.out]
 have q3 : decide (c.f1 < tm) = false := decide_eq_false (by omega); clear hti
 go_wp2_with (fail)
 go_quiet (fail)
 obtain ⟨w5, hq⟩ : ∃ w5 : World, w4.drewN nq = w5 := ⟨_, rfl⟩
 rw [hq]; have BK35 := Ad (blk_at hq BK34.out); have BKg5 := Ad (blk_at hq BKg4.out); have HB5 := Ad (below_at hq HB4.out); have HB05 := Ad (below_at hq HB04.out); have HR5 := Ad (Kd.R_at hq HR4.out); clear hq t0 t1 t2 q2 q3 p0 p1 p2 p3 p4 p5 p6 p7 BK34 BKg4 HB4 HB04 HR4; have t0 : w5.cell? ⟨g, 0, none⟩ = some (.slice A l.length cA) := (blk_cell BKg5.out 0).trans rfl; have p0 : w5.cell? ⟨g3, 0, none⟩ = some (.int .u64 c.f0) := (blk_cell BK35.out 0).trans rfl; have p1 : w5.cell? ⟨g3, 1, none⟩ = some (.int .u64 c.f1) := (blk_cell BK35.out 1).trans rfl; have p2 : w5.cell? ⟨g3, 2, none⟩ = some (.bool c.f2) := (blk_cell BK35.out 2).trans rfl; have p3 : w5.cell? ⟨g3, 3, none⟩ = some (.int .u32 c.f3.f0.f0) := (blk_cell BK35.out 3).trans rfl; have p4 : w5.cell? ⟨g3, 4, none⟩ = some (.int .u8 c.f3.f0.f1) := (blk_cell BK35.out 4).trans rfl; have p5 : w5.cell? ⟨g3, 5, none⟩ = some (.int .i64 c.f3.f1) := (blk_cell BK35.out 5).trans rfl; have p6 : w5.cell? ⟨g3, 6, none⟩ = some (.int .u16 c.f3.f2) := (blk_cell BK35.out 6).trans rfl; have p7 : w5.cell? ⟨g3, 7, none⟩ = some (.int .u16 c.f3.f3) := (blk_cell BK35.out 7).trans rfl
 go_wp2_with (fail)
 refine (table_Table_find.calls 3 g no tm A cA l c.f3.f0.f0 c.f3.f0.f1 i cv _ BKg5.out (Kd.C_below HC.out HB5.out) (by omega) hi HM.out).mono ?_; rintro e w6 ⟨rfl, hb⟩; have BK3 := Ad (blk_below BK35.out hb); have BKg := Ad (blk_below BKg5.out hb); have HBW := Ad (below_step HB5.out hb); have HRW := Ad (Kd.R_below HR5.out hb); clear hb t0 p0 p1 p2 p3 p4 p5 p6 p7 BK35 BKg5 HB5 HR5 HB05; have HB06 := Ad (below_then HB0.out hbw HBW.out); have HK := Ad (KeepT.of_below HBW.out); have t0 : w6.cell? ⟨g, 0, none⟩ = some (.slice A l.length cA) := (blk_cell BKg.out 0).trans rfl; have p0 : w6.cell? ⟨g3, 0, none⟩ = some (.int .u64 c.f0) := (blk_cell BK3.out 0).trans rfl; have p1 : w6.cell? ⟨g3, 1, none⟩ = some (.int .u64 c.f1) := (blk_cell BK3.out 1).trans rfl; have p2 : w6.cell? ⟨g3, 2, none⟩ = some (.bool c.f2) := (blk_cell BK3.out 2).trans rfl; have p3 : w6.cell? ⟨g3, 3, none⟩ = some (.int .u32 c.f3.f0.f0) := (blk_cell BK3.out 3).trans rfl; have p4 : w6.cell? ⟨g3, 4, none⟩ = some (.int .u8 c.f3.f0.f1) := (blk_cell BK3.out 4).trans rfl; have p5 : w6.cell? ⟨g3, 5, none⟩ = some (.int .i64 c.f3.f1) := (blk_cell BK3.out 5).trans rfl; have p6 : w6.cell? ⟨g3, 6, none⟩ = some (.int .u16 c.f3.f2) := (blk_cell BK3.out 6).trans rfl; have p7 : w6.cell? ⟨g3, 7, none⟩ = some (.int .u16 c.f3.f3) := (blk_cell BK3.out 7).trans rfl; have q5 : decide (i < l.length) = true := decide_eq_true hlt; have q6 : (cv i == 0) = true := beq_iff_eq.mpr H0.out; have q8 : c.f2 = true := HGN.out; rw [q8] at p2; clear q8; obtain ⟨ad_, e0, hx0, hx1, hx2, hx3, hx4, hx5, hx6, hx7, hx8, hx9⟩ := at_T43 (Kd.C_below HC.out HBW.out) (i : Int) (by omega) (by omega); cases e0
 simp only [Int.toNat_natCast, add_plain] at hx0 hx1 hx2 hx3 hx4 hx5 hx6 hx7 hx8 hx9
 rw [HHAS.out] at hx2; have i1 : decide (0 ≤ (i : Int)) = true := decide_eq_true (by omega); have i2 : decide ((i : Int) < (l.length : Int)) = true := decide_eq_true (by omega)
 go_wp2_with (fail)
 go_ret; exact ⟨rfl, ⟨_, BKg.out, HRW.out⟩, HB06.out, HK.out⟩
theorem table_Table_Apply.full (g b : Nat) (v : Value) (l : List S43) (no tm : Int) (c : S38) (w0 w : World) (hg : w.heap[g]? = some (.cells #[v, .int .u64 no, .int .u64 tm] 70 (0, 0))) (hR : k43.R 43 w b (fun _ => True) v l) (hbg : b ≤ g) (hbw : b ≤ w.heap.size) (hB : Below b w0 w) (hlen : l.length ≤ 256) (kr : Nat) (hrt : change_Right.f kr c.f0 c.f1 c.f2 c.f3.f0.f0 c.f3.f0.f1 c.f3.f1 c.f3.f2 c.f3.f3 = some 0) (hno : c.f0 = IntKind.u64.wrap (no + 1)) (hti : ¬ c.f1 < tm) (i : Nat) (cv : Nat → Int) (hi : i ≤ l.length) (hcmp : ∀ j : Nat, j < l.length → prefix_Compare.f 3 (rd_T43 l (j : Int)).f0.f0 (rd_T43 l (j : Int)).f0.f1 c.f3.f0.f0 c.f3.f0.f1 = some (cv j) ∧ (cv j < 0 ↔ j < i)) (hgn : c.f2 = false) (hmiss : (decide (i < l.length) && (cv i == 0)) = false) (hful : 256 ≤ l.length) : Calls Try.prog 21 #[.pointer (some ⟨g, 0, none⟩), .agg #[.int .u64 c.f0, .int .u64 c.f1, .bool c.f2, .int .u32 c.f3.f0.f0, .int .u8 c.f3.f0.f1, .int .i64 c.f3.f1, .int .u16 c.f3.f2, .int .u16 c.f3.f3]] w fun e w' => e = .returned (.int .i64 3) ∧ (∃ v', w'.heap[g]? = some (.cells #[v', .int .u64 no, .int .u64 tm] 70 (0, 0)) ∧ k43.R 43 w' b (fun _ => True) v' (l)) ∧ Below b w0 w' ∧ KeepT w w' := by
 have HNO := Ad hno; have HGN := Ad hgn; clear hno hgn; have HMISS := Ad hmiss; clear hmiss; obtain ⟨A, cA, rfl, hlc, hC⟩ := Kd.R_reads hR; have HC := Ad hC; have HM := Ad hcmp; clear hC hcmp; have hu38 := Try.underlying38; have hu33 := Try.underlying33; have hu36 := Try.underlying36; have hu41 := Try.underlying41; have hu43 := Try.underlying43; have hu70 := Try.underlying70; have HR := Ad hR; have HRT := Ad hrt; have BKg := Ad hg; have HB0 := Ad hB; clear hR hrt hg hB
 go_enter Try.func21, Try.ntmps21
 go_wp2_with (((with_reducible refine gate_dst (N := 3) rfl ?_); (try (refine gate_guard (by rfl) ?_; dsimp only)); refine box_event ?hg (N := 3) ?hd (cs := #[.int .u64 c.f0, .int .u64 c.f1, .bool c.f2, .int .u32 c.f3.f0.f0, .int .u8 c.f3.f0.f1, .int .i64 c.f3.f1, .int .u16 c.f3.f2, .int .u16 c.f3.f3]) (t := 38) ?hr ?_; (case hd => rfl); (case hg => rfl); (case hr => first | (go_simp; done)); intro g3 hg w3 hbox hb; have BK3 := Ad hbox; have HB3 := Ad hb; have BKg3 := Ad (blk_below BKg.out hb); clear hb hbox hg; have p0 : w3.cell? ⟨g3, 0, none⟩ = some (.int .u64 c.f0) := (blk_cell BK3.out 0).trans rfl; have p1 : w3.cell? ⟨g3, 1, none⟩ = some (.int .u64 c.f1) := (blk_cell BK3.out 1).trans rfl; have p2 : w3.cell? ⟨g3, 2, none⟩ = some (.bool c.f2) := (blk_cell BK3.out 2).trans rfl; have p3 : w3.cell? ⟨g3, 3, none⟩ = some (.int .u32 c.f3.f0.f0) := (blk_cell BK3.out 3).trans rfl; have p4 : w3.cell? ⟨g3, 4, none⟩ = some (.int .u8 c.f3.f0.f1) := (blk_cell BK3.out 4).trans rfl; have p5 : w3.cell? ⟨g3, 5, none⟩ = some (.int .i64 c.f3.f1) := (blk_cell BK3.out 5).trans rfl; have p6 : w3.cell? ⟨g3, 6, none⟩ = some (.int .u16 c.f3.f2) := (blk_cell BK3.out 6).trans rfl; have p7 : w3.cell? ⟨g3, 7, none⟩ = some (.int .u16 c.f3.f3) := (blk_cell BK3.out 7).trans rfl))
 refine (change_Right.calls kr c.f0 c.f1 c.f2 c.f3.f0.f0 c.f3.f0.f1 c.f3.f1 c.f3.f2 c.f3.f3 0 _ HRT.out).mono ?_; rintro e w4 ⟨rfl, hb⟩; have BK34 := Ad (blk_below BK3.out hb); have BKg4 := Ad (blk_below BKg3.out hb); have HB4 := Ad (below_step HB3.out hb); have HR4 := Ad (Kd.R_below HR.out HB4.out); clear hb p0 p1 p2 p3 p4 p5 p6 p7 BK3 BKg3 HB3; have HB04 := Ad (below_then HB0.out hbw HB4.out); have t0 : w4.cell? ⟨g, 0, none⟩ = some (.slice A l.length cA) := (blk_cell BKg4.out 0).trans rfl; have t1 : w4.cell? ⟨g, 1, none⟩ = some (.int .u64 no) := (blk_cell BKg4.out 1).trans rfl; have t2 : w4.cell? ⟨g, 2, none⟩ = some (.int .u64 tm) := (blk_cell BKg4.out 2).trans rfl; have p0 : w4.cell? ⟨g3, 0, none⟩ = some (.int .u64 c.f0) := (blk_cell BK34.out 0).trans rfl; have p1 : w4.cell? ⟨g3, 1, none⟩ = some (.int .u64 c.f1) := (blk_cell BK34.out 1).trans rfl; have p2 : w4.cell? ⟨g3, 2, none⟩ = some (.bool c.f2) := (blk_cell BK34.out 2).trans rfl; have p3 : w4.cell? ⟨g3, 3, none⟩ = some (.int .u32 c.f3.f0.f0) := (blk_cell BK34.out 3).trans rfl; have p4 : w4.cell? ⟨g3, 4, none⟩ = some (.int .u8 c.f3.f0.f1) := (blk_cell BK34.out 4).trans rfl; have p5 : w4.cell? ⟨g3, 5, none⟩ = some (.int .i64 c.f3.f1) := (blk_cell BK34.out 5).trans rfl; have p6 : w4.cell? ⟨g3, 6, none⟩ = some (.int .u16 c.f3.f2) := (blk_cell BK34.out 6).trans rfl; have p7 : w4.cell? ⟨g3, 7, none⟩ = some (.int .u16 c.f3.f3) := (blk_cell BK34.out 7).trans rfl
 have q2 : (c.f0 != IntKind.u64.wrap (no + 1)) = false := by simp [HNO.out]
 have q3 : decide (c.f1 < tm) = false := decide_eq_false (by omega); clear hti
 go_wp2_with (fail)
 go_quiet (fail)
 obtain ⟨w5, hq⟩ : ∃ w5 : World, w4.drewN nq = w5 := ⟨_, rfl⟩
 rw [hq]; have BK35 := Ad (blk_at hq BK34.out); have BKg5 := Ad (blk_at hq BKg4.out); have HB5 := Ad (below_at hq HB4.out); have HB05 := Ad (below_at hq HB04.out); have HR5 := Ad (Kd.R_at hq HR4.out); clear hq t0 t1 t2 q2 q3 p0 p1 p2 p3 p4 p5 p6 p7 BK34 BKg4 HB4 HB04 HR4; have t0 : w5.cell? ⟨g, 0, none⟩ = some (.slice A l.length cA) := (blk_cell BKg5.out 0).trans rfl; have p0 : w5.cell? ⟨g3, 0, none⟩ = some (.int .u64 c.f0) := (blk_cell BK35.out 0).trans rfl; have p1 : w5.cell? ⟨g3, 1, none⟩ = some (.int .u64 c.f1) := (blk_cell BK35.out 1).trans rfl; have p2 : w5.cell? ⟨g3, 2, none⟩ = some (.bool c.f2) := (blk_cell BK35.out 2).trans rfl; have p3 : w5.cell? ⟨g3, 3, none⟩ = some (.int .u32 c.f3.f0.f0) := (blk_cell BK35.out 3).trans rfl; have p4 : w5.cell? ⟨g3, 4, none⟩ = some (.int .u8 c.f3.f0.f1) := (blk_cell BK35.out 4).trans rfl; have p5 : w5.cell? ⟨g3, 5, none⟩ = some (.int .i64 c.f3.f1) := (blk_cell BK35.out 5).trans rfl; have p6 : w5.cell? ⟨g3, 6, none⟩ = some (.int .u16 c.f3.f2) := (blk_cell BK35.out 6).trans rfl; have p7 : w5.cell? ⟨g3, 7, none⟩ = some (.int .u16 c.f3.f3) := (blk_cell BK35.out 7).trans rfl
 go_wp2_with (fail)
 refine (table_Table_find.calls 3 g no tm A cA l c.f3.f0.f0 c.f3.f0.f1 i cv _ BKg5.out (Kd.C_below HC.out HB5.out) (by omega) hi HM.out).mono ?_; rintro e w6 ⟨rfl, hb⟩; have BK3 := Ad (blk_below BK35.out hb); have BKg := Ad (blk_below BKg5.out hb); have HBW := Ad (below_step HB5.out hb); have HRW := Ad (Kd.R_below HR5.out hb); clear hb t0 p0 p1 p2 p3 p4 p5 p6 p7 BK35 BKg5 HB5 HR5 HB05; have HB06 := Ad (below_then HB0.out hbw HBW.out); have HK := Ad (KeepT.of_below HBW.out); have t0 : w6.cell? ⟨g, 0, none⟩ = some (.slice A l.length cA) := (blk_cell BKg.out 0).trans rfl; have p0 : w6.cell? ⟨g3, 0, none⟩ = some (.int .u64 c.f0) := (blk_cell BK3.out 0).trans rfl; have p1 : w6.cell? ⟨g3, 1, none⟩ = some (.int .u64 c.f1) := (blk_cell BK3.out 1).trans rfl; have p2 : w6.cell? ⟨g3, 2, none⟩ = some (.bool c.f2) := (blk_cell BK3.out 2).trans rfl; have p3 : w6.cell? ⟨g3, 3, none⟩ = some (.int .u32 c.f3.f0.f0) := (blk_cell BK3.out 3).trans rfl; have p4 : w6.cell? ⟨g3, 4, none⟩ = some (.int .u8 c.f3.f0.f1) := (blk_cell BK3.out 4).trans rfl; have p5 : w6.cell? ⟨g3, 5, none⟩ = some (.int .i64 c.f3.f1) := (blk_cell BK3.out 5).trans rfl; have p6 : w6.cell? ⟨g3, 6, none⟩ = some (.int .u16 c.f3.f2) := (blk_cell BK3.out 6).trans rfl; have p7 : w6.cell? ⟨g3, 7, none⟩ = some (.int .u16 c.f3.f3) := (blk_cell BK3.out 7).trans rfl; have q7 : (decide (i < l.length) && (cv i == 0)) = false := HMISS.out; rw [HGN.out] at p2; have q9 : decide ((l.length : Int) ≥ 256) = true := decide_eq_true (by omega); have q9' : decide (256 ≤ (l.length : Int)) = true := decide_eq_true (by omega)
 go_wp2_with (fail)
 go_ret; exact ⟨rfl, ⟨_, BKg.out, HRW.out⟩, HB06.out, HK.out⟩
theorem table_Table_Apply.gone (g b : Nat) (v : Value) (l : List S43) (no tm : Int) (c : S38) (w0 w : World) (hg : w.heap[g]? = some (.cells #[v, .int .u64 no, .int .u64 tm] 70 (0, 0))) (hR : k43.R 43 w b (fun _ => True) v l) (hbg : b ≤ g) (hbw : b ≤ w.heap.size) (hB : Below b w0 w) (hlen : l.length ≤ 256) (kr : Nat) (hrt : change_Right.f kr c.f0 c.f1 c.f2 c.f3.f0.f0 c.f3.f0.f1 c.f3.f1 c.f3.f2 c.f3.f3 = some 0) (hno : c.f0 = IntKind.u64.wrap (no + 1)) (hti : ¬ c.f1 < tm) (i : Nat) (cv : Nat → Int) (hi : i ≤ l.length) (hcmp : ∀ j : Nat, j < l.length → prefix_Compare.f 3 (rd_T43 l (j : Int)).f0.f0 (rd_T43 l (j : Int)).f0.f1 c.f3.f0.f0 c.f3.f0.f1 = some (cv j) ∧ (cv j < 0 ↔ j < i)) (hgn : c.f2 = true) (hlt : i < l.length) (h0 : cv i = 0) (hhas : (rd_T43 l (i : Int)).f1 = true) : Calls Try.prog 21 #[.pointer (some ⟨g, 0, none⟩), .agg #[.int .u64 c.f0, .int .u64 c.f1, .bool c.f2, .int .u32 c.f3.f0.f0, .int .u8 c.f3.f0.f1, .int .i64 c.f3.f1, .int .u16 c.f3.f2, .int .u16 c.f3.f3]] w fun e w' => e = .returned (.int .i64 0) ∧ (∃ v', w'.heap[g]? = some (.cells #[v', .int .u64 c.f0, .int .u64 c.f1] 70 (0, 0)) ∧ k43.R 43 w' b (fun _ => True) v' (l.set i ⟨(rd_T43 l (i : Int)).f0, false, ⟨c.f3.f0, 0, 0, 0⟩, (rd_T43 l (i : Int)).f3⟩)) ∧ Below b w0 w' ∧ KeepT w w' := by
 have HNO := Ad hno; have HGN := Ad hgn; clear hno hgn; have H0 := Ad h0; have HHAS := Ad hhas; clear h0 hhas; obtain ⟨A, cA, rfl, hlc, hC⟩ := Kd.R_reads hR; have HC := Ad hC; have HM := Ad hcmp; clear hC hcmp; have hu38 := Try.underlying38; have hu33 := Try.underlying33; have hu36 := Try.underlying36; have hu41 := Try.underlying41; have hu43 := Try.underlying43; have hu70 := Try.underlying70; have HR := Ad hR; have HRT := Ad hrt; have BKg := Ad hg; have HB0 := Ad hB; clear hR hrt hg hB
 go_enter Try.func21, Try.ntmps21
 go_wp2_with (((with_reducible refine gate_dst (N := 3) rfl ?_); (try (refine gate_guard (by rfl) ?_; dsimp only)); refine box_event ?hg (N := 3) ?hd (cs := #[.int .u64 c.f0, .int .u64 c.f1, .bool c.f2, .int .u32 c.f3.f0.f0, .int .u8 c.f3.f0.f1, .int .i64 c.f3.f1, .int .u16 c.f3.f2, .int .u16 c.f3.f3]) (t := 38) ?hr ?_; (case hd => rfl); (case hg => rfl); (case hr => first | (go_simp; done)); intro g3 hg w3 hbox hb; have BK3 := Ad hbox; have HB3 := Ad hb; have BKg3 := Ad (blk_below BKg.out hb); clear hb hbox hg; have p0 : w3.cell? ⟨g3, 0, none⟩ = some (.int .u64 c.f0) := (blk_cell BK3.out 0).trans rfl; have p1 : w3.cell? ⟨g3, 1, none⟩ = some (.int .u64 c.f1) := (blk_cell BK3.out 1).trans rfl; have p2 : w3.cell? ⟨g3, 2, none⟩ = some (.bool c.f2) := (blk_cell BK3.out 2).trans rfl; have p3 : w3.cell? ⟨g3, 3, none⟩ = some (.int .u32 c.f3.f0.f0) := (blk_cell BK3.out 3).trans rfl; have p4 : w3.cell? ⟨g3, 4, none⟩ = some (.int .u8 c.f3.f0.f1) := (blk_cell BK3.out 4).trans rfl; have p5 : w3.cell? ⟨g3, 5, none⟩ = some (.int .i64 c.f3.f1) := (blk_cell BK3.out 5).trans rfl; have p6 : w3.cell? ⟨g3, 6, none⟩ = some (.int .u16 c.f3.f2) := (blk_cell BK3.out 6).trans rfl; have p7 : w3.cell? ⟨g3, 7, none⟩ = some (.int .u16 c.f3.f3) := (blk_cell BK3.out 7).trans rfl))
 refine (change_Right.calls kr c.f0 c.f1 c.f2 c.f3.f0.f0 c.f3.f0.f1 c.f3.f1 c.f3.f2 c.f3.f3 0 _ HRT.out).mono ?_; rintro e w4 ⟨rfl, hb⟩; have BK34 := Ad (blk_below BK3.out hb); have BKg4 := Ad (blk_below BKg3.out hb); have HB4 := Ad (below_step HB3.out hb); have HR4 := Ad (Kd.R_below HR.out HB4.out); clear hb p0 p1 p2 p3 p4 p5 p6 p7 BK3 BKg3 HB3; have HB04 := Ad (below_then HB0.out hbw HB4.out); have t0 : w4.cell? ⟨g, 0, none⟩ = some (.slice A l.length cA) := (blk_cell BKg4.out 0).trans rfl; have t1 : w4.cell? ⟨g, 1, none⟩ = some (.int .u64 no) := (blk_cell BKg4.out 1).trans rfl; have t2 : w4.cell? ⟨g, 2, none⟩ = some (.int .u64 tm) := (blk_cell BKg4.out 2).trans rfl; have p0 : w4.cell? ⟨g3, 0, none⟩ = some (.int .u64 c.f0) := (blk_cell BK34.out 0).trans rfl; have p1 : w4.cell? ⟨g3, 1, none⟩ = some (.int .u64 c.f1) := (blk_cell BK34.out 1).trans rfl; have p2 : w4.cell? ⟨g3, 2, none⟩ = some (.bool c.f2) := (blk_cell BK34.out 2).trans rfl; have p3 : w4.cell? ⟨g3, 3, none⟩ = some (.int .u32 c.f3.f0.f0) := (blk_cell BK34.out 3).trans rfl; have p4 : w4.cell? ⟨g3, 4, none⟩ = some (.int .u8 c.f3.f0.f1) := (blk_cell BK34.out 4).trans rfl; have p5 : w4.cell? ⟨g3, 5, none⟩ = some (.int .i64 c.f3.f1) := (blk_cell BK34.out 5).trans rfl; have p6 : w4.cell? ⟨g3, 6, none⟩ = some (.int .u16 c.f3.f2) := (blk_cell BK34.out 6).trans rfl; have p7 : w4.cell? ⟨g3, 7, none⟩ = some (.int .u16 c.f3.f3) := (blk_cell BK34.out 7).trans rfl
 have q2 : (c.f0 != IntKind.u64.wrap (no + 1)) = false := by simp [HNO.out]
 have q3 : decide (c.f1 < tm) = false := decide_eq_false (by omega); clear hti
 go_wp2_with (fail)
 go_quiet (fail)
 obtain ⟨w5, hq⟩ : ∃ w5 : World, w4.drewN nq = w5 := ⟨_, rfl⟩
 rw [hq]; have BK35 := Ad (blk_at hq BK34.out); have BKg5 := Ad (blk_at hq BKg4.out); have HB5 := Ad (below_at hq HB4.out); have HB05 := Ad (below_at hq HB04.out); have HR5 := Ad (Kd.R_at hq HR4.out); clear hq t0 t1 t2 q2 q3 p0 p1 p2 p3 p4 p5 p6 p7 BK34 BKg4 HB4 HB04 HR4; have t0 : w5.cell? ⟨g, 0, none⟩ = some (.slice A l.length cA) := (blk_cell BKg5.out 0).trans rfl; have p0 : w5.cell? ⟨g3, 0, none⟩ = some (.int .u64 c.f0) := (blk_cell BK35.out 0).trans rfl; have p1 : w5.cell? ⟨g3, 1, none⟩ = some (.int .u64 c.f1) := (blk_cell BK35.out 1).trans rfl; have p2 : w5.cell? ⟨g3, 2, none⟩ = some (.bool c.f2) := (blk_cell BK35.out 2).trans rfl; have p3 : w5.cell? ⟨g3, 3, none⟩ = some (.int .u32 c.f3.f0.f0) := (blk_cell BK35.out 3).trans rfl; have p4 : w5.cell? ⟨g3, 4, none⟩ = some (.int .u8 c.f3.f0.f1) := (blk_cell BK35.out 4).trans rfl; have p5 : w5.cell? ⟨g3, 5, none⟩ = some (.int .i64 c.f3.f1) := (blk_cell BK35.out 5).trans rfl; have p6 : w5.cell? ⟨g3, 6, none⟩ = some (.int .u16 c.f3.f2) := (blk_cell BK35.out 6).trans rfl; have p7 : w5.cell? ⟨g3, 7, none⟩ = some (.int .u16 c.f3.f3) := (blk_cell BK35.out 7).trans rfl
 go_wp2_with (fail)
 refine (table_Table_find.calls 3 g no tm A cA l c.f3.f0.f0 c.f3.f0.f1 i cv _ BKg5.out (Kd.C_below HC.out HB5.out) (by omega) hi HM.out).mono ?_; rintro e w6 ⟨rfl, hb⟩; have BK3 := Ad (blk_below BK35.out hb); have BKg := Ad (blk_below BKg5.out hb); have HBW := Ad (below_step HB5.out hb); have HRW := Ad (Kd.R_below HR5.out hb); clear hb t0 p0 p1 p2 p3 p4 p5 p6 p7 BK35 BKg5 HB5 HR5 HB05; have HB06 := Ad (below_then HB0.out hbw HBW.out); have HK := Ad (KeepT.of_below HBW.out); have t0 : w6.cell? ⟨g, 0, none⟩ = some (.slice A l.length cA) := (blk_cell BKg.out 0).trans rfl; have p0 : w6.cell? ⟨g3, 0, none⟩ = some (.int .u64 c.f0) := (blk_cell BK3.out 0).trans rfl; have p1 : w6.cell? ⟨g3, 1, none⟩ = some (.int .u64 c.f1) := (blk_cell BK3.out 1).trans rfl; have p2 : w6.cell? ⟨g3, 2, none⟩ = some (.bool c.f2) := (blk_cell BK3.out 2).trans rfl; have p3 : w6.cell? ⟨g3, 3, none⟩ = some (.int .u32 c.f3.f0.f0) := (blk_cell BK3.out 3).trans rfl; have p4 : w6.cell? ⟨g3, 4, none⟩ = some (.int .u8 c.f3.f0.f1) := (blk_cell BK3.out 4).trans rfl; have p5 : w6.cell? ⟨g3, 5, none⟩ = some (.int .i64 c.f3.f1) := (blk_cell BK3.out 5).trans rfl; have p6 : w6.cell? ⟨g3, 6, none⟩ = some (.int .u16 c.f3.f2) := (blk_cell BK3.out 6).trans rfl; have p7 : w6.cell? ⟨g3, 7, none⟩ = some (.int .u16 c.f3.f3) := (blk_cell BK3.out 7).trans rfl; have q5 : decide (i < l.length) = true := decide_eq_true hlt; have q6 : (cv i == 0) = true := beq_iff_eq.mpr H0.out; have q8 : c.f2 = true := HGN.out; rw [q8] at p2; clear q8; obtain ⟨gr, cp, e0, hbgr, hgr, cells, hcells⟩ := Kd.R_form HRW.out (by omega)
 injection e0 with e1 _ e2
 subst e1 e2; have BKr := Ad hcells; clear hcells HC HM HRT HR hgr; obtain ⟨ad_, e0, hx0, hx1, hx2, hx3, hx4, hx5, hx6, hx7, hx8, hx9⟩ := at_T43 (Kd.R_reads' HRW.out).2.2 (i : Int) (by omega) (by omega); cases e0
 simp only [Int.toNat_natCast, add_plain] at hx0 hx1 hx2 hx3 hx4 hx5 hx6 hx7 hx8 hx9
 rw [HHAS.out] at hx2; have i1 : decide (0 ≤ (i : Int)) = true := decide_eq_true (by omega); have i2 : decide ((i : Int) < (l.length : Int)) = true := decide_eq_true (by omega)
 go_upto_region 16 with (fail)
 replace BK3 := Ad (blk_drew BK3.out); replace BKg := Ad (blk_drew BKg.out); replace HRW := Ad (Kd.R_drew HRW.out); replace HB06 := Ad (below_drew1 HB06.out); replace HK := Ad (HK.out.trans (KeepT.of_below (below_drew1 (Below.refl _ _)))); replace BKr := Ad (blk_drew BKr.out); clear t0 p0 p1 p2 p3 p4 p5 p6 p7 hx0 hx1 hx2 hx3 hx4 hx5 hx6 hx7 hx8 hx9 HBW; obtain ⟨ad_, e0, hx0, hx1, hx2, hx3, hx4, hx5, hx6, hx7, hx8, hx9⟩ := at_T43 (Kd.R_reads' HRW.out).2.2 (i : Int) (by omega) (by first | omega); cases e0
 simp only [Int.toNat_natCast, add_plain] at hx0 hx1 hx2 hx3 hx4 hx5 hx6 hx7 hx8 hx9
 refine start_ (n := 20) (S := fun w' => w'.cell? ⟨g, 0, none⟩ = some (.slice (some ⟨gr, 0, none⟩) l.length cA) ∧ w'.cell? ⟨g3, 3, none⟩ = some (.int .u32 c.f3.f0.f0) ∧ w'.cell? ⟨g3, 4, none⟩ = some (.int .u8 c.f3.f0.f1)) (ds := [19]) (tf 20 0) (by kernel_rfl) rfl rfl ⟨(blk_cell BKg.out 0).trans rfl, (blk_cell BK3.out 3).trans rfl, (blk_cell BK3.out 4).trans rfl⟩ (fun hHeld => ?_); generalize w6.drew = wd at BK3 BKg BKr HRW HB06 HK hx0 hx1 hx2 hx3 hx4 hx5 hx6 hx7 hx8 hx9 hHeld ⊢; refine pu 0 119 ?_ (tf 20 1) rfl rfl (by kernel_rfl) (fun _ _ _ h => h) (by rfl) ?_ ?_ ?_ ?_; rotate_left; · intro w'; go_simp; with_reducible rfl
 rotate_left; · simp only [Act.put, lz]; rfl
 refine pu 1 120 ?_ (tf 20 2) rfl rfl (by kernel_rfl) (fun _ _ _ h => h) (by rfl) ?_ ?_ ?_ ?_; rotate_left; · intro w'; go_simp; with_reducible rfl
 rotate_left; · simp only [Act.put, lz]; rfl
 refine pu 2 121 ?_ (tf 20 3) rfl rfl (by kernel_rfl) (fun _ _ _ h => h) (by rfl) ?_ ?_ ?_ ?_; rotate_left; · intro w'; go_simp; with_reducible rfl
 rotate_left; · simp only [Act.put, lz]; rfl
 refine pu 4 123 ?_ #[I,I,I,O,I,O,O,O,O,O,O,O,O,O,O,O,O,O,O,O] rfl rfl (by kernel_rfl) (fun _ _ _ h => h) (by rfl) ?_ ?_ ?_ ?_; rotate_left; · intro w'; go_simp; with_reducible rfl
 rotate_left; · simp only [Act.put, lz]; rfl
 refine pu 5 124 ?_ #[I,I,I,O,I,I,O,O,O,O,O,O,O,O,O,O,O,O,O,O] rfl rfl (by kernel_rfl) (fun _ _ _ h => h) (by rfl) ?_ ?_ ?_ ?_; rotate_left; · intro w'; go_simp; with_reducible rfl
 rotate_left; · simp only [Act.put, lz]; rfl
 refine pu 6 125 ?_ #[I,I,I,O,I,I,I,O,O,O,O,O,O,O,O,O,O,O,O,O] rfl rfl (by kernel_rfl) (fun _ _ _ h => h) (by rfl) ?_ ?_ ?_ ?_; rotate_left; · intro w'; go_simp; with_reducible rfl
 rotate_left; · simp only [Act.put, lz]; rfl
 refine pu 7 126 ?_ #[I,I,I,O,I,I,I,I,O,O,O,O,O,O,O,O,O,O,O,O] rfl rfl (by kernel_rfl) (fun _ _ _ h => h) (by rfl) ?_ ?_ ?_ ?_; rotate_left; · intro w'; go_simp; with_reducible rfl
 rotate_left; · simp only [Act.put, lz]; rfl
 refine pu 9 128 ?_ #[I,I,I,O,I,I,I,I,O,I,O,O,O,O,O,O,O,O,O,O] rfl rfl (by kernel_rfl) (fun _ _ _ h => h) (by rfl) ?_ ?_ ?_ ?_; rotate_left; · intro w'; go_simp; with_reducible rfl
 rotate_left; · simp only [Act.put, lz]; rfl
 refine pu 10 129 ?_ #[I,I,I,O,I,I,I,I,O,I,I,O,O,O,O,O,O,O,O,O] rfl rfl (by kernel_rfl) (fun _ _ _ h => h) (by rfl) ?_ ?_ ?_ ?_; rotate_left; · intro w'; go_simp; with_reducible rfl
 rotate_left; · simp only [Act.put, lz]; rfl
 refine pu 11 130 ?_ #[I,I,I,O,I,I,I,I,O,I,I,I,O,O,O,O,O,O,O,O] rfl rfl (by kernel_rfl) (fun _ _ _ h => h) (by rfl) ?_ ?_ ?_ ?_; rotate_left; · intro w'; go_simp; with_reducible rfl
 rotate_left; · simp only [Act.put, lz]; rfl
 refine tu 3 122 ?_ #[I,I,I,I,I,I,I,I,O,I,I,I,O,O,O,O,O,O,O,O] rfl rfl (by kernel_rfl) (fun _ _ _ h => h) (by rfl) ?_ hHeld ?_ ?_ ?_; rotate_left; · rintro w' ⟨s0, s1, s2⟩; go_simp; with_reducible rfl
 rotate_left; · simp only [Act.put, lz]; rfl
 refine tu 8 127 ?_ (tf 20 12) rfl rfl (by kernel_rfl) (fun _ _ _ h => h) (by rfl) ?_ hHeld ?_ ?_ ?_; rotate_left; · rintro w' ⟨s0, s1, s2⟩; go_simp; with_reducible rfl
 rotate_left; · simp only [Act.put, lz]; rfl
 refine pu 14 133 ?_ #[I,I,I,I,I,I,I,I,I,I,I,I,O,O,I,O,O,O,O,O] rfl rfl (by kernel_rfl) (fun _ _ _ h => h) (by rfl) ?_ ?_ ?_ ?_; rotate_left; · intro w'; go_simp; with_reducible rfl
 rotate_left; · simp only [Act.put, lz]; rfl
 refine pu 15 134 ?_ #[I,I,I,I,I,I,I,I,I,I,I,I,O,O,I,I,O,O,O,O] rfl rfl (by kernel_rfl) (fun _ _ _ h => h) (by rfl) ?_ ?_ ?_ ?_; rotate_left; · intro w'; go_simp; with_reducible rfl
 rotate_left; · simp only [Act.put, lz]; rfl
 refine tu 12 131 ?_ #[I,I,I,I,I,I,I,I,I,I,I,I,I,O,I,I,O,O,O,O] rfl rfl (by kernel_rfl) (fun _ _ _ h => h) (by rfl) ?_ hHeld ?_ ?_ ?_; rotate_left; · rintro w' ⟨s0, s1, s2⟩; go_simp; with_reducible rfl
 rotate_left; · simp only [Act.put, lz]; rfl
 refine pu 13 132 ?_ (tf 20 16) rfl rfl (by kernel_rfl) (fun _ _ _ h => h) (by rfl) ?_ ?_ ?_ ?_; rotate_left; · intro w'; go_simp; with_reducible rfl
 rotate_left; · simp only [Act.put, lz]; rfl
 refine one_ (i := 16) (N := none) (tf 20 17) rfl rfl (by kernel_rfl) (by decide) (fun K hK => ?_); have y0_ := blk_frozen BKr.out (i * 10 + 2); refine skip_ (w1 := (wd.setCells gr (i * 10 + 2) [.bool false])) (by rfl) rfl ?_ ?_; · go_simp; rfl
 clear y0_; have hgne : some g ≠ (Value.slice (some ⟨gr, 0, none⟩) l.length cA).ownBlock := Kd.R_ne HRW.out BKg.out (by decide)
 obtain ⟨hrow0, hgw0⟩ := Kd.R_seg (d := k43) (okp := fun _ => False) HRW.out (i : Int) (by omega) (by omega) (c := [.int .u32 (rd_T43 l (i : Int)).f0.f0, .int .u8 (rd_T43 l (i : Int)).f0.f1, .bool (rd_T43 l (i : Int)).f1, .int .u32 (rd_T43 l (i : Int)).f2.f0.f0, .int .u8 (rd_T43 l (i : Int)).f2.f0.f1, .int .i64 (rd_T43 l (i : Int)).f2.f1, .int .u16 (rd_T43 l (i : Int)).f2.f2, .int .u16 (rd_T43 l (i : Int)).f2.f3, .int .u16 (rd_T43 l (i : Int)).f3.f0, .int .u16 (rd_T43 l (i : Int)).f3.f1]) (seg := [.bool false]) (j := 2) rfl (by
  intro j u hu
  rcases j with _ | _ | _ | _ | _ | _ | _ | _ | _ | _ | j
  · injection hu with hu; subst hu; exact hx0
  · injection hu with hu; subst hu; exact hx1
  · injection hu with hu; subst hu; exact hx2
  · injection hu with hu; subst hu; exact hx3
  · injection hu with hu; subst hu; exact hx4
  · injection hu with hu; subst hu; exact hx5
  · injection hu with hu; subst hu; exact hx6
  · injection hu with hu; subst hu; exact hx7
  · injection hu with hu; subst hu; exact hx8
  · injection hu with hu; subst hu; exact hx9
  · simp at hu) (show (2 : Nat) + 1 ≤ 10 from by decide) (x' := (⟨(rd_T43 l (i : Int)).f0, false, (rd_T43 l (i : Int)).f2, (rd_T43 l (i : Int)).f3⟩ : S43)) (k43_mkM _ _ _ (⟨(rd_T43 l (i : Int)).f0, false, (rd_T43 l (i : Int)).f2, (rd_T43 l (i : Int)).f3⟩ : S43)) (fun _ h => h.elim)
 have hrow : k43.R 43 (wd.setCells gr (i * 10 + 2) [.bool false]) b (fun _ => True) (.slice (some ⟨gr, 0, none⟩) l.length cA) (l.set i (⟨(rd_T43 l (i : Int)).f0, false, (rd_T43 l (i : Int)).f2, (rd_T43 l (i : Int)).f3⟩ : S43)) := hrow0; have hgw : wd.grownBy (wd.setCells gr (i * 10 + 2) [.bool false]) (Value.slice (some ⟨gr, 0, none⟩) l.length cA).ownBlock := hgw0; clear hrow0 hgw0 hx0 hx1 hx2 hx3 hx4 hx5 hx6 hx7 hx8 hx9; generalize wd.setCells gr (i * 10 + 2) [.bool false] = wd1 at hrow hgw ⊢; replace BK3 := Ad ((hgw.block g3 (blk_lt BK3.out) (Kd.R_ne HRW.out BK3.out (by decide))).trans BK3.out); replace HK := Ad (table_Table_Apply.keep_row HK.out HRW.out hgw); replace HB06 := Ad (HB06.out.grown hgw (Nat.le_trans hbg (Nat.le_of_lt (blk_lt BKg.out))) (Kd.R_base HRW.out)); replace BKg := Ad ((hgw.block g (blk_lt BKg.out) (hgne)).trans BKg.out); replace HRW := Ad (hrow); clear hrow hgw hgne BKr; obtain ⟨gr_, cq_, e_, _, _, cells_, hcells_⟩ := Kd.R_form HRW.out (by simp only [List.length_set]; omega)
 injection e_ with e1_ e2_ e3_
 clear e2_ e3_
 injection e1_ with e1_
 injection e1_ with e1_ _ _
 subst e1_; have BKr := Ad hcells_; clear hcells_; obtain ⟨ad_, e0, hx0, hx1, hx2, hx3, hx4, hx5, hx6, hx7, hx8, hx9⟩ := at_T43 (Kd.R_reads' HRW.out).2.2 (i : Int) (by omega) (by first | (simp only [List.length_set]; omega)); cases e0
 simp only [Int.toNat_natCast, add_plain] at hx0 hx1 hx2 hx3 hx4 hx5 hx6 hx7 hx8 hx9
 simp only [table_Table_Apply.rd_set _ i _ (show i < (l).length by first | omega)] at hx0 hx1 hx2 hx3 hx4 hx5 hx6 hx7 hx8 hx9
 refine hK.out _ _ ⟨(blk_cell BKg.out 0).trans rfl, (blk_cell BK3.out 3).trans rfl, (blk_cell BK3.out 4).trans rfl⟩ (fun hHeld => ?_); clear hK K; refine pu 17 135 ?_ (tf 20 18) rfl rfl (by kernel_rfl) (fun _ _ _ h => h) (by rfl) ?_ ?_ ?_ ?_; rotate_left; · intro w'; go_simp; with_reducible rfl
 rotate_left; · simp only [Act.put, lz]; rfl
 refine pu 18 136 ?_ (tf 20 19) rfl rfl (by kernel_rfl) (fun _ _ _ h => h) (by rfl) ?_ ?_ ?_ ?_; rotate_left; · intro w'; go_simp; with_reducible rfl
 rotate_left; · simp only [Act.put, lz]; rfl
 refine last_ (i := 19) (N := none) (tf 20 20) rfl rfl (by kernel_rfl) (by decide) (fun K hK => ?_); have y0_ := blk_frozen BKr.out (i * 10 + 3); have y1_ := blk_frozen BKr.out (i * 10 + 4); have y2_ := blk_frozen BKr.out (i * 10 + 5); have y3_ := blk_frozen BKr.out (i * 10 + 6); have y4_ := blk_frozen BKr.out (i * 10 + 7); refine skip_ (w1 := (wd1.setCells gr (i * 10 + 3) [.int .u32 c.f3.f0.f0, .int .u8 c.f3.f0.f1, .int .i64 0, .int .u16 0, .int .u16 0])) (by rfl) rfl ?_ ?_; · go_simp; rfl
 clear y0_ y1_ y2_ y3_ y4_; have hgne : some g ≠ (Value.slice (some ⟨gr, 0, none⟩) l.length cA).ownBlock := Kd.R_ne HRW.out BKg.out (by decide)
 obtain ⟨hrow0, hgw0⟩ := Kd.R_seg (d := k43) (okp := fun _ => False) HRW.out (i : Int) (by omega) (by omega) (c := [.int .u32 (⟨(rd_T43 l (i : Int)).f0, false, (rd_T43 l (i : Int)).f2, (rd_T43 l (i : Int)).f3⟩ : S43).f0.f0, .int .u8 (⟨(rd_T43 l (i : Int)).f0, false, (rd_T43 l (i : Int)).f2, (rd_T43 l (i : Int)).f3⟩ : S43).f0.f1, .bool (⟨(rd_T43 l (i : Int)).f0, false, (rd_T43 l (i : Int)).f2, (rd_T43 l (i : Int)).f3⟩ : S43).f1, .int .u32 (⟨(rd_T43 l (i : Int)).f0, false, (rd_T43 l (i : Int)).f2, (rd_T43 l (i : Int)).f3⟩ : S43).f2.f0.f0, .int .u8 (⟨(rd_T43 l (i : Int)).f0, false, (rd_T43 l (i : Int)).f2, (rd_T43 l (i : Int)).f3⟩ : S43).f2.f0.f1, .int .i64 (⟨(rd_T43 l (i : Int)).f0, false, (rd_T43 l (i : Int)).f2, (rd_T43 l (i : Int)).f3⟩ : S43).f2.f1, .int .u16 (⟨(rd_T43 l (i : Int)).f0, false, (rd_T43 l (i : Int)).f2, (rd_T43 l (i : Int)).f3⟩ : S43).f2.f2, .int .u16 (⟨(rd_T43 l (i : Int)).f0, false, (rd_T43 l (i : Int)).f2, (rd_T43 l (i : Int)).f3⟩ : S43).f2.f3, .int .u16 (⟨(rd_T43 l (i : Int)).f0, false, (rd_T43 l (i : Int)).f2, (rd_T43 l (i : Int)).f3⟩ : S43).f3.f0, .int .u16 (⟨(rd_T43 l (i : Int)).f0, false, (rd_T43 l (i : Int)).f2, (rd_T43 l (i : Int)).f3⟩ : S43).f3.f1]) (seg := [.int .u32 c.f3.f0.f0, .int .u8 c.f3.f0.f1, .int .i64 0, .int .u16 0, .int .u16 0]) (j := 3) rfl (by
  intro j u hu
  rcases j with _ | _ | _ | _ | _ | _ | _ | _ | _ | _ | j
  · injection hu with hu; subst hu; exact hx0
  · injection hu with hu; subst hu; exact hx1
  · injection hu with hu; subst hu; exact hx2
  · injection hu with hu; subst hu; exact hx3
  · injection hu with hu; subst hu; exact hx4
  · injection hu with hu; subst hu; exact hx5
  · injection hu with hu; subst hu; exact hx6
  · injection hu with hu; subst hu; exact hx7
  · injection hu with hu; subst hu; exact hx8
  · injection hu with hu; subst hu; exact hx9
  · simp at hu) (show (3 : Nat) + 5 ≤ 10 from by decide) (x' := (⟨(rd_T43 l (i : Int)).f0, false, ⟨c.f3.f0, 0, 0, 0⟩, (rd_T43 l (i : Int)).f3⟩ : S43)) (k43_mkM _ _ _ (⟨(rd_T43 l (i : Int)).f0, false, ⟨c.f3.f0, 0, 0, 0⟩, (rd_T43 l (i : Int)).f3⟩ : S43)) (fun _ h => h.elim)
 have hrow : k43.R 43 (wd1.setCells gr (i * 10 + 3) [.int .u32 c.f3.f0.f0, .int .u8 c.f3.f0.f1, .int .i64 0, .int .u16 0, .int .u16 0]) b (fun _ => True) (.slice (some ⟨gr, 0, none⟩) l.length cA) ((l.set i (⟨(rd_T43 l (i : Int)).f0, false, (rd_T43 l (i : Int)).f2, (rd_T43 l (i : Int)).f3⟩ : S43)).set i (⟨(rd_T43 l (i : Int)).f0, false, ⟨c.f3.f0, 0, 0, 0⟩, (rd_T43 l (i : Int)).f3⟩ : S43)) := hrow0; have hgw : wd1.grownBy (wd1.setCells gr (i * 10 + 3) [.int .u32 c.f3.f0.f0, .int .u8 c.f3.f0.f1, .int .i64 0, .int .u16 0, .int .u16 0]) (Value.slice (some ⟨gr, 0, none⟩) l.length cA).ownBlock := hgw0; clear hrow0 hgw0 hx0 hx1 hx2 hx3 hx4 hx5 hx6 hx7 hx8 hx9; generalize wd1.setCells gr (i * 10 + 3) [.int .u32 c.f3.f0.f0, .int .u8 c.f3.f0.f1, .int .i64 0, .int .u16 0, .int .u16 0] = wd2 at hrow hgw ⊢; replace BK3 := Ad ((hgw.block g3 (blk_lt BK3.out) (Kd.R_ne HRW.out BK3.out (by decide))).trans BK3.out); replace HK := Ad (table_Table_Apply.keep_row HK.out HRW.out hgw); replace HB06 := Ad (HB06.out.grown hgw (Nat.le_trans hbg (Nat.le_of_lt (blk_lt BKg.out))) (Kd.R_base HRW.out)); replace BKg := Ad ((hgw.block g (blk_lt BKg.out) (hgne)).trans BKg.out); replace HRW := Ad (hrow); clear hrow hgw hgne BKr; obtain ⟨gr_, cq_, e_, _, _, cells_, hcells_⟩ := Kd.R_form HRW.out (by simp only [List.length_set]; omega)
 injection e_ with e1_ e2_ e3_
 clear e2_ e3_
 injection e1_ with e1_
 injection e1_ with e1_ _ _
 subst e1_; have BKr := Ad hcells_; clear hcells_; obtain ⟨ad_, e0, hx0, hx1, hx2, hx3, hx4, hx5, hx6, hx7, hx8, hx9⟩ := at_T43 (Kd.R_reads' HRW.out).2.2 (i : Int) (by omega) (by first | (simp only [List.length_set]; omega)); cases e0
 simp only [Int.toNat_natCast, add_plain] at hx0 hx1 hx2 hx3 hx4 hx5 hx6 hx7 hx8 hx9
 simp only [table_Table_Apply.rd_set _ i _ (show i < ((l.set i (⟨(rd_T43 l (i : Int)).f0, false, (rd_T43 l (i : Int)).f2, (rd_T43 l (i : Int)).f3⟩ : S43))).length by first | (simp only [List.length_set]; omega))] at hx0 hx1 hx2 hx3 hx4 hx5 hx6 hx7 hx8 hx9
 refine hK.out _ _ ?_; clear hK K; refine done_ (by kernel_rfl) ?_
 go_upto_region 19 with (fail)
 replace BK3 := Ad (blk_drew BK3.out); replace BKg := Ad (blk_drew BKg.out); replace HRW := Ad (Kd.R_drew HRW.out); replace HB06 := Ad (below_drew1 HB06.out); replace HK := Ad (HK.out.trans (KeepT.of_below (below_drew1 (Below.refl _ _)))); refine start_ (n := 12) (S := fun w' => w'.cell? ⟨g3, 0, none⟩ = some (.int .u64 c.f0) ∧ w'.cell? ⟨g3, 1, none⟩ = some (.int .u64 c.f1)) (ds := [11]) (tf 12 0) (by kernel_rfl) rfl rfl ⟨(blk_cell BK3.out 0).trans rfl, (blk_cell BK3.out 1).trans rfl⟩ (fun hHeld => ?_); generalize wd2.drew = we1 at BK3 BKg HRW HB06 HK hHeld ⊢; refine pu 0 148 ?_ (tf 12 1) rfl rfl (by kernel_rfl) (fun _ _ _ h => h) (by rfl) ?_ ?_ ?_ ?_; rotate_left; · intro w'; go_simp; with_reducible rfl
 rotate_left; · simp only [Act.put, lz]; rfl
 refine pu 1 149 ?_ (tf 12 2) rfl rfl (by kernel_rfl) (fun _ _ _ h => h) (by rfl) ?_ ?_ ?_ ?_; rotate_left; · intro w'; go_simp; with_reducible rfl
 rotate_left; · simp only [Act.put, lz]; rfl
 refine pu 2 150 ?_ (tf 12 3) rfl rfl (by kernel_rfl) (fun _ _ _ h => h) (by rfl) ?_ ?_ ?_ ?_; rotate_left; · intro w'; go_simp; with_reducible rfl
 rotate_left; · simp only [Act.put, lz]; rfl
 refine pu 4 152 ?_ #[I,I,I,O,I,O,O,O,O,O,O,O] rfl rfl (by kernel_rfl) (fun _ _ _ h => h) (by rfl) ?_ ?_ ?_ ?_; rotate_left; · intro w'; go_simp; with_reducible rfl
 rotate_left; · simp only [Act.put, lz]; rfl
 refine tu 3 151 ?_ (tf 12 5) rfl rfl (by kernel_rfl) (fun _ _ _ h => h) (by rfl) ?_ hHeld ?_ ?_ ?_; rotate_left; · rintro w' ⟨s0, s1⟩; go_simp; with_reducible rfl
 rotate_left; · simp only [Act.put, lz]; rfl
 refine pu 6 154 ?_ #[I,I,I,I,I,O,I,O,O,O,O,O] rfl rfl (by kernel_rfl) (fun _ _ _ h => h) (by rfl) ?_ ?_ ?_ ?_; rotate_left; · intro w'; go_simp; with_reducible rfl
 rotate_left; · simp only [Act.put, lz]; rfl
 refine pu 7 155 ?_ #[I,I,I,I,I,O,I,I,O,O,O,O] rfl rfl (by kernel_rfl) (fun _ _ _ h => h) (by rfl) ?_ ?_ ?_ ?_; rotate_left; · intro w'; go_simp; with_reducible rfl
 rotate_left; · simp only [Act.put, lz]; rfl
 refine tu 5 153 ?_ (tf 12 8) rfl rfl (by kernel_rfl) (fun _ _ _ h => h) (by rfl) ?_ hHeld ?_ ?_ ?_; rotate_left; · rintro w' ⟨s0, s1⟩; go_simp; with_reducible rfl
 rotate_left; · simp only [Act.put, lz]; rfl
 refine one_ (i := 8) (N := none) (tf 12 9) rfl rfl (by kernel_rfl) (by decide) (fun K hK => ?_); have y_ := blk_frozen BKg.out 1; have c_ : we1.cell? ⟨g, 1, none⟩ = some (.int .u64 no) := (blk_cell BKg.out 1).trans rfl; refine skip_ (w1 := (we1.setCell ⟨g, 1, none⟩ (.int .u64 c.f0))) (by rfl) rfl ?_ ?_
 · go_simp
   try rfl
 clear y_ c_; have hn3 := table_Table_Apply.ne_of BK3.out BKg.out (by decide); have hrow := Kd.R_set HRW.out BKg.out (by decide) 1 (.int .u64 c.f0); have hb3 := (Below.heap_setCell we1 ⟨g, 1, none⟩ (.int .u64 c.f0) g3 hn3).trans BK3.out; have hbg_ := blk_put (cs := #[.slice (some ⟨gr, 0, none⟩) l.length cA, .int .u64 no, .int .u64 tm]) BKg.out 1 (.int .u64 c.f0) rfl; have hk_ := table_Table_Apply.keep_set HK.out BKg.out 1 (.int .u64 c.f0); have hb6 := HB06.out.setCell (p := ⟨g, 1, none⟩) hbg (.int .u64 c.f0); generalize we1.setCell ⟨g, 1, none⟩ (.int .u64 c.f0) = we2 at hrow hb3 hbg_ hk_ hb6 ⊢; clear HRW BK3 BKg HK HB06 hn3; have HRW := Ad hrow; have BK3 := Ad hb3; have BKg := Ad hbg_; have HK := Ad hk_; have HB06 := Ad hb6; clear hrow hb3 hbg_ hk_ hb6; refine hK.out _ _ ⟨(blk_cell BK3.out 0).trans rfl, (blk_cell BK3.out 1).trans rfl⟩ (fun hHeld => ?_); clear hK K; refine pu 9 156 ?_ (tf 12 10) rfl rfl (by kernel_rfl) (fun _ _ _ h => h) (by rfl) ?_ ?_ ?_ ?_; rotate_left; · intro w'; go_simp; with_reducible rfl
 rotate_left; · simp only [Act.put, lz]; rfl
 refine pu 10 157 ?_ (tf 12 11) rfl rfl (by kernel_rfl) (fun _ _ _ h => h) (by rfl) ?_ ?_ ?_ ?_; rotate_left; · intro w'; go_simp; with_reducible rfl
 rotate_left; · simp only [Act.put, lz]; rfl
 refine last_ (i := 11) (N := none) (tf 12 12) rfl rfl (by kernel_rfl) (by decide) (fun K hK => ?_); have y_ := blk_frozen BKg.out 2; have c_ : we2.cell? ⟨g, 2, none⟩ = some (.int .u64 tm) := (blk_cell BKg.out 2).trans rfl; refine skip_ (w1 := (we2.setCell ⟨g, 2, none⟩ (.int .u64 c.f1))) (by rfl) rfl ?_ ?_
 · go_simp
   try rfl
 clear y_ c_; have hn3 := table_Table_Apply.ne_of BK3.out BKg.out (by decide); have hrow := Kd.R_set HRW.out BKg.out (by decide) 2 (.int .u64 c.f1); have hb3 := (Below.heap_setCell we2 ⟨g, 2, none⟩ (.int .u64 c.f1) g3 hn3).trans BK3.out; have hbg_ := blk_put (cs := #[.slice (some ⟨gr, 0, none⟩) l.length cA, .int .u64 c.f0, .int .u64 tm]) BKg.out 2 (.int .u64 c.f1) rfl; have hk_ := table_Table_Apply.keep_set HK.out BKg.out 2 (.int .u64 c.f1); have hb6 := HB06.out.setCell (p := ⟨g, 2, none⟩) hbg (.int .u64 c.f1); generalize we2.setCell ⟨g, 2, none⟩ (.int .u64 c.f1) = we3 at hrow hb3 hbg_ hk_ hb6 ⊢; clear HRW BK3 BKg HK HB06 hn3; have HRW := Ad hrow; have BK3 := Ad hb3; have BKg := Ad hbg_; have HK := Ad hk_; have HB06 := Ad hb6; clear hrow hb3 hbg_ hk_ hb6; refine hK.out _ _ ?_; clear hK K; refine done_ (by kernel_rfl) ?_
 go_wp2_with (fail)
 go_ret; exact ⟨rfl, ⟨_, BKg.out, by have := HRW.out; rwa [List.set_set] at this⟩, HB06.out, HK.out⟩
theorem table_Table_Apply.there (g b : Nat) (v : Value) (l : List S43) (no tm : Int) (c : S38) (w0 w : World) (hg : w.heap[g]? = some (.cells #[v, .int .u64 no, .int .u64 tm] 70 (0, 0))) (hR : k43.R 43 w b (fun _ => True) v l) (hbg : b ≤ g) (hbw : b ≤ w.heap.size) (hB : Below b w0 w) (hlen : l.length ≤ 256) (kr : Nat) (hrt : change_Right.f kr c.f0 c.f1 c.f2 c.f3.f0.f0 c.f3.f0.f1 c.f3.f1 c.f3.f2 c.f3.f3 = some 0) (hno : c.f0 = IntKind.u64.wrap (no + 1)) (hti : ¬ c.f1 < tm) (i : Nat) (cv : Nat → Int) (hi : i ≤ l.length) (hcmp : ∀ j : Nat, j < l.length → prefix_Compare.f 3 (rd_T43 l (j : Int)).f0.f0 (rd_T43 l (j : Int)).f0.f1 c.f3.f0.f0 c.f3.f0.f1 = some (cv j) ∧ (cv j < 0 ↔ j < i)) (hgn : c.f2 = false) (hlt : i < l.length) (h0 : cv i = 0) (b0 b1 : Int) (hbest : serial_Best.f (rd_T43 l (i : Int)).f3.f0 (rd_T43 l (i : Int)).f3.f1 c.f3.f3 c.f3.f2 = some (b0, b1)) : Calls Try.prog 21 #[.pointer (some ⟨g, 0, none⟩), .agg #[.int .u64 c.f0, .int .u64 c.f1, .bool c.f2, .int .u32 c.f3.f0.f0, .int .u8 c.f3.f0.f1, .int .i64 c.f3.f1, .int .u16 c.f3.f2, .int .u16 c.f3.f3]] w fun e w' => e = .returned (.int .i64 0) ∧ (∃ v', w'.heap[g]? = some (.cells #[v', .int .u64 c.f0, .int .u64 c.f1] 70 (0, 0)) ∧ k43.R 43 w' b (fun _ => True) v' (l.set i ⟨(rd_T43 l (i : Int)).f0, true, c.f3, ⟨b0, b1⟩⟩)) ∧ Below b w0 w' ∧ KeepT w w' := by
 have HNO := Ad hno; have HGN := Ad hgn; clear hno hgn; have H0 := Ad h0; have HBE := Ad hbest; clear h0 hbest; obtain ⟨A, cA, rfl, hlc, hC⟩ := Kd.R_reads hR; have HC := Ad hC; have HM := Ad hcmp; clear hC hcmp; have hu38 := Try.underlying38; have hu33 := Try.underlying33; have hu36 := Try.underlying36; have hu41 := Try.underlying41; have hu43 := Try.underlying43; have hu70 := Try.underlying70; have HR := Ad hR; have HRT := Ad hrt; have BKg := Ad hg; have HB0 := Ad hB; clear hR hrt hg hB
 go_enter Try.func21, Try.ntmps21
 go_wp2_with (((with_reducible refine gate_dst (N := 3) rfl ?_); (try (refine gate_guard (by rfl) ?_; dsimp only)); refine box_event ?hg (N := 3) ?hd (cs := #[.int .u64 c.f0, .int .u64 c.f1, .bool c.f2, .int .u32 c.f3.f0.f0, .int .u8 c.f3.f0.f1, .int .i64 c.f3.f1, .int .u16 c.f3.f2, .int .u16 c.f3.f3]) (t := 38) ?hr ?_; (case hd => rfl); (case hg => rfl); (case hr => first | (go_simp; done)); intro g3 hg w3 hbox hb; have BK3 := Ad hbox; have HB3 := Ad hb; have BKg3 := Ad (blk_below BKg.out hb); clear hb hbox hg; have p0 : w3.cell? ⟨g3, 0, none⟩ = some (.int .u64 c.f0) := (blk_cell BK3.out 0).trans rfl; have p1 : w3.cell? ⟨g3, 1, none⟩ = some (.int .u64 c.f1) := (blk_cell BK3.out 1).trans rfl; have p2 : w3.cell? ⟨g3, 2, none⟩ = some (.bool c.f2) := (blk_cell BK3.out 2).trans rfl; have p3 : w3.cell? ⟨g3, 3, none⟩ = some (.int .u32 c.f3.f0.f0) := (blk_cell BK3.out 3).trans rfl; have p4 : w3.cell? ⟨g3, 4, none⟩ = some (.int .u8 c.f3.f0.f1) := (blk_cell BK3.out 4).trans rfl; have p5 : w3.cell? ⟨g3, 5, none⟩ = some (.int .i64 c.f3.f1) := (blk_cell BK3.out 5).trans rfl; have p6 : w3.cell? ⟨g3, 6, none⟩ = some (.int .u16 c.f3.f2) := (blk_cell BK3.out 6).trans rfl; have p7 : w3.cell? ⟨g3, 7, none⟩ = some (.int .u16 c.f3.f3) := (blk_cell BK3.out 7).trans rfl))
 refine (change_Right.calls kr c.f0 c.f1 c.f2 c.f3.f0.f0 c.f3.f0.f1 c.f3.f1 c.f3.f2 c.f3.f3 0 _ HRT.out).mono ?_; rintro e w4 ⟨rfl, hb⟩; have BK34 := Ad (blk_below BK3.out hb); have BKg4 := Ad (blk_below BKg3.out hb); have HB4 := Ad (below_step HB3.out hb); have HR4 := Ad (Kd.R_below HR.out HB4.out); clear hb p0 p1 p2 p3 p4 p5 p6 p7 BK3 BKg3 HB3; have HB04 := Ad (below_then HB0.out hbw HB4.out); have t0 : w4.cell? ⟨g, 0, none⟩ = some (.slice A l.length cA) := (blk_cell BKg4.out 0).trans rfl; have t1 : w4.cell? ⟨g, 1, none⟩ = some (.int .u64 no) := (blk_cell BKg4.out 1).trans rfl; have t2 : w4.cell? ⟨g, 2, none⟩ = some (.int .u64 tm) := (blk_cell BKg4.out 2).trans rfl; have p0 : w4.cell? ⟨g3, 0, none⟩ = some (.int .u64 c.f0) := (blk_cell BK34.out 0).trans rfl; have p1 : w4.cell? ⟨g3, 1, none⟩ = some (.int .u64 c.f1) := (blk_cell BK34.out 1).trans rfl; have p2 : w4.cell? ⟨g3, 2, none⟩ = some (.bool c.f2) := (blk_cell BK34.out 2).trans rfl; have p3 : w4.cell? ⟨g3, 3, none⟩ = some (.int .u32 c.f3.f0.f0) := (blk_cell BK34.out 3).trans rfl; have p4 : w4.cell? ⟨g3, 4, none⟩ = some (.int .u8 c.f3.f0.f1) := (blk_cell BK34.out 4).trans rfl; have p5 : w4.cell? ⟨g3, 5, none⟩ = some (.int .i64 c.f3.f1) := (blk_cell BK34.out 5).trans rfl; have p6 : w4.cell? ⟨g3, 6, none⟩ = some (.int .u16 c.f3.f2) := (blk_cell BK34.out 6).trans rfl; have p7 : w4.cell? ⟨g3, 7, none⟩ = some (.int .u16 c.f3.f3) := (blk_cell BK34.out 7).trans rfl
 have q2 : (c.f0 != IntKind.u64.wrap (no + 1)) = false := by simp [HNO.out]
 have q3 : decide (c.f1 < tm) = false := decide_eq_false (by omega); clear hti
 go_wp2_with (fail)
 go_quiet (fail)
 obtain ⟨w5, hq⟩ : ∃ w5 : World, w4.drewN nq = w5 := ⟨_, rfl⟩
 rw [hq]; have BK35 := Ad (blk_at hq BK34.out); have BKg5 := Ad (blk_at hq BKg4.out); have HB5 := Ad (below_at hq HB4.out); have HB05 := Ad (below_at hq HB04.out); have HR5 := Ad (Kd.R_at hq HR4.out); clear hq t0 t1 t2 q2 q3 p0 p1 p2 p3 p4 p5 p6 p7 BK34 BKg4 HB4 HB04 HR4; have t0 : w5.cell? ⟨g, 0, none⟩ = some (.slice A l.length cA) := (blk_cell BKg5.out 0).trans rfl; have p0 : w5.cell? ⟨g3, 0, none⟩ = some (.int .u64 c.f0) := (blk_cell BK35.out 0).trans rfl; have p1 : w5.cell? ⟨g3, 1, none⟩ = some (.int .u64 c.f1) := (blk_cell BK35.out 1).trans rfl; have p2 : w5.cell? ⟨g3, 2, none⟩ = some (.bool c.f2) := (blk_cell BK35.out 2).trans rfl; have p3 : w5.cell? ⟨g3, 3, none⟩ = some (.int .u32 c.f3.f0.f0) := (blk_cell BK35.out 3).trans rfl; have p4 : w5.cell? ⟨g3, 4, none⟩ = some (.int .u8 c.f3.f0.f1) := (blk_cell BK35.out 4).trans rfl; have p5 : w5.cell? ⟨g3, 5, none⟩ = some (.int .i64 c.f3.f1) := (blk_cell BK35.out 5).trans rfl; have p6 : w5.cell? ⟨g3, 6, none⟩ = some (.int .u16 c.f3.f2) := (blk_cell BK35.out 6).trans rfl; have p7 : w5.cell? ⟨g3, 7, none⟩ = some (.int .u16 c.f3.f3) := (blk_cell BK35.out 7).trans rfl
 go_wp2_with (fail)
 refine (table_Table_find.calls 3 g no tm A cA l c.f3.f0.f0 c.f3.f0.f1 i cv _ BKg5.out (Kd.C_below HC.out HB5.out) (by omega) hi HM.out).mono ?_; rintro e w6 ⟨rfl, hb⟩; have BK3 := Ad (blk_below BK35.out hb); have BKg := Ad (blk_below BKg5.out hb); have HBW := Ad (below_step HB5.out hb); have HRW := Ad (Kd.R_below HR5.out hb); clear hb t0 p0 p1 p2 p3 p4 p5 p6 p7 BK35 BKg5 HB5 HR5 HB05; have HB06 := Ad (below_then HB0.out hbw HBW.out); have HK := Ad (KeepT.of_below HBW.out); have t0 : w6.cell? ⟨g, 0, none⟩ = some (.slice A l.length cA) := (blk_cell BKg.out 0).trans rfl; have p0 : w6.cell? ⟨g3, 0, none⟩ = some (.int .u64 c.f0) := (blk_cell BK3.out 0).trans rfl; have p1 : w6.cell? ⟨g3, 1, none⟩ = some (.int .u64 c.f1) := (blk_cell BK3.out 1).trans rfl; have p2 : w6.cell? ⟨g3, 2, none⟩ = some (.bool c.f2) := (blk_cell BK3.out 2).trans rfl; have p3 : w6.cell? ⟨g3, 3, none⟩ = some (.int .u32 c.f3.f0.f0) := (blk_cell BK3.out 3).trans rfl; have p4 : w6.cell? ⟨g3, 4, none⟩ = some (.int .u8 c.f3.f0.f1) := (blk_cell BK3.out 4).trans rfl; have p5 : w6.cell? ⟨g3, 5, none⟩ = some (.int .i64 c.f3.f1) := (blk_cell BK3.out 5).trans rfl; have p6 : w6.cell? ⟨g3, 6, none⟩ = some (.int .u16 c.f3.f2) := (blk_cell BK3.out 6).trans rfl; have p7 : w6.cell? ⟨g3, 7, none⟩ = some (.int .u16 c.f3.f3) := (blk_cell BK3.out 7).trans rfl; have q5 : decide (i < l.length) = true := decide_eq_true hlt; have q6 : (cv i == 0) = true := beq_iff_eq.mpr H0.out; rw [HGN.out] at p2; have i1 : decide (0 ≤ (i : Int)) = true := decide_eq_true (by omega); have i2 : decide ((i : Int) < (l.length : Int)) = true := decide_eq_true (by omega); obtain ⟨gr, cp, e0, hbgr, hgr, cells, hcells⟩ := Kd.R_form HRW.out (by omega)
 injection e0 with e1 _ e2
 subst e1 e2; clear hcells HC HM HRT HR hgr
 go_upto_region 12 with (((with_reducible refine gate_dst (N := 8) rfl ?_); (try (refine gate_guard (by rfl) ?_; dsimp only)); refine box_event ?hg (N := 8) ?hd (cs := #[.int .u16 0, .int .u16 0]) (t := 41) ?hr ?_; (case hd => rfl); (case hg => rfl); (case hr => first | (go_simp; done)); intro g8 hg w8 hbox hb; have BK8 := Ad hbox; have HB8 := Ad hb; have GE8 := Ad (Nat.le_of_eq hg.symm); clear hb hbox hg; have z0 : w8.cell? ⟨g8, 0, none⟩ = some (.int .u16 0) := (blk_cell BK8.out 0).trans rfl; have z1 : w8.cell? ⟨g8, 1, none⟩ = some (.int .u16 0) := (blk_cell BK8.out 1).trans rfl; have y0 := blk_frozen BK8.out 0; have y1 := blk_frozen BK8.out 1))
 obtain ⟨W, hW⟩ : ∃ W : World, W = ((w8.setCell ⟨g8, 0, none⟩ (.int .u16 c.f3.f3)).setCell ⟨g8, 1, none⟩ (.int .u16 c.f3.f2)) := ⟨_, rfl⟩
 rw [← hW]
 have hbf : Below w6.heap.size w6 W := by rw [hW]; exact below_set (below_set HB8.out GE8.out) GE8.out
 have BK8W := Ad (show W.heap[g8]? = some (.cells #[.int .u16 c.f3.f3, .int .u16 c.f3.f2] 41 (0, 0)) from by rw [hW]; refine blk_put (cs := #[.int .u16 c.f3.f3, .int .u16 0]) ?_ 1 _ rfl; refine blk_put (cs := #[.int .u16 0, .int .u16 0]) ?_ 0 _ rfl; exact BK8.out); clear hW z0 z1 y0 y1 BK8 HB8 GE8 t0 HBW p0 p1 p2 p3 p4 p5 p6 p7; have BK8 := BK8W; clear BK8W; replace BK3 := Ad (blk_below BK3.out hbf); replace HRW := Ad (Kd.R_below HRW.out hbf); replace HB06 := Ad (below_then HB06.out (Nat.le_trans hbg (Nat.le_of_lt (blk_lt BKg.out))) hbf); replace BKg := Ad (blk_below BKg.out hbf); replace HK := Ad (HK.out.trans (KeepT.of_below hbf)); clear hbf; obtain ⟨gr', cp', e0', hbgr', hgr', cells', hcells'⟩ := Kd.R_form HRW.out (by omega)
 injection e0' with e1 _ e2
 injection e1 with e1
 injection e1 with e1 _ _
 subst e1; clear e2; have BKr := Ad hcells'; clear hcells' hgr'; replace BK3 := Ad (blk_drew BK3.out); replace BKg := Ad (blk_drew BKg.out); replace HRW := Ad (Kd.R_drew HRW.out); replace HB06 := Ad (below_drew1 HB06.out); replace HK := Ad (HK.out.trans (KeepT.of_below (below_drew1 (Below.refl _ _)))); replace BK8 := Ad (blk_drew BK8.out); replace BKr := Ad (blk_drew BKr.out); obtain ⟨ad_, e0, hx0, hx1, hx2, hx3, hx4, hx5, hx6, hx7, hx8, hx9⟩ := at_T43 (Kd.R_reads' HRW.out).2.2 (i : Int) (by omega) (by first | omega); cases e0
 simp only [Int.toNat_natCast, add_plain] at hx0 hx1 hx2 hx3 hx4 hx5 hx6 hx7 hx8 hx9
 refine start_ (n := 36) (S := fun w' => w'.cell? ⟨g, 0, none⟩ = some (.slice (some ⟨gr, 0, none⟩) l.length cA) ∧ w'.cell? ⟨gr, i * 10 + 8, none⟩ = some (.int .u16 (rd_T43 l (i : Int)).f3.f0) ∧ w'.cell? ⟨gr, i * 10 + 9, none⟩ = some (.int .u16 (rd_T43 l (i : Int)).f3.f1) ∧ w'.cell? ⟨g3, 3, none⟩ = some (.int .u32 c.f3.f0.f0) ∧ w'.cell? ⟨g3, 4, none⟩ = some (.int .u8 c.f3.f0.f1) ∧ w'.cell? ⟨g3, 5, none⟩ = some (.int .i64 c.f3.f1) ∧ w'.cell? ⟨g3, 6, none⟩ = some (.int .u16 c.f3.f2) ∧ w'.cell? ⟨g3, 7, none⟩ = some (.int .u16 c.f3.f3) ∧ w'.cell? ⟨g8, 0, none⟩ = some (.int .u16 c.f3.f3) ∧ w'.cell? ⟨g8, 1, none⟩ = some (.int .u16 c.f3.f2)) (ds := [35]) (tf 36 0) (by kernel_rfl) rfl rfl ⟨(blk_cell BKg.out 0).trans rfl, hx8, hx9, (blk_cell BK3.out 3).trans rfl, (blk_cell BK3.out 4).trans rfl, (blk_cell BK3.out 5).trans rfl, (blk_cell BK3.out 6).trans rfl, (blk_cell BK3.out 7).trans rfl, (blk_cell BK8.out 0).trans rfl, (blk_cell BK8.out 1).trans rfl⟩ (fun hHeld => ?_); generalize W.drew = wd at BK3 BKg BK8 BKr HRW HB06 HK hx0 hx1 hx2 hx3 hx4 hx5 hx6 hx7 hx8 hx9 hHeld ⊢; refine pu 0 65 ?_ (tf 36 1) rfl rfl (by kernel_rfl) (fun _ _ _ h => h) (by rfl) ?_ ?_ ?_ ?_; rotate_left; · intro w'; go_simp; with_reducible rfl
 rotate_left; · simp only [Act.put, lz]; rfl
 refine pu 1 66 ?_ (tf 36 2) rfl rfl (by kernel_rfl) (fun _ _ _ h => h) (by rfl) ?_ ?_ ?_ ?_; rotate_left; · intro w'; go_simp; with_reducible rfl
 rotate_left; · simp only [Act.put, lz]; rfl
 refine pu 2 67 ?_ (tf 36 3) rfl rfl (by kernel_rfl) (fun _ _ _ h => h) (by rfl) ?_ ?_ ?_ ?_; rotate_left; · intro w'; go_simp; with_reducible rfl
 rotate_left; · simp only [Act.put, lz]; rfl
 refine pu 4 69 ?_ #[I,I,I,O,I,O,O,O,O,O,O,O,O,O,O,O,O,O,O,O,O,O,O,O,O,O,O,O,O,O,O,O,O,O,O,O] rfl rfl (by kernel_rfl) (fun _ _ _ h => h) (by rfl) ?_ ?_ ?_ ?_; rotate_left; · intro w'; go_simp; with_reducible rfl
 rotate_left; · simp only [Act.put, lz]; rfl
 refine pu 5 70 ?_ #[I,I,I,O,I,I,O,O,O,O,O,O,O,O,O,O,O,O,O,O,O,O,O,O,O,O,O,O,O,O,O,O,O,O,O,O] rfl rfl (by kernel_rfl) (fun _ _ _ h => h) (by rfl) ?_ ?_ ?_ ?_; rotate_left; · intro w'; go_simp; with_reducible rfl
 rotate_left; · simp only [Act.put, lz]; rfl
 refine pu 6 71 ?_ #[I,I,I,O,I,I,I,O,O,O,O,O,O,O,O,O,O,O,O,O,O,O,O,O,O,O,O,O,O,O,O,O,O,O,O,O] rfl rfl (by kernel_rfl) (fun _ _ _ h => h) (by rfl) ?_ ?_ ?_ ?_; rotate_left; · intro w'; go_simp; with_reducible rfl
 rotate_left; · simp only [Act.put, lz]; rfl
 refine pu 7 72 ?_ #[I,I,I,O,I,I,I,I,O,O,O,O,O,O,O,O,O,O,O,O,O,O,O,O,O,O,O,O,O,O,O,O,O,O,O,O] rfl rfl (by kernel_rfl) (fun _ _ _ h => h) (by rfl) ?_ ?_ ?_ ?_; rotate_left; · intro w'; go_simp; with_reducible rfl
 rotate_left; · simp only [Act.put, lz]; rfl
 refine pu 9 74 ?_ #[I,I,I,O,I,I,I,I,O,I,O,O,O,O,O,O,O,O,O,O,O,O,O,O,O,O,O,O,O,O,O,O,O,O,O,O] rfl rfl (by kernel_rfl) (fun _ _ _ h => h) (by rfl) ?_ ?_ ?_ ?_; rotate_left; · intro w'; go_simp; with_reducible rfl
 rotate_left; · simp only [Act.put, lz]; rfl
 refine pu 10 75 ?_ #[I,I,I,O,I,I,I,I,O,I,I,O,O,O,O,O,O,O,O,O,O,O,O,O,O,O,O,O,O,O,O,O,O,O,O,O] rfl rfl (by kernel_rfl) (fun _ _ _ h => h) (by rfl) ?_ ?_ ?_ ?_; rotate_left; · intro w'; go_simp; with_reducible rfl
 rotate_left; · simp only [Act.put, lz]; rfl
 refine pu 11 76 ?_ #[I,I,I,O,I,I,I,I,O,I,I,I,O,O,O,O,O,O,O,O,O,O,O,O,O,O,O,O,O,O,O,O,O,O,O,O] rfl rfl (by kernel_rfl) (fun _ _ _ h => h) (by rfl) ?_ ?_ ?_ ?_; rotate_left; · intro w'; go_simp; with_reducible rfl
 rotate_left; · simp only [Act.put, lz]; rfl
 refine pu 12 77 ?_ #[I,I,I,O,I,I,I,I,O,I,I,I,I,O,O,O,O,O,O,O,O,O,O,O,O,O,O,O,O,O,O,O,O,O,O,O] rfl rfl (by kernel_rfl) (fun _ _ _ h => h) (by rfl) ?_ ?_ ?_ ?_; rotate_left; · intro w'; go_simp; with_reducible rfl
 rotate_left; · simp only [Act.put, lz]; rfl
 refine pu 14 79 ?_ #[I,I,I,O,I,I,I,I,O,I,I,I,I,O,I,O,O,O,O,O,O,O,O,O,O,O,O,O,O,O,O,O,O,O,O,O] rfl rfl (by kernel_rfl) (fun _ _ _ h => h) (by rfl) ?_ ?_ ?_ ?_; rotate_left; · intro w'; go_simp; with_reducible rfl
 rotate_left; · simp only [Act.put, lz]; rfl
 refine pu 15 80 ?_ #[I,I,I,O,I,I,I,I,O,I,I,I,I,O,I,I,O,O,O,O,O,O,O,O,O,O,O,O,O,O,O,O,O,O,O,O] rfl rfl (by kernel_rfl) (fun _ _ _ h => h) (by rfl) ?_ ?_ ?_ ?_; rotate_left; · intro w'; go_simp; with_reducible rfl
 rotate_left; · simp only [Act.put, lz]; rfl
 refine pu 17 82 ?_ #[I,I,I,O,I,I,I,I,O,I,I,I,I,O,I,I,O,I,O,O,O,O,O,O,O,O,O,O,O,O,O,O,O,O,O,O] rfl rfl (by kernel_rfl) (fun _ _ _ h => h) (by rfl) ?_ ?_ ?_ ?_; rotate_left; · intro w'; go_simp; with_reducible rfl
 rotate_left; · simp only [Act.put, lz]; rfl
 refine pu 18 83 ?_ #[I,I,I,O,I,I,I,I,O,I,I,I,I,O,I,I,O,I,I,O,O,O,O,O,O,O,O,O,O,O,O,O,O,O,O,O] rfl rfl (by kernel_rfl) (fun _ _ _ h => h) (by rfl) ?_ ?_ ?_ ?_; rotate_left; · intro w'; go_simp; with_reducible rfl
 rotate_left; · simp only [Act.put, lz]; rfl
 refine pu 19 84 ?_ #[I,I,I,O,I,I,I,I,O,I,I,I,I,O,I,I,O,I,I,I,O,O,O,O,O,O,O,O,O,O,O,O,O,O,O,O] rfl rfl (by kernel_rfl) (fun _ _ _ h => h) (by rfl) ?_ ?_ ?_ ?_; rotate_left; · intro w'; go_simp; with_reducible rfl
 rotate_left; · simp only [Act.put, lz]; rfl
 refine pu 21 86 ?_ #[I,I,I,O,I,I,I,I,O,I,I,I,I,O,I,I,O,I,I,I,O,I,O,O,O,O,O,O,O,O,O,O,O,O,O,O] rfl rfl (by kernel_rfl) (fun _ _ _ h => h) (by rfl) ?_ ?_ ?_ ?_; rotate_left; · intro w'; go_simp; with_reducible rfl
 rotate_left; · simp only [Act.put, lz]; rfl
 refine tu 3 68 ?_ #[I,I,I,I,I,I,I,I,O,I,I,I,I,O,I,I,O,I,I,I,O,I,O,O,O,O,O,O,O,O,O,O,O,O,O,O] rfl rfl (by kernel_rfl) (fun _ _ _ h => h) (by rfl) ?_ hHeld ?_ ?_ ?_; rotate_left; · rintro w' ⟨s0, s1, s2, s3, s4, s5, s6, s7, s8, s9⟩; go_simp; with_reducible rfl
 rotate_left; · simp only [Act.put, lz]; rfl
 refine tu 8 73 ?_ #[I,I,I,I,I,I,I,I,I,I,I,I,I,O,I,I,O,I,I,I,O,I,O,O,O,O,O,O,O,O,O,O,O,O,O,O] rfl rfl (by kernel_rfl) (fun _ _ _ h => h) (by rfl) ?_ hHeld ?_ ?_ ?_; rotate_left; · rintro w' ⟨s0, s1, s2, s3, s4, s5, s6, s7, s8, s9⟩; go_simp; with_reducible rfl
 rotate_left; · simp only [Act.put, lz]; rfl
 refine tu 13 78 ?_ #[I,I,I,I,I,I,I,I,I,I,I,I,I,I,I,I,O,I,I,I,O,I,O,O,O,O,O,O,O,O,O,O,O,O,O,O] rfl rfl (by kernel_rfl) (fun _ _ _ h => h) (by rfl) ?_ hHeld ?_ ?_ ?_; rotate_left; · rintro w' ⟨s0, s1, s2, s3, s4, s5, s6, s7, s8, s9⟩; go_simp; with_reducible rfl
 rotate_left; · simp only [Act.put, lz]; rfl
 refine tu 16 81 ?_ #[I,I,I,I,I,I,I,I,I,I,I,I,I,I,I,I,I,I,I,I,O,I,O,O,O,O,O,O,O,O,O,O,O,O,O,O] rfl rfl (by kernel_rfl) (fun _ _ _ h => h) (by rfl) ?_ hHeld ?_ ?_ ?_; rotate_left; · rintro w' ⟨s0, s1, s2, s3, s4, s5, s6, s7, s8, s9⟩; go_simp; with_reducible rfl
 rotate_left; · simp only [Act.put, lz]; rfl
 refine tu 20 85 ?_ (tf 36 22) rfl rfl (by kernel_rfl) (fun _ _ _ h => h) (by rfl) ?_ hHeld ?_ ?_ ?_; rotate_left; · rintro w' ⟨s0, s1, s2, s3, s4, s5, s6, s7, s8, s9⟩; go_simp; with_reducible rfl
 rotate_left; · simp only [Act.put, lz]; rfl
 refine pu 22 87 ?_ (tf 36 23) rfl rfl (by kernel_rfl) (fun _ _ _ h => h) (by rfl) ?_ ?_ ?_ ?_; rotate_left; · intro w'; go_simp; with_reducible rfl
 rotate_left; · simp only [Act.put, lz]; rfl
 refine pu 23 88 ?_ (tf 36 24) rfl rfl (by kernel_rfl) (fun _ _ _ h => h) (by rfl) ?_ ?_ ?_ ?_; rotate_left; · intro w'; go_simp; with_reducible rfl
 rotate_left; · simp only [Act.put, lz]; rfl
 refine tu 24 89 ?_ (tf 36 25) rfl rfl (by kernel_rfl) (fun _ _ _ h => h) (by rfl) ?_ hHeld ?_ ?_ ?_; rotate_left; · rintro w' ⟨s0, s1, s2, s3, s4, s5, s6, s7, s8, s9⟩; go_simp; with_reducible rfl
 rotate_left; · simp only [Act.put, lz]; rfl
 refine tu 25 90 ?_ (tf 36 26) rfl rfl (by kernel_rfl) (fun _ _ _ h => h) (by rfl) ?_ hHeld ?_ ?_ ?_; rotate_left; · rintro w' ⟨s0, s1, s2, s3, s4, s5, s6, s7, s8, s9⟩; go_simp; with_reducible rfl
 rotate_left; · simp only [Act.put, lz]; rfl
 refine one_ (i := 26) (N := some 91) (tf 36 27) rfl rfl (by kernel_rfl) (by decide) (fun K hK => ?_); refine goes_ Try.func38 (by kernel_rfl) rfl #[.agg #[.int .u16 (rd_T43 l (i : Int)).f3.f0, .int .u16 (rd_T43 l (i : Int)).f3.f1], .agg #[.int .u16 c.f3.f3, .int .u16 c.f3.f2]] (by rfl) rfl rfl (by simp only [List.map_toArray, List.map_cons, List.map_nil]; rfl) ?_
 with_reducible refine (serial_Best.calls (rd_T43 l (i : Int)).f3.f0 (rd_T43 l (i : Int)).f3.f1 c.f3.f3 c.f3.f2 b0 b1 _ HBE.out).mono ?_
 rintro e wd0 ⟨rfl, hb⟩; refine ⟨_, rfl, ?_⟩; replace BK3 := Ad (blk_below BK3.out hb); replace BK8 := Ad (blk_below BK8.out hb); replace BKr := Ad (blk_below BKr.out hb); replace HRW := Ad (Kd.R_below HRW.out hb); replace HB06 := Ad (below_then HB06.out (Nat.le_trans hbg (Nat.le_of_lt (blk_lt BKg.out))) hb); replace BKg := Ad (blk_below BKg.out hb); replace HK := Ad (HK.out.trans (KeepT.of_below hb)); clear hb hx0 hx1 hx2 hx3 hx4 hx5 hx6 hx7 hx8 hx9; obtain ⟨ad_, e0, hx0, hx1, hx2, hx3, hx4, hx5, hx6, hx7, hx8, hx9⟩ := at_T43 (Kd.R_reads' HRW.out).2.2 (i : Int) (by omega) (by first | omega); cases e0
 simp only [Int.toNat_natCast, add_plain] at hx0 hx1 hx2 hx3 hx4 hx5 hx6 hx7 hx8 hx9
 refine hK.out _ _ ⟨(blk_cell BKg.out 0).trans rfl, hx8, hx9, (blk_cell BK3.out 3).trans rfl, (blk_cell BK3.out 4).trans rfl, (blk_cell BK3.out 5).trans rfl, (blk_cell BK3.out 6).trans rfl, (blk_cell BK3.out 7).trans rfl, (blk_cell BK8.out 0).trans rfl, (blk_cell BK8.out 1).trans rfl⟩ (fun hHeld => ?_); clear hK K; refine norm_ (a' := ?_) ?_ ?_; rotate_left
 · show Act.put _ (some 91) _ = _; simp only [Act.put, lz]; rfl
 refine pu 27 92 ?_ (tf 36 28) rfl rfl (by kernel_rfl) (fun _ _ _ h => h) (by rfl) ?_ ?_ ?_ ?_; rotate_left; · intro w'; go_simp; with_reducible rfl
 rotate_left; · simp only [Act.put, lz]; rfl
 refine pu 28 93 ?_ (tf 36 29) rfl rfl (by kernel_rfl) (fun _ _ _ h => h) (by rfl) ?_ ?_ ?_ ?_; rotate_left; · intro w'; go_simp; with_reducible rfl
 rotate_left; · simp only [Act.put, lz]; rfl
 refine one_ (i := 29) (N := none) (tf 36 30) rfl rfl (by kernel_rfl) (by decide) (fun K hK => ?_); have y0_ := blk_frozen BKr.out (i * 10 + 2); refine skip_ (w1 := (wd0.setCells gr (i * 10 + 2) [.bool true])) (by rfl) rfl ?_ ?_; · go_simp; rfl
 clear y0_; have hgne : some g ≠ (Value.slice (some ⟨gr, 0, none⟩) l.length cA).ownBlock := Kd.R_ne HRW.out BKg.out (by decide)
 obtain ⟨hrow0, hgw0⟩ := Kd.R_seg (d := k43) (okp := fun _ => False) HRW.out (i : Int) (by omega) (by omega) (c := [.int .u32 (rd_T43 l (i : Int)).f0.f0, .int .u8 (rd_T43 l (i : Int)).f0.f1, .bool (rd_T43 l (i : Int)).f1, .int .u32 (rd_T43 l (i : Int)).f2.f0.f0, .int .u8 (rd_T43 l (i : Int)).f2.f0.f1, .int .i64 (rd_T43 l (i : Int)).f2.f1, .int .u16 (rd_T43 l (i : Int)).f2.f2, .int .u16 (rd_T43 l (i : Int)).f2.f3, .int .u16 (rd_T43 l (i : Int)).f3.f0, .int .u16 (rd_T43 l (i : Int)).f3.f1]) (seg := [.bool true]) (j := 2) rfl (by
  intro j u hu
  rcases j with _ | _ | _ | _ | _ | _ | _ | _ | _ | _ | j
  · injection hu with hu; subst hu; exact hx0
  · injection hu with hu; subst hu; exact hx1
  · injection hu with hu; subst hu; exact hx2
  · injection hu with hu; subst hu; exact hx3
  · injection hu with hu; subst hu; exact hx4
  · injection hu with hu; subst hu; exact hx5
  · injection hu with hu; subst hu; exact hx6
  · injection hu with hu; subst hu; exact hx7
  · injection hu with hu; subst hu; exact hx8
  · injection hu with hu; subst hu; exact hx9
  · simp at hu) (show (2 : Nat) + 1 ≤ 10 from by decide) (x' := (⟨(rd_T43 l (i : Int)).f0, true, (rd_T43 l (i : Int)).f2, (rd_T43 l (i : Int)).f3⟩ : S43)) (k43_mkM _ _ _ (⟨(rd_T43 l (i : Int)).f0, true, (rd_T43 l (i : Int)).f2, (rd_T43 l (i : Int)).f3⟩ : S43)) (fun _ h => h.elim)
 have hrow : k43.R 43 (wd0.setCells gr (i * 10 + 2) [.bool true]) b (fun _ => True) (.slice (some ⟨gr, 0, none⟩) l.length cA) (l.set i (⟨(rd_T43 l (i : Int)).f0, true, (rd_T43 l (i : Int)).f2, (rd_T43 l (i : Int)).f3⟩ : S43)) := hrow0; have hgw : wd0.grownBy (wd0.setCells gr (i * 10 + 2) [.bool true]) (Value.slice (some ⟨gr, 0, none⟩) l.length cA).ownBlock := hgw0; clear hrow0 hgw0 hx0 hx1 hx2 hx3 hx4 hx5 hx6 hx7 hx8 hx9; generalize wd0.setCells gr (i * 10 + 2) [.bool true] = wd1 at hrow hgw ⊢; replace BK3 := Ad ((hgw.block g3 (blk_lt BK3.out) (Kd.R_ne HRW.out BK3.out (by decide))).trans BK3.out); replace BK8 := Ad ((hgw.block g8 (blk_lt BK8.out) (Kd.R_ne HRW.out BK8.out (by decide))).trans BK8.out); replace HK := Ad (table_Table_Apply.keep_row HK.out HRW.out hgw); replace HB06 := Ad (HB06.out.grown hgw (Nat.le_trans hbg (Nat.le_of_lt (blk_lt BKg.out))) (Kd.R_base HRW.out)); replace BKg := Ad ((hgw.block g (blk_lt BKg.out) (hgne)).trans BKg.out); replace HRW := Ad (hrow); clear hrow hgw hgne BKr; obtain ⟨gr_, cq_, e_, _, _, cells_, hcells_⟩ := Kd.R_form HRW.out (by simp only [List.length_set]; omega)
 injection e_ with e1_ e2_ e3_
 clear e2_ e3_
 injection e1_ with e1_
 injection e1_ with e1_ _ _
 subst e1_; have BKr := Ad hcells_; clear hcells_; obtain ⟨ad_, e0, hx0, hx1, hx2, hx3, hx4, hx5, hx6, hx7, hx8, hx9⟩ := at_T43 (Kd.R_reads' HRW.out).2.2 (i : Int) (by omega) (by first | (simp only [List.length_set]; omega)); cases e0
 simp only [Int.toNat_natCast, add_plain] at hx0 hx1 hx2 hx3 hx4 hx5 hx6 hx7 hx8 hx9
 simp only [table_Table_Apply.rd_set _ i _ (show i < (l).length by first | omega)] at hx0 hx1 hx2 hx3 hx4 hx5 hx6 hx7 hx8 hx9
 refine hK.out _ _ ⟨(blk_cell BKg.out 0).trans rfl, hx8, hx9, (blk_cell BK3.out 3).trans rfl, (blk_cell BK3.out 4).trans rfl, (blk_cell BK3.out 5).trans rfl, (blk_cell BK3.out 6).trans rfl, (blk_cell BK3.out 7).trans rfl, (blk_cell BK8.out 0).trans rfl, (blk_cell BK8.out 1).trans rfl⟩ (fun hHeld => ?_); clear hK K; refine pu 30 94 ?_ (tf 36 31) rfl rfl (by kernel_rfl) (fun _ _ _ h => h) (by rfl) ?_ ?_ ?_ ?_; rotate_left; · intro w'; go_simp; with_reducible rfl
 rotate_left; · simp only [Act.put, lz]; rfl
 refine pu 31 95 ?_ (tf 36 32) rfl rfl (by kernel_rfl) (fun _ _ _ h => h) (by rfl) ?_ ?_ ?_ ?_; rotate_left; · intro w'; go_simp; with_reducible rfl
 rotate_left; · simp only [Act.put, lz]; rfl
 refine one_ (i := 32) (N := none) (tf 36 33) rfl rfl (by kernel_rfl) (by decide) (fun K hK => ?_); have y0_ := blk_frozen BKr.out (i * 10 + 3); have y1_ := blk_frozen BKr.out (i * 10 + 4); have y2_ := blk_frozen BKr.out (i * 10 + 5); have y3_ := blk_frozen BKr.out (i * 10 + 6); have y4_ := blk_frozen BKr.out (i * 10 + 7); refine skip_ (w1 := (wd1.setCells gr (i * 10 + 3) [.int .u32 c.f3.f0.f0, .int .u8 c.f3.f0.f1, .int .i64 c.f3.f1, .int .u16 c.f3.f2, .int .u16 c.f3.f3])) (by rfl) rfl ?_ ?_; · go_simp; rfl
 clear y0_ y1_ y2_ y3_ y4_; have hgne : some g ≠ (Value.slice (some ⟨gr, 0, none⟩) l.length cA).ownBlock := Kd.R_ne HRW.out BKg.out (by decide)
 obtain ⟨hrow0, hgw0⟩ := Kd.R_seg (d := k43) (okp := fun _ => False) HRW.out (i : Int) (by omega) (by omega) (c := [.int .u32 (⟨(rd_T43 l (i : Int)).f0, true, (rd_T43 l (i : Int)).f2, (rd_T43 l (i : Int)).f3⟩ : S43).f0.f0, .int .u8 (⟨(rd_T43 l (i : Int)).f0, true, (rd_T43 l (i : Int)).f2, (rd_T43 l (i : Int)).f3⟩ : S43).f0.f1, .bool (⟨(rd_T43 l (i : Int)).f0, true, (rd_T43 l (i : Int)).f2, (rd_T43 l (i : Int)).f3⟩ : S43).f1, .int .u32 (⟨(rd_T43 l (i : Int)).f0, true, (rd_T43 l (i : Int)).f2, (rd_T43 l (i : Int)).f3⟩ : S43).f2.f0.f0, .int .u8 (⟨(rd_T43 l (i : Int)).f0, true, (rd_T43 l (i : Int)).f2, (rd_T43 l (i : Int)).f3⟩ : S43).f2.f0.f1, .int .i64 (⟨(rd_T43 l (i : Int)).f0, true, (rd_T43 l (i : Int)).f2, (rd_T43 l (i : Int)).f3⟩ : S43).f2.f1, .int .u16 (⟨(rd_T43 l (i : Int)).f0, true, (rd_T43 l (i : Int)).f2, (rd_T43 l (i : Int)).f3⟩ : S43).f2.f2, .int .u16 (⟨(rd_T43 l (i : Int)).f0, true, (rd_T43 l (i : Int)).f2, (rd_T43 l (i : Int)).f3⟩ : S43).f2.f3, .int .u16 (⟨(rd_T43 l (i : Int)).f0, true, (rd_T43 l (i : Int)).f2, (rd_T43 l (i : Int)).f3⟩ : S43).f3.f0, .int .u16 (⟨(rd_T43 l (i : Int)).f0, true, (rd_T43 l (i : Int)).f2, (rd_T43 l (i : Int)).f3⟩ : S43).f3.f1]) (seg := [.int .u32 c.f3.f0.f0, .int .u8 c.f3.f0.f1, .int .i64 c.f3.f1, .int .u16 c.f3.f2, .int .u16 c.f3.f3]) (j := 3) rfl (by
  intro j u hu
  rcases j with _ | _ | _ | _ | _ | _ | _ | _ | _ | _ | j
  · injection hu with hu; subst hu; exact hx0
  · injection hu with hu; subst hu; exact hx1
  · injection hu with hu; subst hu; exact hx2
  · injection hu with hu; subst hu; exact hx3
  · injection hu with hu; subst hu; exact hx4
  · injection hu with hu; subst hu; exact hx5
  · injection hu with hu; subst hu; exact hx6
  · injection hu with hu; subst hu; exact hx7
  · injection hu with hu; subst hu; exact hx8
  · injection hu with hu; subst hu; exact hx9
  · simp at hu) (show (3 : Nat) + 5 ≤ 10 from by decide) (x' := (⟨(rd_T43 l (i : Int)).f0, true, c.f3, (rd_T43 l (i : Int)).f3⟩ : S43)) (k43_mkM _ _ _ (⟨(rd_T43 l (i : Int)).f0, true, c.f3, (rd_T43 l (i : Int)).f3⟩ : S43)) (fun _ h => h.elim)
 have hrow : k43.R 43 (wd1.setCells gr (i * 10 + 3) [.int .u32 c.f3.f0.f0, .int .u8 c.f3.f0.f1, .int .i64 c.f3.f1, .int .u16 c.f3.f2, .int .u16 c.f3.f3]) b (fun _ => True) (.slice (some ⟨gr, 0, none⟩) l.length cA) ((l.set i (⟨(rd_T43 l (i : Int)).f0, true, (rd_T43 l (i : Int)).f2, (rd_T43 l (i : Int)).f3⟩ : S43)).set i (⟨(rd_T43 l (i : Int)).f0, true, c.f3, (rd_T43 l (i : Int)).f3⟩ : S43)) := hrow0; have hgw : wd1.grownBy (wd1.setCells gr (i * 10 + 3) [.int .u32 c.f3.f0.f0, .int .u8 c.f3.f0.f1, .int .i64 c.f3.f1, .int .u16 c.f3.f2, .int .u16 c.f3.f3]) (Value.slice (some ⟨gr, 0, none⟩) l.length cA).ownBlock := hgw0; clear hrow0 hgw0 hx0 hx1 hx2 hx3 hx4 hx5 hx6 hx7 hx8 hx9; generalize wd1.setCells gr (i * 10 + 3) [.int .u32 c.f3.f0.f0, .int .u8 c.f3.f0.f1, .int .i64 c.f3.f1, .int .u16 c.f3.f2, .int .u16 c.f3.f3] = wd2 at hrow hgw ⊢; replace BK3 := Ad ((hgw.block g3 (blk_lt BK3.out) (Kd.R_ne HRW.out BK3.out (by decide))).trans BK3.out); replace BK8 := Ad ((hgw.block g8 (blk_lt BK8.out) (Kd.R_ne HRW.out BK8.out (by decide))).trans BK8.out); replace HK := Ad (table_Table_Apply.keep_row HK.out HRW.out hgw); replace HB06 := Ad (HB06.out.grown hgw (Nat.le_trans hbg (Nat.le_of_lt (blk_lt BKg.out))) (Kd.R_base HRW.out)); replace BKg := Ad ((hgw.block g (blk_lt BKg.out) (hgne)).trans BKg.out); replace HRW := Ad (hrow); clear hrow hgw hgne BKr; obtain ⟨gr_, cq_, e_, _, _, cells_, hcells_⟩ := Kd.R_form HRW.out (by simp only [List.length_set]; omega)
 injection e_ with e1_ e2_ e3_
 clear e2_ e3_
 injection e1_ with e1_
 injection e1_ with e1_ _ _
 subst e1_; have BKr := Ad hcells_; clear hcells_; obtain ⟨ad_, e0, hx0, hx1, hx2, hx3, hx4, hx5, hx6, hx7, hx8, hx9⟩ := at_T43 (Kd.R_reads' HRW.out).2.2 (i : Int) (by omega) (by first | (simp only [List.length_set]; omega)); cases e0
 simp only [Int.toNat_natCast, add_plain] at hx0 hx1 hx2 hx3 hx4 hx5 hx6 hx7 hx8 hx9
 simp only [table_Table_Apply.rd_set _ i _ (show i < ((l.set i (⟨(rd_T43 l (i : Int)).f0, true, (rd_T43 l (i : Int)).f2, (rd_T43 l (i : Int)).f3⟩ : S43))).length by first | (simp only [List.length_set]; omega))] at hx0 hx1 hx2 hx3 hx4 hx5 hx6 hx7 hx8 hx9
 refine hK.out _ _ ⟨(blk_cell BKg.out 0).trans rfl, hx8, hx9, (blk_cell BK3.out 3).trans rfl, (blk_cell BK3.out 4).trans rfl, (blk_cell BK3.out 5).trans rfl, (blk_cell BK3.out 6).trans rfl, (blk_cell BK3.out 7).trans rfl, (blk_cell BK8.out 0).trans rfl, (blk_cell BK8.out 1).trans rfl⟩ (fun hHeld => ?_); clear hK K; refine pu 33 96 ?_ (tf 36 34) rfl rfl (by kernel_rfl) (fun _ _ _ h => h) (by rfl) ?_ ?_ ?_ ?_; rotate_left; · intro w'; go_simp; with_reducible rfl
 rotate_left; · simp only [Act.put, lz]; rfl
 refine pu 34 97 ?_ (tf 36 35) rfl rfl (by kernel_rfl) (fun _ _ _ h => h) (by rfl) ?_ ?_ ?_ ?_; rotate_left; · intro w'; go_simp; with_reducible rfl
 rotate_left; · simp only [Act.put, lz]; rfl
 refine last_ (i := 35) (N := none) (tf 36 36) rfl rfl (by kernel_rfl) (by decide) (fun K hK => ?_); have y0_ := blk_frozen BKr.out (i * 10 + 8); have y1_ := blk_frozen BKr.out (i * 10 + 9); refine skip_ (w1 := (wd2.setCells gr (i * 10 + 8) [.int .u16 b0, .int .u16 b1])) (by rfl) rfl ?_ ?_; · go_simp; rfl
 clear y0_ y1_; have hgne : some g ≠ (Value.slice (some ⟨gr, 0, none⟩) l.length cA).ownBlock := Kd.R_ne HRW.out BKg.out (by decide)
 obtain ⟨hrow0, hgw0⟩ := Kd.R_seg (d := k43) (okp := fun _ => False) HRW.out (i : Int) (by omega) (by omega) (c := [.int .u32 (⟨(rd_T43 l (i : Int)).f0, true, c.f3, (rd_T43 l (i : Int)).f3⟩ : S43).f0.f0, .int .u8 (⟨(rd_T43 l (i : Int)).f0, true, c.f3, (rd_T43 l (i : Int)).f3⟩ : S43).f0.f1, .bool (⟨(rd_T43 l (i : Int)).f0, true, c.f3, (rd_T43 l (i : Int)).f3⟩ : S43).f1, .int .u32 (⟨(rd_T43 l (i : Int)).f0, true, c.f3, (rd_T43 l (i : Int)).f3⟩ : S43).f2.f0.f0, .int .u8 (⟨(rd_T43 l (i : Int)).f0, true, c.f3, (rd_T43 l (i : Int)).f3⟩ : S43).f2.f0.f1, .int .i64 (⟨(rd_T43 l (i : Int)).f0, true, c.f3, (rd_T43 l (i : Int)).f3⟩ : S43).f2.f1, .int .u16 (⟨(rd_T43 l (i : Int)).f0, true, c.f3, (rd_T43 l (i : Int)).f3⟩ : S43).f2.f2, .int .u16 (⟨(rd_T43 l (i : Int)).f0, true, c.f3, (rd_T43 l (i : Int)).f3⟩ : S43).f2.f3, .int .u16 (⟨(rd_T43 l (i : Int)).f0, true, c.f3, (rd_T43 l (i : Int)).f3⟩ : S43).f3.f0, .int .u16 (⟨(rd_T43 l (i : Int)).f0, true, c.f3, (rd_T43 l (i : Int)).f3⟩ : S43).f3.f1]) (seg := [.int .u16 b0, .int .u16 b1]) (j := 8) rfl (by
  intro j u hu
  rcases j with _ | _ | _ | _ | _ | _ | _ | _ | _ | _ | j
  · injection hu with hu; subst hu; exact hx0
  · injection hu with hu; subst hu; exact hx1
  · injection hu with hu; subst hu; exact hx2
  · injection hu with hu; subst hu; exact hx3
  · injection hu with hu; subst hu; exact hx4
  · injection hu with hu; subst hu; exact hx5
  · injection hu with hu; subst hu; exact hx6
  · injection hu with hu; subst hu; exact hx7
  · injection hu with hu; subst hu; exact hx8
  · injection hu with hu; subst hu; exact hx9
  · simp at hu) (show (8 : Nat) + 2 ≤ 10 from by decide) (x' := (⟨(rd_T43 l (i : Int)).f0, true, c.f3, ⟨b0, b1⟩⟩ : S43)) (k43_mkM _ _ _ (⟨(rd_T43 l (i : Int)).f0, true, c.f3, ⟨b0, b1⟩⟩ : S43)) (fun _ h => h.elim)
 have hrow : k43.R 43 (wd2.setCells gr (i * 10 + 8) [.int .u16 b0, .int .u16 b1]) b (fun _ => True) (.slice (some ⟨gr, 0, none⟩) l.length cA) (((l.set i (⟨(rd_T43 l (i : Int)).f0, true, (rd_T43 l (i : Int)).f2, (rd_T43 l (i : Int)).f3⟩ : S43)).set i (⟨(rd_T43 l (i : Int)).f0, true, c.f3, (rd_T43 l (i : Int)).f3⟩ : S43)).set i (⟨(rd_T43 l (i : Int)).f0, true, c.f3, ⟨b0, b1⟩⟩ : S43)) := hrow0; have hgw : wd2.grownBy (wd2.setCells gr (i * 10 + 8) [.int .u16 b0, .int .u16 b1]) (Value.slice (some ⟨gr, 0, none⟩) l.length cA).ownBlock := hgw0; clear hrow0 hgw0 hx0 hx1 hx2 hx3 hx4 hx5 hx6 hx7 hx8 hx9; generalize wd2.setCells gr (i * 10 + 8) [.int .u16 b0, .int .u16 b1] = wd3 at hrow hgw ⊢; replace BK3 := Ad ((hgw.block g3 (blk_lt BK3.out) (Kd.R_ne HRW.out BK3.out (by decide))).trans BK3.out); replace BK8 := Ad ((hgw.block g8 (blk_lt BK8.out) (Kd.R_ne HRW.out BK8.out (by decide))).trans BK8.out); replace HK := Ad (table_Table_Apply.keep_row HK.out HRW.out hgw); replace HB06 := Ad (HB06.out.grown hgw (Nat.le_trans hbg (Nat.le_of_lt (blk_lt BKg.out))) (Kd.R_base HRW.out)); replace BKg := Ad ((hgw.block g (blk_lt BKg.out) (hgne)).trans BKg.out); replace HRW := Ad (hrow); clear hrow hgw hgne BKr; obtain ⟨gr_, cq_, e_, _, _, cells_, hcells_⟩ := Kd.R_form HRW.out (by simp only [List.length_set]; omega)
 injection e_ with e1_ e2_ e3_
 clear e2_ e3_
 injection e1_ with e1_
 injection e1_ with e1_ _ _
 subst e1_; have BKr := Ad hcells_; clear hcells_; obtain ⟨ad_, e0, hx0, hx1, hx2, hx3, hx4, hx5, hx6, hx7, hx8, hx9⟩ := at_T43 (Kd.R_reads' HRW.out).2.2 (i : Int) (by omega) (by first | (simp only [List.length_set]; omega)); cases e0
 simp only [Int.toNat_natCast, add_plain] at hx0 hx1 hx2 hx3 hx4 hx5 hx6 hx7 hx8 hx9
 simp only [table_Table_Apply.rd_set _ i _ (show i < (((l.set i (⟨(rd_T43 l (i : Int)).f0, true, (rd_T43 l (i : Int)).f2, (rd_T43 l (i : Int)).f3⟩ : S43)).set i (⟨(rd_T43 l (i : Int)).f0, true, c.f3, (rd_T43 l (i : Int)).f3⟩ : S43))).length by first | (simp only [List.length_set]; omega))] at hx0 hx1 hx2 hx3 hx4 hx5 hx6 hx7 hx8 hx9
 refine hK.out _ _ ?_; clear hK K; refine done_ (by kernel_rfl) ?_
 go_upto_region 19 with (fail)
 replace BK3 := Ad (blk_drew BK3.out); replace BKg := Ad (blk_drew BKg.out); replace HRW := Ad (Kd.R_drew HRW.out); replace HB06 := Ad (below_drew1 HB06.out); replace HK := Ad (HK.out.trans (KeepT.of_below (below_drew1 (Below.refl _ _)))); refine start_ (n := 12) (S := fun w' => w'.cell? ⟨g3, 0, none⟩ = some (.int .u64 c.f0) ∧ w'.cell? ⟨g3, 1, none⟩ = some (.int .u64 c.f1)) (ds := [11]) (tf 12 0) (by kernel_rfl) rfl rfl ⟨(blk_cell BK3.out 0).trans rfl, (blk_cell BK3.out 1).trans rfl⟩ (fun hHeld => ?_); generalize wd3.drew = we1 at BK3 BKg HRW HB06 HK hHeld ⊢; refine pu 0 148 ?_ (tf 12 1) rfl rfl (by kernel_rfl) (fun _ _ _ h => h) (by rfl) ?_ ?_ ?_ ?_; rotate_left; · intro w'; go_simp; with_reducible rfl
 rotate_left; · simp only [Act.put, lz]; rfl
 refine pu 1 149 ?_ (tf 12 2) rfl rfl (by kernel_rfl) (fun _ _ _ h => h) (by rfl) ?_ ?_ ?_ ?_; rotate_left; · intro w'; go_simp; with_reducible rfl
 rotate_left; · simp only [Act.put, lz]; rfl
 refine pu 2 150 ?_ (tf 12 3) rfl rfl (by kernel_rfl) (fun _ _ _ h => h) (by rfl) ?_ ?_ ?_ ?_; rotate_left; · intro w'; go_simp; with_reducible rfl
 rotate_left; · simp only [Act.put, lz]; rfl
 refine pu 4 152 ?_ #[I,I,I,O,I,O,O,O,O,O,O,O] rfl rfl (by kernel_rfl) (fun _ _ _ h => h) (by rfl) ?_ ?_ ?_ ?_; rotate_left; · intro w'; go_simp; with_reducible rfl
 rotate_left; · simp only [Act.put, lz]; rfl
 refine tu 3 151 ?_ (tf 12 5) rfl rfl (by kernel_rfl) (fun _ _ _ h => h) (by rfl) ?_ hHeld ?_ ?_ ?_; rotate_left; · rintro w' ⟨s0, s1⟩; go_simp; with_reducible rfl
 rotate_left; · simp only [Act.put, lz]; rfl
 refine pu 6 154 ?_ #[I,I,I,I,I,O,I,O,O,O,O,O] rfl rfl (by kernel_rfl) (fun _ _ _ h => h) (by rfl) ?_ ?_ ?_ ?_; rotate_left; · intro w'; go_simp; with_reducible rfl
 rotate_left; · simp only [Act.put, lz]; rfl
 refine pu 7 155 ?_ #[I,I,I,I,I,O,I,I,O,O,O,O] rfl rfl (by kernel_rfl) (fun _ _ _ h => h) (by rfl) ?_ ?_ ?_ ?_; rotate_left; · intro w'; go_simp; with_reducible rfl
 rotate_left; · simp only [Act.put, lz]; rfl
 refine tu 5 153 ?_ (tf 12 8) rfl rfl (by kernel_rfl) (fun _ _ _ h => h) (by rfl) ?_ hHeld ?_ ?_ ?_; rotate_left; · rintro w' ⟨s0, s1⟩; go_simp; with_reducible rfl
 rotate_left; · simp only [Act.put, lz]; rfl
 refine one_ (i := 8) (N := none) (tf 12 9) rfl rfl (by kernel_rfl) (by decide) (fun K hK => ?_); have y_ := blk_frozen BKg.out 1; have c_ : we1.cell? ⟨g, 1, none⟩ = some (.int .u64 no) := (blk_cell BKg.out 1).trans rfl; refine skip_ (w1 := (we1.setCell ⟨g, 1, none⟩ (.int .u64 c.f0))) (by rfl) rfl ?_ ?_
 · go_simp
   try rfl
 clear y_ c_; have hn3 := table_Table_Apply.ne_of BK3.out BKg.out (by decide); have hrow := Kd.R_set HRW.out BKg.out (by decide) 1 (.int .u64 c.f0); have hb3 := (Below.heap_setCell we1 ⟨g, 1, none⟩ (.int .u64 c.f0) g3 hn3).trans BK3.out; have hbg_ := blk_put (cs := #[.slice (some ⟨gr, 0, none⟩) l.length cA, .int .u64 no, .int .u64 tm]) BKg.out 1 (.int .u64 c.f0) rfl; have hk_ := table_Table_Apply.keep_set HK.out BKg.out 1 (.int .u64 c.f0); have hb6 := HB06.out.setCell (p := ⟨g, 1, none⟩) hbg (.int .u64 c.f0); generalize we1.setCell ⟨g, 1, none⟩ (.int .u64 c.f0) = we2 at hrow hb3 hbg_ hk_ hb6 ⊢; clear HRW BK3 BKg HK HB06 hn3; have HRW := Ad hrow; have BK3 := Ad hb3; have BKg := Ad hbg_; have HK := Ad hk_; have HB06 := Ad hb6; clear hrow hb3 hbg_ hk_ hb6; refine hK.out _ _ ⟨(blk_cell BK3.out 0).trans rfl, (blk_cell BK3.out 1).trans rfl⟩ (fun hHeld => ?_); clear hK K; refine pu 9 156 ?_ (tf 12 10) rfl rfl (by kernel_rfl) (fun _ _ _ h => h) (by rfl) ?_ ?_ ?_ ?_; rotate_left; · intro w'; go_simp; with_reducible rfl
 rotate_left; · simp only [Act.put, lz]; rfl
 refine pu 10 157 ?_ (tf 12 11) rfl rfl (by kernel_rfl) (fun _ _ _ h => h) (by rfl) ?_ ?_ ?_ ?_; rotate_left; · intro w'; go_simp; with_reducible rfl
 rotate_left; · simp only [Act.put, lz]; rfl
 refine last_ (i := 11) (N := none) (tf 12 12) rfl rfl (by kernel_rfl) (by decide) (fun K hK => ?_); have y_ := blk_frozen BKg.out 2; have c_ : we2.cell? ⟨g, 2, none⟩ = some (.int .u64 tm) := (blk_cell BKg.out 2).trans rfl; refine skip_ (w1 := (we2.setCell ⟨g, 2, none⟩ (.int .u64 c.f1))) (by rfl) rfl ?_ ?_
 · go_simp
   try rfl
 clear y_ c_; have hn3 := table_Table_Apply.ne_of BK3.out BKg.out (by decide); have hrow := Kd.R_set HRW.out BKg.out (by decide) 2 (.int .u64 c.f1); have hb3 := (Below.heap_setCell we2 ⟨g, 2, none⟩ (.int .u64 c.f1) g3 hn3).trans BK3.out; have hbg_ := blk_put (cs := #[.slice (some ⟨gr, 0, none⟩) l.length cA, .int .u64 c.f0, .int .u64 tm]) BKg.out 2 (.int .u64 c.f1) rfl; have hk_ := table_Table_Apply.keep_set HK.out BKg.out 2 (.int .u64 c.f1); have hb6 := HB06.out.setCell (p := ⟨g, 2, none⟩) hbg (.int .u64 c.f1); generalize we2.setCell ⟨g, 2, none⟩ (.int .u64 c.f1) = we3 at hrow hb3 hbg_ hk_ hb6 ⊢; clear HRW BK3 BKg HK HB06 hn3; have HRW := Ad hrow; have BK3 := Ad hb3; have BKg := Ad hbg_; have HK := Ad hk_; have HB06 := Ad hb6; clear hrow hb3 hbg_ hk_ hb6; refine hK.out _ _ ?_; clear hK K; refine done_ (by kernel_rfl) ?_
 go_wp2_with (fail)
 go_ret; exact ⟨rfl, ⟨_, BKg.out, by have := HRW.out; rwa [List.set_set, List.set_set] at this⟩, HB06.out, HK.out⟩
theorem table_Table_Apply.new (g b : Nat) (v : Value) (l : List S43) (no tm : Int) (c : S38) (w0 w : World) (hg : w.heap[g]? = some (.cells #[v, .int .u64 no, .int .u64 tm] 70 (0, 0))) (hR : k43.R 43 w b (fun _ => True) v l) (hbg : b ≤ g) (hbw : b ≤ w.heap.size) (hB : Below b w0 w) (hlen : l.length ≤ 256) (kr : Nat) (hrt : change_Right.f kr c.f0 c.f1 c.f2 c.f3.f0.f0 c.f3.f0.f1 c.f3.f1 c.f3.f2 c.f3.f3 = some 0) (hno : c.f0 = IntKind.u64.wrap (no + 1)) (hti : ¬ c.f1 < tm) (i : Nat) (cv : Nat → Int) (hi : i ≤ l.length) (hcmp : ∀ j : Nat, j < l.length → prefix_Compare.f 3 (rd_T43 l (j : Int)).f0.f0 (rd_T43 l (j : Int)).f0.f1 c.f3.f0.f0 c.f3.f0.f1 = some (cv j) ∧ (cv j < 0 ↔ j < i)) (hgn : c.f2 = false) (hmiss : (decide (i < l.length) && (cv i == 0)) = false) (hful : ¬ 256 ≤ l.length) (b0 b1 : Int) (hbest : serial_Best.f c.f3.f3 c.f3.f2 c.f3.f3 c.f3.f2 = some (b0, b1)) : Calls Try.prog 21 #[.pointer (some ⟨g, 0, none⟩), .agg #[.int .u64 c.f0, .int .u64 c.f1, .bool c.f2, .int .u32 c.f3.f0.f0, .int .u8 c.f3.f0.f1, .int .i64 c.f3.f1, .int .u16 c.f3.f2, .int .u16 c.f3.f3]] w fun e w' => e = .returned (.int .i64 0) ∧ (∃ v', w'.heap[g]? = some (.cells #[v', .int .u64 c.f0, .int .u64 c.f1] 70 (0, 0)) ∧ k43.R 43 w' b (fun _ => True) v' (l.take i ++ ⟨c.f3.f0, true, c.f3, ⟨b0, b1⟩⟩ :: l.drop i)) ∧ Below b w0 w' ∧ KeepT w w' := by
 have HNO := Ad hno; have HGN := Ad hgn; clear hno hgn; have HMISS := Ad hmiss; have HBE := Ad hbest; clear hmiss hbest
 obtain ⟨L, hL⟩ : ∃ L : List S43, L = l.take i ++ (⟨c.f3.f0, false, z36, ⟨c.f3.f3, c.f3.f2⟩⟩ : S43) :: l.drop i := ⟨_, rfl⟩
 have hLl : L.length ≤ 256 ∧ i < L.length ∧ 0 < L.length := by
  rw [hL]
  simp only [List.length_append, List.length_take, List.length_cons, List.length_drop]
  omega
 have HLX : Aside0 (rd_T43 L (i : Int) = (⟨c.f3.f0, false, z36, ⟨c.f3.f3, c.f3.f2⟩⟩ : S43)) := Ad (by rw [hL]; exact table_Table_Apply.rd_mid l i _ hi); have HL := Ad hL; clear hL; obtain ⟨A, cA, rfl, hlc, hC⟩ := Kd.R_reads hR; have HC := Ad hC; have HM := Ad hcmp; clear hC hcmp; have hu38 := Try.underlying38; have hu33 := Try.underlying33; have hu36 := Try.underlying36; have hu41 := Try.underlying41; have hu43 := Try.underlying43; have hu70 := Try.underlying70; have HR := Ad hR; have HRT := Ad hrt; have BKg := Ad hg; have HB0 := Ad hB; clear hR hrt hg hB
 go_enter Try.func21, Try.ntmps21
 go_wp2_with (((with_reducible refine gate_dst (N := 3) rfl ?_); (try (refine gate_guard (by rfl) ?_; dsimp only)); refine box_event ?hg (N := 3) ?hd (cs := #[.int .u64 c.f0, .int .u64 c.f1, .bool c.f2, .int .u32 c.f3.f0.f0, .int .u8 c.f3.f0.f1, .int .i64 c.f3.f1, .int .u16 c.f3.f2, .int .u16 c.f3.f3]) (t := 38) ?hr ?_; (case hd => rfl); (case hg => rfl); (case hr => first | (go_simp; done)); intro g3 hg w3 hbox hb; have BK3 := Ad hbox; have HB3 := Ad hb; have BKg3 := Ad (blk_below BKg.out hb); clear hb hbox hg; have p0 : w3.cell? ⟨g3, 0, none⟩ = some (.int .u64 c.f0) := (blk_cell BK3.out 0).trans rfl; have p1 : w3.cell? ⟨g3, 1, none⟩ = some (.int .u64 c.f1) := (blk_cell BK3.out 1).trans rfl; have p2 : w3.cell? ⟨g3, 2, none⟩ = some (.bool c.f2) := (blk_cell BK3.out 2).trans rfl; have p3 : w3.cell? ⟨g3, 3, none⟩ = some (.int .u32 c.f3.f0.f0) := (blk_cell BK3.out 3).trans rfl; have p4 : w3.cell? ⟨g3, 4, none⟩ = some (.int .u8 c.f3.f0.f1) := (blk_cell BK3.out 4).trans rfl; have p5 : w3.cell? ⟨g3, 5, none⟩ = some (.int .i64 c.f3.f1) := (blk_cell BK3.out 5).trans rfl; have p6 : w3.cell? ⟨g3, 6, none⟩ = some (.int .u16 c.f3.f2) := (blk_cell BK3.out 6).trans rfl; have p7 : w3.cell? ⟨g3, 7, none⟩ = some (.int .u16 c.f3.f3) := (blk_cell BK3.out 7).trans rfl))
 refine (change_Right.calls kr c.f0 c.f1 c.f2 c.f3.f0.f0 c.f3.f0.f1 c.f3.f1 c.f3.f2 c.f3.f3 0 _ HRT.out).mono ?_; rintro e w4 ⟨rfl, hb⟩; have BK34 := Ad (blk_below BK3.out hb); have BKg4 := Ad (blk_below BKg3.out hb); have HB4 := Ad (below_step HB3.out hb); have HR4 := Ad (Kd.R_below HR.out HB4.out); clear hb p0 p1 p2 p3 p4 p5 p6 p7 BK3 BKg3 HB3; have HB04 := Ad (below_then HB0.out hbw HB4.out); have t0 : w4.cell? ⟨g, 0, none⟩ = some (.slice A l.length cA) := (blk_cell BKg4.out 0).trans rfl; have t1 : w4.cell? ⟨g, 1, none⟩ = some (.int .u64 no) := (blk_cell BKg4.out 1).trans rfl; have t2 : w4.cell? ⟨g, 2, none⟩ = some (.int .u64 tm) := (blk_cell BKg4.out 2).trans rfl; have p0 : w4.cell? ⟨g3, 0, none⟩ = some (.int .u64 c.f0) := (blk_cell BK34.out 0).trans rfl; have p1 : w4.cell? ⟨g3, 1, none⟩ = some (.int .u64 c.f1) := (blk_cell BK34.out 1).trans rfl; have p2 : w4.cell? ⟨g3, 2, none⟩ = some (.bool c.f2) := (blk_cell BK34.out 2).trans rfl; have p3 : w4.cell? ⟨g3, 3, none⟩ = some (.int .u32 c.f3.f0.f0) := (blk_cell BK34.out 3).trans rfl; have p4 : w4.cell? ⟨g3, 4, none⟩ = some (.int .u8 c.f3.f0.f1) := (blk_cell BK34.out 4).trans rfl; have p5 : w4.cell? ⟨g3, 5, none⟩ = some (.int .i64 c.f3.f1) := (blk_cell BK34.out 5).trans rfl; have p6 : w4.cell? ⟨g3, 6, none⟩ = some (.int .u16 c.f3.f2) := (blk_cell BK34.out 6).trans rfl; have p7 : w4.cell? ⟨g3, 7, none⟩ = some (.int .u16 c.f3.f3) := (blk_cell BK34.out 7).trans rfl
 have q2 : (c.f0 != IntKind.u64.wrap (no + 1)) = false := by simp [HNO.out]
 have q3 : decide (c.f1 < tm) = false := decide_eq_false (by omega); clear hti
 go_wp2_with (fail)
 go_quiet (fail)
 obtain ⟨w5, hq⟩ : ∃ w5 : World, w4.drewN nq = w5 := ⟨_, rfl⟩
 rw [hq]; have BK35 := Ad (blk_at hq BK34.out); have BKg5 := Ad (blk_at hq BKg4.out); have HB5 := Ad (below_at hq HB4.out); have HB05 := Ad (below_at hq HB04.out); have HR5 := Ad (Kd.R_at hq HR4.out); clear hq t0 t1 t2 q2 q3 p0 p1 p2 p3 p4 p5 p6 p7 BK34 BKg4 HB4 HB04 HR4; have t0 : w5.cell? ⟨g, 0, none⟩ = some (.slice A l.length cA) := (blk_cell BKg5.out 0).trans rfl; have p0 : w5.cell? ⟨g3, 0, none⟩ = some (.int .u64 c.f0) := (blk_cell BK35.out 0).trans rfl; have p1 : w5.cell? ⟨g3, 1, none⟩ = some (.int .u64 c.f1) := (blk_cell BK35.out 1).trans rfl; have p2 : w5.cell? ⟨g3, 2, none⟩ = some (.bool c.f2) := (blk_cell BK35.out 2).trans rfl; have p3 : w5.cell? ⟨g3, 3, none⟩ = some (.int .u32 c.f3.f0.f0) := (blk_cell BK35.out 3).trans rfl; have p4 : w5.cell? ⟨g3, 4, none⟩ = some (.int .u8 c.f3.f0.f1) := (blk_cell BK35.out 4).trans rfl; have p5 : w5.cell? ⟨g3, 5, none⟩ = some (.int .i64 c.f3.f1) := (blk_cell BK35.out 5).trans rfl; have p6 : w5.cell? ⟨g3, 6, none⟩ = some (.int .u16 c.f3.f2) := (blk_cell BK35.out 6).trans rfl; have p7 : w5.cell? ⟨g3, 7, none⟩ = some (.int .u16 c.f3.f3) := (blk_cell BK35.out 7).trans rfl
 go_wp2_with (fail)
 refine (table_Table_find.calls 3 g no tm A cA l c.f3.f0.f0 c.f3.f0.f1 i cv _ BKg5.out (Kd.C_below HC.out HB5.out) (by omega) hi HM.out).mono ?_; rintro e w6 ⟨rfl, hb⟩; have BK3 := Ad (blk_below BK35.out hb); have BKg := Ad (blk_below BKg5.out hb); have HBW := Ad (below_step HB5.out hb); have HRW := Ad (Kd.R_below HR5.out hb); clear hb t0 p0 p1 p2 p3 p4 p5 p6 p7 BK35 BKg5 HB5 HR5 HB05; have HB06 := Ad (below_then HB0.out hbw HBW.out); have HK := Ad (KeepT.of_below HBW.out); have t0 : w6.cell? ⟨g, 0, none⟩ = some (.slice A l.length cA) := (blk_cell BKg.out 0).trans rfl; have p0 : w6.cell? ⟨g3, 0, none⟩ = some (.int .u64 c.f0) := (blk_cell BK3.out 0).trans rfl; have p1 : w6.cell? ⟨g3, 1, none⟩ = some (.int .u64 c.f1) := (blk_cell BK3.out 1).trans rfl; have p2 : w6.cell? ⟨g3, 2, none⟩ = some (.bool c.f2) := (blk_cell BK3.out 2).trans rfl; have p3 : w6.cell? ⟨g3, 3, none⟩ = some (.int .u32 c.f3.f0.f0) := (blk_cell BK3.out 3).trans rfl; have p4 : w6.cell? ⟨g3, 4, none⟩ = some (.int .u8 c.f3.f0.f1) := (blk_cell BK3.out 4).trans rfl; have p5 : w6.cell? ⟨g3, 5, none⟩ = some (.int .i64 c.f3.f1) := (blk_cell BK3.out 5).trans rfl; have p6 : w6.cell? ⟨g3, 6, none⟩ = some (.int .u16 c.f3.f2) := (blk_cell BK3.out 6).trans rfl; have p7 : w6.cell? ⟨g3, 7, none⟩ = some (.int .u16 c.f3.f3) := (blk_cell BK3.out 7).trans rfl; have q7 : (decide (i < l.length) && (cv i == 0)) = false := HMISS.out; rw [HGN.out] at p2; have q9 : decide ((l.length : Int) ≥ 256) = false := decide_eq_false (by omega); have q9' : decide (256 ≤ (l.length : Int)) = false := decide_eq_false (by omega); have i1 : decide (0 ≤ (i : Int)) = true := decide_eq_true (by omega)
 go_upto_region 11 with (((with_reducible refine gate_dst (N := 8) rfl ?_); (try (refine gate_guard (by rfl) ?_; dsimp only)); refine box_event ?hg (N := 8) ?hd (cs := #[.int .u16 0, .int .u16 0]) (t := 41) ?hr ?_; (case hd => rfl); (case hg => rfl); (case hr => first | (go_simp; done)); intro g8 hg w8 hbox hb; have BK8 := Ad hbox; have HB8 := Ad hb; have GE8 := Ad (Nat.le_of_eq hg.symm); clear hb hbox hg; have z0 : w8.cell? ⟨g8, 0, none⟩ = some (.int .u16 0) := (blk_cell BK8.out 0).trans rfl; have z1 : w8.cell? ⟨g8, 1, none⟩ = some (.int .u16 0) := (blk_cell BK8.out 1).trans rfl; have y0 := blk_frozen BK8.out 0; have y1 := blk_frozen BK8.out 1))
 obtain ⟨W, hW⟩ : ∃ W : World, W = ((w8.setCell ⟨g8, 0, none⟩ (.int .u16 c.f3.f3)).setCell ⟨g8, 1, none⟩ (.int .u16 c.f3.f2)) := ⟨_, rfl⟩
 rw [← hW]
 have hbf : Below w6.heap.size w6 W := by rw [hW]; exact below_set (below_set HB8.out GE8.out) GE8.out
 have BK8W := Ad (show W.heap[g8]? = some (.cells #[.int .u16 c.f3.f3, .int .u16 c.f3.f2] 41 (0, 0)) from by rw [hW]; refine blk_put (cs := #[.int .u16 c.f3.f3, .int .u16 0]) ?_ 1 _ rfl; refine blk_put (cs := #[.int .u16 0, .int .u16 0]) ?_ 0 _ rfl; exact BK8.out); clear hW z0 z1 y0 y1 BK8 HB8 GE8 t0 HBW p0 p1 p2 p3 p4 p5 p6 p7; have BK8 := BK8W; clear BK8W; replace BK3 := Ad (blk_below BK3.out hbf); replace HRW := Ad (Kd.R_below HRW.out hbf); replace HB06 := Ad (below_then HB06.out (Nat.le_trans hbg (Nat.le_of_lt (blk_lt BKg.out))) hbf); replace BKg := Ad (blk_below BKg.out hbf); replace HK := Ad (HK.out.trans (KeepT.of_below hbf)); clear hbf; replace BK3 := Ad (blk_drew BK3.out); replace BKg := Ad (blk_drew BKg.out); replace HRW := Ad (Kd.R_drew HRW.out); replace HB06 := Ad (below_drew1 HB06.out); replace HK := Ad (HK.out.trans (KeepT.of_below (below_drew1 (Below.refl _ _)))); replace BK8 := Ad (blk_drew BK8.out); refine start_ (n := 16) (S := fun w' => w'.cell? ⟨g, 0, none⟩ = some (.slice A l.length cA) ∧ w'.cell? ⟨g3, 3, none⟩ = some (.int .u32 c.f3.f0.f0) ∧ w'.cell? ⟨g3, 4, none⟩ = some (.int .u8 c.f3.f0.f1) ∧ w'.cell? ⟨g8, 0, none⟩ = some (.int .u16 c.f3.f3) ∧ w'.cell? ⟨g8, 1, none⟩ = some (.int .u16 c.f3.f2)) (ds := [15]) (tf 16 0) (by kernel_rfl) rfl rfl ⟨(blk_cell BKg.out 0).trans rfl, (blk_cell BK3.out 3).trans rfl, (blk_cell BK3.out 4).trans rfl, (blk_cell BK8.out 0).trans rfl, (blk_cell BK8.out 1).trans rfl⟩ (fun hHeld => ?_); generalize W.drew = wd at BK3 BKg BK8 HRW HB06 HK hHeld ⊢; refine pu 0 50 ?_ (tf 16 1) rfl rfl (by kernel_rfl) (fun _ _ _ h => h) (by rfl) ?_ ?_ ?_ ?_; rotate_left; · intro w'; go_simp; with_reducible rfl
 rotate_left; · simp only [Act.put, lz]; rfl
 refine pu 1 51 ?_ (tf 16 2) rfl rfl (by kernel_rfl) (fun _ _ _ h => h) (by rfl) ?_ ?_ ?_ ?_; rotate_left; · intro w'; go_simp; with_reducible rfl
 rotate_left; · simp only [Act.put, lz]; rfl
 refine pu 2 52 ?_ (tf 16 3) rfl rfl (by kernel_rfl) (fun _ _ _ h => h) (by rfl) ?_ ?_ ?_ ?_; rotate_left; · intro w'; go_simp; with_reducible rfl
 rotate_left; · simp only [Act.put, lz]; rfl
 refine pu 3 53 ?_ (tf 16 4) rfl rfl (by kernel_rfl) (fun _ _ _ h => h) (by rfl) ?_ ?_ ?_ ?_; rotate_left; · intro w'; go_simp; with_reducible rfl
 rotate_left; · simp only [Act.put, lz]; rfl
 refine pu 5 55 ?_ #[I,I,I,I,O,I,O,O,O,O,O,O,O,O,O,O] rfl rfl (by kernel_rfl) (fun _ _ _ h => h) (by rfl) ?_ ?_ ?_ ?_; rotate_left; · intro w'; go_simp; with_reducible rfl
 rotate_left; · simp only [Act.put, lz]; rfl
 refine pu 6 56 ?_ #[I,I,I,I,O,I,I,O,O,O,O,O,O,O,O,O] rfl rfl (by kernel_rfl) (fun _ _ _ h => h) (by rfl) ?_ ?_ ?_ ?_; rotate_left; · intro w'; go_simp; with_reducible rfl
 rotate_left; · simp only [Act.put, lz]; rfl
 refine pu 7 57 ?_ #[I,I,I,I,O,I,I,I,O,O,O,O,O,O,O,O] rfl rfl (by kernel_rfl) (fun _ _ _ h => h) (by rfl) ?_ ?_ ?_ ?_; rotate_left; · intro w'; go_simp; with_reducible rfl
 rotate_left; · simp only [Act.put, lz]; rfl
 refine tu 4 54 ?_ (tf 16 8) rfl rfl (by kernel_rfl) (fun _ _ _ h => h) (by rfl) ?_ hHeld ?_ ?_ ?_; rotate_left; · rintro w' ⟨s0, s1, s2, s3, s4⟩; go_simp; with_reducible rfl
 rotate_left; · simp only [Act.put, lz]; rfl
 refine tu 8 58 ?_ (tf 16 9) rfl rfl (by kernel_rfl) (fun _ _ _ h => h) (by rfl) ?_ hHeld ?_ ?_ ?_; rotate_left; · rintro w' ⟨s0, s1, s2, s3, s4⟩; go_simp; with_reducible rfl
 rotate_left; · simp only [Act.put, lz]; rfl
 refine tu 9 59 ?_ (tf 16 10) rfl rfl (by kernel_rfl) (fun _ _ _ h => h) (by rfl) ?_ hHeld ?_ ?_ ?_; rotate_left; · rintro w' ⟨s0, s1, s2, s3, s4⟩; go_simp; with_reducible rfl
 rotate_left; · simp only [Act.put, lz]; rfl
 refine pu 10 60 ?_ (tf 16 11) rfl rfl (by kernel_rfl) (fun _ _ _ h => h) (by rfl) ?_ ?_ ?_ ?_; rotate_left; · intro w'; go_simp; with_reducible rfl
 rotate_left; · simp only [Act.put, lz]; rfl
 refine one_ (i := 11) (N := some 61) (tf 16 12) rfl rfl (by kernel_rfl) (by decide) (fun K hK => ?_)
 refine Kd.R_lit_step k43 _ 43 ?hg (N := 61) ?hd (xs := ([(⟨c.f3.f0, false, z36, ⟨c.f3.f3, c.f3.f2⟩⟩ : S43)] : List S43)) (inner := [.int .u32 c.f3.f0.f0, .int .u8 c.f3.f0.f1, .bool false, .int .u32 0, .int .u8 0, .int .i64 0, .int .u16 0, .int .u16 0, .int .u16 c.f3.f3, .int .u16 c.f3.f2]) (ok := fun _ => True) (okp := fun _ => True) ?hr ?hp (fun _ hk => hk) trivial (Below.refl _ _) (Nat.le_refl _) (by simp) ?_; (case hd => rfl); (case hg => rfl); (case hr => first | (go_simp; done)); (case hp => exact (Reps.c10 (show Kd.M k43 _ _ _ (⟨c.f3.f0, false, z36, ⟨c.f3.f3, c.f3.f2⟩⟩ : S43) [.int .u32 c.f3.f0.f0, .int .u8 c.f3.f0.f1, .bool false, .int .u32 0, .int .u8 0, .int .i64 0, .int .u16 0, .int .u16 0, .int .u16 c.f3.f3, .int .u16 c.f3.f2] from k43_mkM _ _ _ (⟨c.f3.f0, false, z36, ⟨c.f3.f3, c.f3.f2⟩⟩ : S43)) (Reps.none _ _)))
 intro v8 wl8 HO8 hb hg8_ hat8; obtain ⟨A8, c8, e8, hl8, hC8⟩ := Kd.R_reads HO8; subst e8; have HX := Ad HO8; have HLT := Ad (Kd.R_lt HRW.out); replace BK3 := Ad (blk_below BK3.out hb); replace BK8 := Ad (blk_below BK8.out hb); replace HRW := Ad (Kd.R_below HRW.out hb); replace HB06 := Ad (below_then HB06.out (Nat.le_trans hbg (Nat.le_of_lt (blk_lt BKg.out))) hb); replace BKg := Ad (blk_below BKg.out hb); replace HK := Ad (HK.out.trans (KeepT.of_below hb)); clear hb hC8 HO8 hg8_ hat8; refine hK.out _ _ ⟨(blk_cell BKg.out 0).trans rfl, (blk_cell BK3.out 3).trans rfl, (blk_cell BK3.out 4).trans rfl, (blk_cell BK8.out 0).trans rfl, (blk_cell BK8.out 1).trans rfl⟩ (fun hHeld => ?_); clear hK K; refine norm_ (a' := ?_) ?_ ?_; rotate_left
 · show Act.put _ (some 61) _ = _; simp only [Act.put, lz]; rfl
 refine one_ (i := 12) (N := some 62) (tf 16 13) rfl rfl (by kernel_rfl) (by decide) (fun K hK => ?_); refine goes_ Try.func37 (by kernel_rfl) rfl #[.slice A l.length cA, .int .i64 i, .slice A8 1 c8] (by rfl) rfl rfl (by simp only [List.map_toArray, List.map_cons, List.map_nil]; rfl) ?_
 with_reducible refine (table_Table_Apply.insert (.slice A l.length cA) l (⟨c.f3.f0, false, z36, ⟨c.f3.f3, c.f3.f2⟩⟩ : S43) A8 c8 b _ i w0 _ HRW.out HX.out HLT.out (by omega) hi HB06.out (Nat.le_trans hbg (Nat.le_of_lt (blk_lt BKg.out)))).mono ?_
 rintro e w9 ⟨v9, rfl, hR9, hB9, hG9⟩; rw [← HL.out] at hR9; obtain ⟨A9, c9, rfl, hl9, hC9⟩ := Kd.R_reads hR9; clear hC9; refine ⟨_, rfl, ?_⟩; replace BK3 := Ad ((hG9.block g3 (blk_lt BK3.out) (Kd.R_ne HRW.out BK3.out (by decide))).trans BK3.out); replace BKg := Ad ((hG9.block g (blk_lt BKg.out) (Kd.R_ne HRW.out BKg.out (by decide))).trans BKg.out); replace BK8 := Ad ((hG9.block g8 (blk_lt BK8.out) (Kd.R_ne HRW.out BK8.out (by decide))).trans BK8.out); replace HK := Ad (table_Table_Apply.keep_row HK.out HRW.out hG9); clear HRW HB06 hG9; have HRW := Ad hR9; have HB06 := Ad hB9; clear hR9 hB9 HX HLT; refine hK.out _ _ ⟨(blk_cell BKg.out 0).trans rfl, (blk_cell BK3.out 3).trans rfl, (blk_cell BK3.out 4).trans rfl, (blk_cell BK8.out 0).trans rfl, (blk_cell BK8.out 1).trans rfl⟩ (fun hHeld => ?_); clear hK K; refine norm_ (a' := ?_) ?_ ?_; rotate_left
 · show Act.put _ (some 62) _ = _; simp only [Act.put, lz]; rfl
 refine pu 13 63 ?_ (tf 16 14) rfl rfl (by kernel_rfl) (fun _ _ _ h => h) (by rfl) ?_ ?_ ?_ ?_; rotate_left; · intro w'; go_simp; with_reducible rfl
 rotate_left; · simp only [Act.put, lz]; rfl
 refine pu 14 64 ?_ (tf 16 15) rfl rfl (by kernel_rfl) (fun _ _ _ h => h) (by rfl) ?_ ?_ ?_ ?_; rotate_left; · intro w'; go_simp; with_reducible rfl
 rotate_left; · simp only [Act.put, lz]; rfl
 refine last_ (i := 15) (N := none) (tf 16 16) rfl rfl (by kernel_rfl) (by decide) (fun K hK => ?_); have y_ := blk_frozen BKg.out 0; have c_ : w9.cell? ⟨g, 0, none⟩ = some (.slice A l.length cA) := (blk_cell BKg.out 0).trans rfl; refine skip_ (w1 := (w9.setCell ⟨g, 0, none⟩ (.slice A9 L.length c9))) (by rfl) rfl ?_ ?_
 · go_simp
   try rfl
 clear y_ c_; have hn3 := table_Table_Apply.ne_of BK3.out BKg.out (by decide); have hn8 := table_Table_Apply.ne_of BK8.out BKg.out (by decide); have hrow := Kd.R_set HRW.out BKg.out (by decide) 0 (.slice A9 L.length c9); have hb3 := (Below.heap_setCell w9 ⟨g, 0, none⟩ (.slice A9 L.length c9) g3 hn3).trans BK3.out; have hb8 := (Below.heap_setCell w9 ⟨g, 0, none⟩ (.slice A9 L.length c9) g8 hn8).trans BK8.out; have hbg_ := blk_put (cs := #[.slice A l.length cA, .int .u64 no, .int .u64 tm]) BKg.out 0 (.slice A9 L.length c9) rfl; have hk_ := table_Table_Apply.keep_set HK.out BKg.out 0 (.slice A9 L.length c9); have hb6 := HB06.out.setCell (p := ⟨g, 0, none⟩) hbg (.slice A9 L.length c9); generalize w9.setCell ⟨g, 0, none⟩ (.slice A9 L.length c9) = wi at hrow hb3 hb8 hbg_ hk_ hb6 ⊢; clear HRW BK3 BKg BK8 HK HB06 hn3 hn8; have HRW := Ad hrow; have BK3 := Ad hb3; have BK8 := Ad hb8; have BKg := Ad hbg_; have HK := Ad hk_; have HB06 := Ad hb6; clear hrow hb3 hb8 hbg_ hk_ hb6; refine hK.out _ _ ?_; clear hK K; refine done_ (by kernel_rfl) ?_; clear HC; have i2 : decide ((i : Int) < (L.length : Int)) = true := decide_eq_true (by omega); obtain ⟨gr, cp, e0, hbgr, hgr, cells, hcells⟩ := Kd.R_form HRW.out (by omega)
 injection e0 with e1 _ e2
 subst e1 e2; have BKr := Ad hcells; clear hcells HM HRT HR hgr
 go_upto_region 12 with (fail)
 replace BK3 := Ad (blk_drew BK3.out); replace BKg := Ad (blk_drew BKg.out); replace HRW := Ad (Kd.R_drew HRW.out); replace HB06 := Ad (below_drew1 HB06.out); replace HK := Ad (HK.out.trans (KeepT.of_below (below_drew1 (Below.refl _ _)))); replace BK8 := Ad (blk_drew BK8.out); replace BKr := Ad (blk_drew BKr.out); obtain ⟨ad_, e0, hx0, hx1, hx2, hx3, hx4, hx5, hx6, hx7, hx8, hx9⟩ := at_T43 (Kd.R_reads' HRW.out).2.2 (i : Int) (by omega) (by first | omega); cases e0
 simp only [Int.toNat_natCast, add_plain] at hx0 hx1 hx2 hx3 hx4 hx5 hx6 hx7 hx8 hx9
 simp only [HLX.out] at hx0 hx1 hx2 hx3 hx4 hx5 hx6 hx7 hx8 hx9
 refine start_ (n := 36) (S := fun w' => w'.cell? ⟨g, 0, none⟩ = some (.slice (some ⟨gr, 0, none⟩) L.length c9) ∧ w'.cell? ⟨gr, i * 10 + 8, none⟩ = some (.int .u16 c.f3.f3) ∧ w'.cell? ⟨gr, i * 10 + 9, none⟩ = some (.int .u16 c.f3.f2) ∧ w'.cell? ⟨g3, 3, none⟩ = some (.int .u32 c.f3.f0.f0) ∧ w'.cell? ⟨g3, 4, none⟩ = some (.int .u8 c.f3.f0.f1) ∧ w'.cell? ⟨g3, 5, none⟩ = some (.int .i64 c.f3.f1) ∧ w'.cell? ⟨g3, 6, none⟩ = some (.int .u16 c.f3.f2) ∧ w'.cell? ⟨g3, 7, none⟩ = some (.int .u16 c.f3.f3) ∧ w'.cell? ⟨g8, 0, none⟩ = some (.int .u16 c.f3.f3) ∧ w'.cell? ⟨g8, 1, none⟩ = some (.int .u16 c.f3.f2)) (ds := [35]) (tf 36 0) (by kernel_rfl) rfl rfl ⟨(blk_cell BKg.out 0).trans rfl, hx8, hx9, (blk_cell BK3.out 3).trans rfl, (blk_cell BK3.out 4).trans rfl, (blk_cell BK3.out 5).trans rfl, (blk_cell BK3.out 6).trans rfl, (blk_cell BK3.out 7).trans rfl, (blk_cell BK8.out 0).trans rfl, (blk_cell BK8.out 1).trans rfl⟩ (fun hHeld => ?_); generalize wi.drew = wd at BK3 BKg BK8 BKr HRW HB06 HK hx0 hx1 hx2 hx3 hx4 hx5 hx6 hx7 hx8 hx9 hHeld ⊢; refine pu 0 65 ?_ (tf 36 1) rfl rfl (by kernel_rfl) (fun _ _ _ h => h) (by rfl) ?_ ?_ ?_ ?_; rotate_left; · intro w'; go_simp; with_reducible rfl
 rotate_left; · simp only [Act.put, lz]; rfl
 refine pu 1 66 ?_ (tf 36 2) rfl rfl (by kernel_rfl) (fun _ _ _ h => h) (by rfl) ?_ ?_ ?_ ?_; rotate_left; · intro w'; go_simp; with_reducible rfl
 rotate_left; · simp only [Act.put, lz]; rfl
 refine pu 2 67 ?_ (tf 36 3) rfl rfl (by kernel_rfl) (fun _ _ _ h => h) (by rfl) ?_ ?_ ?_ ?_; rotate_left; · intro w'; go_simp; with_reducible rfl
 rotate_left; · simp only [Act.put, lz]; rfl
 refine pu 4 69 ?_ #[I,I,I,O,I,O,O,O,O,O,O,O,O,O,O,O,O,O,O,O,O,O,O,O,O,O,O,O,O,O,O,O,O,O,O,O] rfl rfl (by kernel_rfl) (fun _ _ _ h => h) (by rfl) ?_ ?_ ?_ ?_; rotate_left; · intro w'; go_simp; with_reducible rfl
 rotate_left; · simp only [Act.put, lz]; rfl
 refine pu 5 70 ?_ #[I,I,I,O,I,I,O,O,O,O,O,O,O,O,O,O,O,O,O,O,O,O,O,O,O,O,O,O,O,O,O,O,O,O,O,O] rfl rfl (by kernel_rfl) (fun _ _ _ h => h) (by rfl) ?_ ?_ ?_ ?_; rotate_left; · intro w'; go_simp; with_reducible rfl
 rotate_left; · simp only [Act.put, lz]; rfl
 refine pu 6 71 ?_ #[I,I,I,O,I,I,I,O,O,O,O,O,O,O,O,O,O,O,O,O,O,O,O,O,O,O,O,O,O,O,O,O,O,O,O,O] rfl rfl (by kernel_rfl) (fun _ _ _ h => h) (by rfl) ?_ ?_ ?_ ?_; rotate_left; · intro w'; go_simp; with_reducible rfl
 rotate_left; · simp only [Act.put, lz]; rfl
 refine pu 7 72 ?_ #[I,I,I,O,I,I,I,I,O,O,O,O,O,O,O,O,O,O,O,O,O,O,O,O,O,O,O,O,O,O,O,O,O,O,O,O] rfl rfl (by kernel_rfl) (fun _ _ _ h => h) (by rfl) ?_ ?_ ?_ ?_; rotate_left; · intro w'; go_simp; with_reducible rfl
 rotate_left; · simp only [Act.put, lz]; rfl
 refine pu 9 74 ?_ #[I,I,I,O,I,I,I,I,O,I,O,O,O,O,O,O,O,O,O,O,O,O,O,O,O,O,O,O,O,O,O,O,O,O,O,O] rfl rfl (by kernel_rfl) (fun _ _ _ h => h) (by rfl) ?_ ?_ ?_ ?_; rotate_left; · intro w'; go_simp; with_reducible rfl
 rotate_left; · simp only [Act.put, lz]; rfl
 refine pu 10 75 ?_ #[I,I,I,O,I,I,I,I,O,I,I,O,O,O,O,O,O,O,O,O,O,O,O,O,O,O,O,O,O,O,O,O,O,O,O,O] rfl rfl (by kernel_rfl) (fun _ _ _ h => h) (by rfl) ?_ ?_ ?_ ?_; rotate_left; · intro w'; go_simp; with_reducible rfl
 rotate_left; · simp only [Act.put, lz]; rfl
 refine pu 11 76 ?_ #[I,I,I,O,I,I,I,I,O,I,I,I,O,O,O,O,O,O,O,O,O,O,O,O,O,O,O,O,O,O,O,O,O,O,O,O] rfl rfl (by kernel_rfl) (fun _ _ _ h => h) (by rfl) ?_ ?_ ?_ ?_; rotate_left; · intro w'; go_simp; with_reducible rfl
 rotate_left; · simp only [Act.put, lz]; rfl
 refine pu 12 77 ?_ #[I,I,I,O,I,I,I,I,O,I,I,I,I,O,O,O,O,O,O,O,O,O,O,O,O,O,O,O,O,O,O,O,O,O,O,O] rfl rfl (by kernel_rfl) (fun _ _ _ h => h) (by rfl) ?_ ?_ ?_ ?_; rotate_left; · intro w'; go_simp; with_reducible rfl
 rotate_left; · simp only [Act.put, lz]; rfl
 refine pu 14 79 ?_ #[I,I,I,O,I,I,I,I,O,I,I,I,I,O,I,O,O,O,O,O,O,O,O,O,O,O,O,O,O,O,O,O,O,O,O,O] rfl rfl (by kernel_rfl) (fun _ _ _ h => h) (by rfl) ?_ ?_ ?_ ?_; rotate_left; · intro w'; go_simp; with_reducible rfl
 rotate_left; · simp only [Act.put, lz]; rfl
 refine pu 15 80 ?_ #[I,I,I,O,I,I,I,I,O,I,I,I,I,O,I,I,O,O,O,O,O,O,O,O,O,O,O,O,O,O,O,O,O,O,O,O] rfl rfl (by kernel_rfl) (fun _ _ _ h => h) (by rfl) ?_ ?_ ?_ ?_; rotate_left; · intro w'; go_simp; with_reducible rfl
 rotate_left; · simp only [Act.put, lz]; rfl
 refine pu 17 82 ?_ #[I,I,I,O,I,I,I,I,O,I,I,I,I,O,I,I,O,I,O,O,O,O,O,O,O,O,O,O,O,O,O,O,O,O,O,O] rfl rfl (by kernel_rfl) (fun _ _ _ h => h) (by rfl) ?_ ?_ ?_ ?_; rotate_left; · intro w'; go_simp; with_reducible rfl
 rotate_left; · simp only [Act.put, lz]; rfl
 refine pu 18 83 ?_ #[I,I,I,O,I,I,I,I,O,I,I,I,I,O,I,I,O,I,I,O,O,O,O,O,O,O,O,O,O,O,O,O,O,O,O,O] rfl rfl (by kernel_rfl) (fun _ _ _ h => h) (by rfl) ?_ ?_ ?_ ?_; rotate_left; · intro w'; go_simp; with_reducible rfl
 rotate_left; · simp only [Act.put, lz]; rfl
 refine pu 19 84 ?_ #[I,I,I,O,I,I,I,I,O,I,I,I,I,O,I,I,O,I,I,I,O,O,O,O,O,O,O,O,O,O,O,O,O,O,O,O] rfl rfl (by kernel_rfl) (fun _ _ _ h => h) (by rfl) ?_ ?_ ?_ ?_; rotate_left; · intro w'; go_simp; with_reducible rfl
 rotate_left; · simp only [Act.put, lz]; rfl
 refine pu 21 86 ?_ #[I,I,I,O,I,I,I,I,O,I,I,I,I,O,I,I,O,I,I,I,O,I,O,O,O,O,O,O,O,O,O,O,O,O,O,O] rfl rfl (by kernel_rfl) (fun _ _ _ h => h) (by rfl) ?_ ?_ ?_ ?_; rotate_left; · intro w'; go_simp; with_reducible rfl
 rotate_left; · simp only [Act.put, lz]; rfl
 refine tu 3 68 ?_ #[I,I,I,I,I,I,I,I,O,I,I,I,I,O,I,I,O,I,I,I,O,I,O,O,O,O,O,O,O,O,O,O,O,O,O,O] rfl rfl (by kernel_rfl) (fun _ _ _ h => h) (by rfl) ?_ hHeld ?_ ?_ ?_; rotate_left; · rintro w' ⟨s0, s1, s2, s3, s4, s5, s6, s7, s8, s9⟩; go_simp; with_reducible rfl
 rotate_left; · simp only [Act.put, lz]; rfl
 refine tu 8 73 ?_ #[I,I,I,I,I,I,I,I,I,I,I,I,I,O,I,I,O,I,I,I,O,I,O,O,O,O,O,O,O,O,O,O,O,O,O,O] rfl rfl (by kernel_rfl) (fun _ _ _ h => h) (by rfl) ?_ hHeld ?_ ?_ ?_; rotate_left; · rintro w' ⟨s0, s1, s2, s3, s4, s5, s6, s7, s8, s9⟩; go_simp; with_reducible rfl
 rotate_left; · simp only [Act.put, lz]; rfl
 refine tu 13 78 ?_ #[I,I,I,I,I,I,I,I,I,I,I,I,I,I,I,I,O,I,I,I,O,I,O,O,O,O,O,O,O,O,O,O,O,O,O,O] rfl rfl (by kernel_rfl) (fun _ _ _ h => h) (by rfl) ?_ hHeld ?_ ?_ ?_; rotate_left; · rintro w' ⟨s0, s1, s2, s3, s4, s5, s6, s7, s8, s9⟩; go_simp; with_reducible rfl
 rotate_left; · simp only [Act.put, lz]; rfl
 refine tu 16 81 ?_ #[I,I,I,I,I,I,I,I,I,I,I,I,I,I,I,I,I,I,I,I,O,I,O,O,O,O,O,O,O,O,O,O,O,O,O,O] rfl rfl (by kernel_rfl) (fun _ _ _ h => h) (by rfl) ?_ hHeld ?_ ?_ ?_; rotate_left; · rintro w' ⟨s0, s1, s2, s3, s4, s5, s6, s7, s8, s9⟩; go_simp; with_reducible rfl
 rotate_left; · simp only [Act.put, lz]; rfl
 refine tu 20 85 ?_ (tf 36 22) rfl rfl (by kernel_rfl) (fun _ _ _ h => h) (by rfl) ?_ hHeld ?_ ?_ ?_; rotate_left; · rintro w' ⟨s0, s1, s2, s3, s4, s5, s6, s7, s8, s9⟩; go_simp; with_reducible rfl
 rotate_left; · simp only [Act.put, lz]; rfl
 refine pu 22 87 ?_ (tf 36 23) rfl rfl (by kernel_rfl) (fun _ _ _ h => h) (by rfl) ?_ ?_ ?_ ?_; rotate_left; · intro w'; go_simp; with_reducible rfl
 rotate_left; · simp only [Act.put, lz]; rfl
 refine pu 23 88 ?_ (tf 36 24) rfl rfl (by kernel_rfl) (fun _ _ _ h => h) (by rfl) ?_ ?_ ?_ ?_; rotate_left; · intro w'; go_simp; with_reducible rfl
 rotate_left; · simp only [Act.put, lz]; rfl
 refine tu 24 89 ?_ (tf 36 25) rfl rfl (by kernel_rfl) (fun _ _ _ h => h) (by rfl) ?_ hHeld ?_ ?_ ?_; rotate_left; · rintro w' ⟨s0, s1, s2, s3, s4, s5, s6, s7, s8, s9⟩; go_simp; with_reducible rfl
 rotate_left; · simp only [Act.put, lz]; rfl
 refine tu 25 90 ?_ (tf 36 26) rfl rfl (by kernel_rfl) (fun _ _ _ h => h) (by rfl) ?_ hHeld ?_ ?_ ?_; rotate_left; · rintro w' ⟨s0, s1, s2, s3, s4, s5, s6, s7, s8, s9⟩; go_simp; with_reducible rfl
 rotate_left; · simp only [Act.put, lz]; rfl
 refine one_ (i := 26) (N := some 91) (tf 36 27) rfl rfl (by kernel_rfl) (by decide) (fun K hK => ?_); refine goes_ Try.func38 (by kernel_rfl) rfl #[.agg #[.int .u16 c.f3.f3, .int .u16 c.f3.f2], .agg #[.int .u16 c.f3.f3, .int .u16 c.f3.f2]] (by rfl) rfl rfl (by simp only [List.map_toArray, List.map_cons, List.map_nil]; rfl) ?_
 with_reducible refine (serial_Best.calls c.f3.f3 c.f3.f2 c.f3.f3 c.f3.f2 b0 b1 _ HBE.out).mono ?_
 rintro e wd0 ⟨rfl, hb⟩; refine ⟨_, rfl, ?_⟩; replace BK3 := Ad (blk_below BK3.out hb); replace BK8 := Ad (blk_below BK8.out hb); replace BKr := Ad (blk_below BKr.out hb); replace HRW := Ad (Kd.R_below HRW.out hb); replace HB06 := Ad (below_then HB06.out (Nat.le_trans hbg (Nat.le_of_lt (blk_lt BKg.out))) hb); replace BKg := Ad (blk_below BKg.out hb); replace HK := Ad (HK.out.trans (KeepT.of_below hb)); clear hb hx0 hx1 hx2 hx3 hx4 hx5 hx6 hx7 hx8 hx9; obtain ⟨ad_, e0, hx0, hx1, hx2, hx3, hx4, hx5, hx6, hx7, hx8, hx9⟩ := at_T43 (Kd.R_reads' HRW.out).2.2 (i : Int) (by omega) (by first | omega); cases e0
 simp only [Int.toNat_natCast, add_plain] at hx0 hx1 hx2 hx3 hx4 hx5 hx6 hx7 hx8 hx9
 simp only [HLX.out] at hx0 hx1 hx2 hx3 hx4 hx5 hx6 hx7 hx8 hx9
 refine hK.out _ _ ⟨(blk_cell BKg.out 0).trans rfl, hx8, hx9, (blk_cell BK3.out 3).trans rfl, (blk_cell BK3.out 4).trans rfl, (blk_cell BK3.out 5).trans rfl, (blk_cell BK3.out 6).trans rfl, (blk_cell BK3.out 7).trans rfl, (blk_cell BK8.out 0).trans rfl, (blk_cell BK8.out 1).trans rfl⟩ (fun hHeld => ?_); clear hK K; refine norm_ (a' := ?_) ?_ ?_; rotate_left
 · show Act.put _ (some 91) _ = _; simp only [Act.put, lz]; rfl
 refine pu 27 92 ?_ (tf 36 28) rfl rfl (by kernel_rfl) (fun _ _ _ h => h) (by rfl) ?_ ?_ ?_ ?_; rotate_left; · intro w'; go_simp; with_reducible rfl
 rotate_left; · simp only [Act.put, lz]; rfl
 refine pu 28 93 ?_ (tf 36 29) rfl rfl (by kernel_rfl) (fun _ _ _ h => h) (by rfl) ?_ ?_ ?_ ?_; rotate_left; · intro w'; go_simp; with_reducible rfl
 rotate_left; · simp only [Act.put, lz]; rfl
 refine one_ (i := 29) (N := none) (tf 36 30) rfl rfl (by kernel_rfl) (by decide) (fun K hK => ?_); have y0_ := blk_frozen BKr.out (i * 10 + 2); refine skip_ (w1 := (wd0.setCells gr (i * 10 + 2) [.bool true])) (by rfl) rfl ?_ ?_; · go_simp; rfl
 clear y0_; have hgne : some g ≠ (Value.slice (some ⟨gr, 0, none⟩) L.length c9).ownBlock := Kd.R_ne HRW.out BKg.out (by decide)
 obtain ⟨hrow0, hgw0⟩ := Kd.R_seg (d := k43) (okp := fun _ => False) HRW.out (i : Int) (by omega) (by omega) (c := [.int .u32 (⟨c.f3.f0, false, z36, ⟨c.f3.f3, c.f3.f2⟩⟩ : S43).f0.f0, .int .u8 (⟨c.f3.f0, false, z36, ⟨c.f3.f3, c.f3.f2⟩⟩ : S43).f0.f1, .bool (⟨c.f3.f0, false, z36, ⟨c.f3.f3, c.f3.f2⟩⟩ : S43).f1, .int .u32 (⟨c.f3.f0, false, z36, ⟨c.f3.f3, c.f3.f2⟩⟩ : S43).f2.f0.f0, .int .u8 (⟨c.f3.f0, false, z36, ⟨c.f3.f3, c.f3.f2⟩⟩ : S43).f2.f0.f1, .int .i64 (⟨c.f3.f0, false, z36, ⟨c.f3.f3, c.f3.f2⟩⟩ : S43).f2.f1, .int .u16 (⟨c.f3.f0, false, z36, ⟨c.f3.f3, c.f3.f2⟩⟩ : S43).f2.f2, .int .u16 (⟨c.f3.f0, false, z36, ⟨c.f3.f3, c.f3.f2⟩⟩ : S43).f2.f3, .int .u16 (⟨c.f3.f0, false, z36, ⟨c.f3.f3, c.f3.f2⟩⟩ : S43).f3.f0, .int .u16 (⟨c.f3.f0, false, z36, ⟨c.f3.f3, c.f3.f2⟩⟩ : S43).f3.f1]) (seg := [.bool true]) (j := 2) rfl (by
  intro j u hu
  rcases j with _ | _ | _ | _ | _ | _ | _ | _ | _ | _ | j
  · injection hu with hu; subst hu; exact hx0
  · injection hu with hu; subst hu; exact hx1
  · injection hu with hu; subst hu; exact hx2
  · injection hu with hu; subst hu; exact hx3
  · injection hu with hu; subst hu; exact hx4
  · injection hu with hu; subst hu; exact hx5
  · injection hu with hu; subst hu; exact hx6
  · injection hu with hu; subst hu; exact hx7
  · injection hu with hu; subst hu; exact hx8
  · injection hu with hu; subst hu; exact hx9
  · simp at hu) (show (2 : Nat) + 1 ≤ 10 from by decide) (x' := (⟨(⟨c.f3.f0, false, z36, ⟨c.f3.f3, c.f3.f2⟩⟩ : S43).f0, true, (⟨c.f3.f0, false, z36, ⟨c.f3.f3, c.f3.f2⟩⟩ : S43).f2, (⟨c.f3.f0, false, z36, ⟨c.f3.f3, c.f3.f2⟩⟩ : S43).f3⟩ : S43)) (k43_mkM _ _ _ (⟨(⟨c.f3.f0, false, z36, ⟨c.f3.f3, c.f3.f2⟩⟩ : S43).f0, true, (⟨c.f3.f0, false, z36, ⟨c.f3.f3, c.f3.f2⟩⟩ : S43).f2, (⟨c.f3.f0, false, z36, ⟨c.f3.f3, c.f3.f2⟩⟩ : S43).f3⟩ : S43)) (fun _ h => h.elim)
 have hrow : k43.R 43 (wd0.setCells gr (i * 10 + 2) [.bool true]) b (fun _ => True) (.slice (some ⟨gr, 0, none⟩) L.length c9) (L.set i (⟨(⟨c.f3.f0, false, z36, ⟨c.f3.f3, c.f3.f2⟩⟩ : S43).f0, true, (⟨c.f3.f0, false, z36, ⟨c.f3.f3, c.f3.f2⟩⟩ : S43).f2, (⟨c.f3.f0, false, z36, ⟨c.f3.f3, c.f3.f2⟩⟩ : S43).f3⟩ : S43)) := hrow0; have hgw : wd0.grownBy (wd0.setCells gr (i * 10 + 2) [.bool true]) (Value.slice (some ⟨gr, 0, none⟩) L.length c9).ownBlock := hgw0; clear hrow0 hgw0 hx0 hx1 hx2 hx3 hx4 hx5 hx6 hx7 hx8 hx9; generalize wd0.setCells gr (i * 10 + 2) [.bool true] = wd1 at hrow hgw ⊢; replace BK3 := Ad ((hgw.block g3 (blk_lt BK3.out) (Kd.R_ne HRW.out BK3.out (by decide))).trans BK3.out); replace BK8 := Ad ((hgw.block g8 (blk_lt BK8.out) (Kd.R_ne HRW.out BK8.out (by decide))).trans BK8.out); replace HK := Ad (table_Table_Apply.keep_row HK.out HRW.out hgw); replace HB06 := Ad (HB06.out.grown hgw (Nat.le_trans hbg (Nat.le_of_lt (blk_lt BKg.out))) (Kd.R_base HRW.out)); replace BKg := Ad ((hgw.block g (blk_lt BKg.out) (hgne)).trans BKg.out); replace HRW := Ad (hrow); clear hrow hgw hgne BKr; obtain ⟨gr_, cq_, e_, _, _, cells_, hcells_⟩ := Kd.R_form HRW.out (by simp only [List.length_set]; omega)
 injection e_ with e1_ e2_ e3_
 clear e2_ e3_
 injection e1_ with e1_
 injection e1_ with e1_ _ _
 subst e1_; have BKr := Ad hcells_; clear hcells_; obtain ⟨ad_, e0, hx0, hx1, hx2, hx3, hx4, hx5, hx6, hx7, hx8, hx9⟩ := at_T43 (Kd.R_reads' HRW.out).2.2 (i : Int) (by omega) (by first | (simp only [List.length_set]; omega)); cases e0
 simp only [Int.toNat_natCast, add_plain] at hx0 hx1 hx2 hx3 hx4 hx5 hx6 hx7 hx8 hx9
 simp only [table_Table_Apply.rd_set _ i _ (show i < (L).length by first | omega)] at hx0 hx1 hx2 hx3 hx4 hx5 hx6 hx7 hx8 hx9
 refine hK.out _ _ ⟨(blk_cell BKg.out 0).trans rfl, hx8, hx9, (blk_cell BK3.out 3).trans rfl, (blk_cell BK3.out 4).trans rfl, (blk_cell BK3.out 5).trans rfl, (blk_cell BK3.out 6).trans rfl, (blk_cell BK3.out 7).trans rfl, (blk_cell BK8.out 0).trans rfl, (blk_cell BK8.out 1).trans rfl⟩ (fun hHeld => ?_); clear hK K; refine pu 30 94 ?_ (tf 36 31) rfl rfl (by kernel_rfl) (fun _ _ _ h => h) (by rfl) ?_ ?_ ?_ ?_; rotate_left; · intro w'; go_simp; with_reducible rfl
 rotate_left; · simp only [Act.put, lz]; rfl
 refine pu 31 95 ?_ (tf 36 32) rfl rfl (by kernel_rfl) (fun _ _ _ h => h) (by rfl) ?_ ?_ ?_ ?_; rotate_left; · intro w'; go_simp; with_reducible rfl
 rotate_left; · simp only [Act.put, lz]; rfl
 refine one_ (i := 32) (N := none) (tf 36 33) rfl rfl (by kernel_rfl) (by decide) (fun K hK => ?_); have y0_ := blk_frozen BKr.out (i * 10 + 3); have y1_ := blk_frozen BKr.out (i * 10 + 4); have y2_ := blk_frozen BKr.out (i * 10 + 5); have y3_ := blk_frozen BKr.out (i * 10 + 6); have y4_ := blk_frozen BKr.out (i * 10 + 7); refine skip_ (w1 := (wd1.setCells gr (i * 10 + 3) [.int .u32 c.f3.f0.f0, .int .u8 c.f3.f0.f1, .int .i64 c.f3.f1, .int .u16 c.f3.f2, .int .u16 c.f3.f3])) (by rfl) rfl ?_ ?_; · go_simp; rfl
 clear y0_ y1_ y2_ y3_ y4_; have hgne : some g ≠ (Value.slice (some ⟨gr, 0, none⟩) L.length c9).ownBlock := Kd.R_ne HRW.out BKg.out (by decide)
 obtain ⟨hrow0, hgw0⟩ := Kd.R_seg (d := k43) (okp := fun _ => False) HRW.out (i : Int) (by omega) (by omega) (c := [.int .u32 (⟨(⟨c.f3.f0, false, z36, ⟨c.f3.f3, c.f3.f2⟩⟩ : S43).f0, true, (⟨c.f3.f0, false, z36, ⟨c.f3.f3, c.f3.f2⟩⟩ : S43).f2, (⟨c.f3.f0, false, z36, ⟨c.f3.f3, c.f3.f2⟩⟩ : S43).f3⟩ : S43).f0.f0, .int .u8 (⟨(⟨c.f3.f0, false, z36, ⟨c.f3.f3, c.f3.f2⟩⟩ : S43).f0, true, (⟨c.f3.f0, false, z36, ⟨c.f3.f3, c.f3.f2⟩⟩ : S43).f2, (⟨c.f3.f0, false, z36, ⟨c.f3.f3, c.f3.f2⟩⟩ : S43).f3⟩ : S43).f0.f1, .bool (⟨(⟨c.f3.f0, false, z36, ⟨c.f3.f3, c.f3.f2⟩⟩ : S43).f0, true, (⟨c.f3.f0, false, z36, ⟨c.f3.f3, c.f3.f2⟩⟩ : S43).f2, (⟨c.f3.f0, false, z36, ⟨c.f3.f3, c.f3.f2⟩⟩ : S43).f3⟩ : S43).f1, .int .u32 (⟨(⟨c.f3.f0, false, z36, ⟨c.f3.f3, c.f3.f2⟩⟩ : S43).f0, true, (⟨c.f3.f0, false, z36, ⟨c.f3.f3, c.f3.f2⟩⟩ : S43).f2, (⟨c.f3.f0, false, z36, ⟨c.f3.f3, c.f3.f2⟩⟩ : S43).f3⟩ : S43).f2.f0.f0, .int .u8 (⟨(⟨c.f3.f0, false, z36, ⟨c.f3.f3, c.f3.f2⟩⟩ : S43).f0, true, (⟨c.f3.f0, false, z36, ⟨c.f3.f3, c.f3.f2⟩⟩ : S43).f2, (⟨c.f3.f0, false, z36, ⟨c.f3.f3, c.f3.f2⟩⟩ : S43).f3⟩ : S43).f2.f0.f1, .int .i64 (⟨(⟨c.f3.f0, false, z36, ⟨c.f3.f3, c.f3.f2⟩⟩ : S43).f0, true, (⟨c.f3.f0, false, z36, ⟨c.f3.f3, c.f3.f2⟩⟩ : S43).f2, (⟨c.f3.f0, false, z36, ⟨c.f3.f3, c.f3.f2⟩⟩ : S43).f3⟩ : S43).f2.f1, .int .u16 (⟨(⟨c.f3.f0, false, z36, ⟨c.f3.f3, c.f3.f2⟩⟩ : S43).f0, true, (⟨c.f3.f0, false, z36, ⟨c.f3.f3, c.f3.f2⟩⟩ : S43).f2, (⟨c.f3.f0, false, z36, ⟨c.f3.f3, c.f3.f2⟩⟩ : S43).f3⟩ : S43).f2.f2, .int .u16 (⟨(⟨c.f3.f0, false, z36, ⟨c.f3.f3, c.f3.f2⟩⟩ : S43).f0, true, (⟨c.f3.f0, false, z36, ⟨c.f3.f3, c.f3.f2⟩⟩ : S43).f2, (⟨c.f3.f0, false, z36, ⟨c.f3.f3, c.f3.f2⟩⟩ : S43).f3⟩ : S43).f2.f3, .int .u16 (⟨(⟨c.f3.f0, false, z36, ⟨c.f3.f3, c.f3.f2⟩⟩ : S43).f0, true, (⟨c.f3.f0, false, z36, ⟨c.f3.f3, c.f3.f2⟩⟩ : S43).f2, (⟨c.f3.f0, false, z36, ⟨c.f3.f3, c.f3.f2⟩⟩ : S43).f3⟩ : S43).f3.f0, .int .u16 (⟨(⟨c.f3.f0, false, z36, ⟨c.f3.f3, c.f3.f2⟩⟩ : S43).f0, true, (⟨c.f3.f0, false, z36, ⟨c.f3.f3, c.f3.f2⟩⟩ : S43).f2, (⟨c.f3.f0, false, z36, ⟨c.f3.f3, c.f3.f2⟩⟩ : S43).f3⟩ : S43).f3.f1]) (seg := [.int .u32 c.f3.f0.f0, .int .u8 c.f3.f0.f1, .int .i64 c.f3.f1, .int .u16 c.f3.f2, .int .u16 c.f3.f3]) (j := 3) rfl (by
  intro j u hu
  rcases j with _ | _ | _ | _ | _ | _ | _ | _ | _ | _ | j
  · injection hu with hu; subst hu; exact hx0
  · injection hu with hu; subst hu; exact hx1
  · injection hu with hu; subst hu; exact hx2
  · injection hu with hu; subst hu; exact hx3
  · injection hu with hu; subst hu; exact hx4
  · injection hu with hu; subst hu; exact hx5
  · injection hu with hu; subst hu; exact hx6
  · injection hu with hu; subst hu; exact hx7
  · injection hu with hu; subst hu; exact hx8
  · injection hu with hu; subst hu; exact hx9
  · simp at hu) (show (3 : Nat) + 5 ≤ 10 from by decide) (x' := (⟨(⟨c.f3.f0, false, z36, ⟨c.f3.f3, c.f3.f2⟩⟩ : S43).f0, true, c.f3, (⟨c.f3.f0, false, z36, ⟨c.f3.f3, c.f3.f2⟩⟩ : S43).f3⟩ : S43)) (k43_mkM _ _ _ (⟨(⟨c.f3.f0, false, z36, ⟨c.f3.f3, c.f3.f2⟩⟩ : S43).f0, true, c.f3, (⟨c.f3.f0, false, z36, ⟨c.f3.f3, c.f3.f2⟩⟩ : S43).f3⟩ : S43)) (fun _ h => h.elim)
 have hrow : k43.R 43 (wd1.setCells gr (i * 10 + 3) [.int .u32 c.f3.f0.f0, .int .u8 c.f3.f0.f1, .int .i64 c.f3.f1, .int .u16 c.f3.f2, .int .u16 c.f3.f3]) b (fun _ => True) (.slice (some ⟨gr, 0, none⟩) L.length c9) ((L.set i (⟨(⟨c.f3.f0, false, z36, ⟨c.f3.f3, c.f3.f2⟩⟩ : S43).f0, true, (⟨c.f3.f0, false, z36, ⟨c.f3.f3, c.f3.f2⟩⟩ : S43).f2, (⟨c.f3.f0, false, z36, ⟨c.f3.f3, c.f3.f2⟩⟩ : S43).f3⟩ : S43)).set i (⟨(⟨c.f3.f0, false, z36, ⟨c.f3.f3, c.f3.f2⟩⟩ : S43).f0, true, c.f3, (⟨c.f3.f0, false, z36, ⟨c.f3.f3, c.f3.f2⟩⟩ : S43).f3⟩ : S43)) := hrow0; have hgw : wd1.grownBy (wd1.setCells gr (i * 10 + 3) [.int .u32 c.f3.f0.f0, .int .u8 c.f3.f0.f1, .int .i64 c.f3.f1, .int .u16 c.f3.f2, .int .u16 c.f3.f3]) (Value.slice (some ⟨gr, 0, none⟩) L.length c9).ownBlock := hgw0; clear hrow0 hgw0 hx0 hx1 hx2 hx3 hx4 hx5 hx6 hx7 hx8 hx9; generalize wd1.setCells gr (i * 10 + 3) [.int .u32 c.f3.f0.f0, .int .u8 c.f3.f0.f1, .int .i64 c.f3.f1, .int .u16 c.f3.f2, .int .u16 c.f3.f3] = wd2 at hrow hgw ⊢; replace BK3 := Ad ((hgw.block g3 (blk_lt BK3.out) (Kd.R_ne HRW.out BK3.out (by decide))).trans BK3.out); replace BK8 := Ad ((hgw.block g8 (blk_lt BK8.out) (Kd.R_ne HRW.out BK8.out (by decide))).trans BK8.out); replace HK := Ad (table_Table_Apply.keep_row HK.out HRW.out hgw); replace HB06 := Ad (HB06.out.grown hgw (Nat.le_trans hbg (Nat.le_of_lt (blk_lt BKg.out))) (Kd.R_base HRW.out)); replace BKg := Ad ((hgw.block g (blk_lt BKg.out) (hgne)).trans BKg.out); replace HRW := Ad (hrow); clear hrow hgw hgne BKr; obtain ⟨gr_, cq_, e_, _, _, cells_, hcells_⟩ := Kd.R_form HRW.out (by simp only [List.length_set]; omega)
 injection e_ with e1_ e2_ e3_
 clear e2_ e3_
 injection e1_ with e1_
 injection e1_ with e1_ _ _
 subst e1_; have BKr := Ad hcells_; clear hcells_; obtain ⟨ad_, e0, hx0, hx1, hx2, hx3, hx4, hx5, hx6, hx7, hx8, hx9⟩ := at_T43 (Kd.R_reads' HRW.out).2.2 (i : Int) (by omega) (by first | (simp only [List.length_set]; omega)); cases e0
 simp only [Int.toNat_natCast, add_plain] at hx0 hx1 hx2 hx3 hx4 hx5 hx6 hx7 hx8 hx9
 simp only [table_Table_Apply.rd_set _ i _ (show i < ((L.set i (⟨(⟨c.f3.f0, false, z36, ⟨c.f3.f3, c.f3.f2⟩⟩ : S43).f0, true, (⟨c.f3.f0, false, z36, ⟨c.f3.f3, c.f3.f2⟩⟩ : S43).f2, (⟨c.f3.f0, false, z36, ⟨c.f3.f3, c.f3.f2⟩⟩ : S43).f3⟩ : S43))).length by first | (simp only [List.length_set]; omega))] at hx0 hx1 hx2 hx3 hx4 hx5 hx6 hx7 hx8 hx9
 refine hK.out _ _ ⟨(blk_cell BKg.out 0).trans rfl, hx8, hx9, (blk_cell BK3.out 3).trans rfl, (blk_cell BK3.out 4).trans rfl, (blk_cell BK3.out 5).trans rfl, (blk_cell BK3.out 6).trans rfl, (blk_cell BK3.out 7).trans rfl, (blk_cell BK8.out 0).trans rfl, (blk_cell BK8.out 1).trans rfl⟩ (fun hHeld => ?_); clear hK K; refine pu 33 96 ?_ (tf 36 34) rfl rfl (by kernel_rfl) (fun _ _ _ h => h) (by rfl) ?_ ?_ ?_ ?_; rotate_left; · intro w'; go_simp; with_reducible rfl
 rotate_left; · simp only [Act.put, lz]; rfl
 refine pu 34 97 ?_ (tf 36 35) rfl rfl (by kernel_rfl) (fun _ _ _ h => h) (by rfl) ?_ ?_ ?_ ?_; rotate_left; · intro w'; go_simp; with_reducible rfl
 rotate_left; · simp only [Act.put, lz]; rfl
 refine last_ (i := 35) (N := none) (tf 36 36) rfl rfl (by kernel_rfl) (by decide) (fun K hK => ?_); have y0_ := blk_frozen BKr.out (i * 10 + 8); have y1_ := blk_frozen BKr.out (i * 10 + 9); refine skip_ (w1 := (wd2.setCells gr (i * 10 + 8) [.int .u16 b0, .int .u16 b1])) (by rfl) rfl ?_ ?_; · go_simp; rfl
 clear y0_ y1_; have hgne : some g ≠ (Value.slice (some ⟨gr, 0, none⟩) L.length c9).ownBlock := Kd.R_ne HRW.out BKg.out (by decide)
 obtain ⟨hrow0, hgw0⟩ := Kd.R_seg (d := k43) (okp := fun _ => False) HRW.out (i : Int) (by omega) (by omega) (c := [.int .u32 (⟨(⟨c.f3.f0, false, z36, ⟨c.f3.f3, c.f3.f2⟩⟩ : S43).f0, true, c.f3, (⟨c.f3.f0, false, z36, ⟨c.f3.f3, c.f3.f2⟩⟩ : S43).f3⟩ : S43).f0.f0, .int .u8 (⟨(⟨c.f3.f0, false, z36, ⟨c.f3.f3, c.f3.f2⟩⟩ : S43).f0, true, c.f3, (⟨c.f3.f0, false, z36, ⟨c.f3.f3, c.f3.f2⟩⟩ : S43).f3⟩ : S43).f0.f1, .bool (⟨(⟨c.f3.f0, false, z36, ⟨c.f3.f3, c.f3.f2⟩⟩ : S43).f0, true, c.f3, (⟨c.f3.f0, false, z36, ⟨c.f3.f3, c.f3.f2⟩⟩ : S43).f3⟩ : S43).f1, .int .u32 (⟨(⟨c.f3.f0, false, z36, ⟨c.f3.f3, c.f3.f2⟩⟩ : S43).f0, true, c.f3, (⟨c.f3.f0, false, z36, ⟨c.f3.f3, c.f3.f2⟩⟩ : S43).f3⟩ : S43).f2.f0.f0, .int .u8 (⟨(⟨c.f3.f0, false, z36, ⟨c.f3.f3, c.f3.f2⟩⟩ : S43).f0, true, c.f3, (⟨c.f3.f0, false, z36, ⟨c.f3.f3, c.f3.f2⟩⟩ : S43).f3⟩ : S43).f2.f0.f1, .int .i64 (⟨(⟨c.f3.f0, false, z36, ⟨c.f3.f3, c.f3.f2⟩⟩ : S43).f0, true, c.f3, (⟨c.f3.f0, false, z36, ⟨c.f3.f3, c.f3.f2⟩⟩ : S43).f3⟩ : S43).f2.f1, .int .u16 (⟨(⟨c.f3.f0, false, z36, ⟨c.f3.f3, c.f3.f2⟩⟩ : S43).f0, true, c.f3, (⟨c.f3.f0, false, z36, ⟨c.f3.f3, c.f3.f2⟩⟩ : S43).f3⟩ : S43).f2.f2, .int .u16 (⟨(⟨c.f3.f0, false, z36, ⟨c.f3.f3, c.f3.f2⟩⟩ : S43).f0, true, c.f3, (⟨c.f3.f0, false, z36, ⟨c.f3.f3, c.f3.f2⟩⟩ : S43).f3⟩ : S43).f2.f3, .int .u16 (⟨(⟨c.f3.f0, false, z36, ⟨c.f3.f3, c.f3.f2⟩⟩ : S43).f0, true, c.f3, (⟨c.f3.f0, false, z36, ⟨c.f3.f3, c.f3.f2⟩⟩ : S43).f3⟩ : S43).f3.f0, .int .u16 (⟨(⟨c.f3.f0, false, z36, ⟨c.f3.f3, c.f3.f2⟩⟩ : S43).f0, true, c.f3, (⟨c.f3.f0, false, z36, ⟨c.f3.f3, c.f3.f2⟩⟩ : S43).f3⟩ : S43).f3.f1]) (seg := [.int .u16 b0, .int .u16 b1]) (j := 8) rfl (by
  intro j u hu
  rcases j with _ | _ | _ | _ | _ | _ | _ | _ | _ | _ | j
  · injection hu with hu; subst hu; exact hx0
  · injection hu with hu; subst hu; exact hx1
  · injection hu with hu; subst hu; exact hx2
  · injection hu with hu; subst hu; exact hx3
  · injection hu with hu; subst hu; exact hx4
  · injection hu with hu; subst hu; exact hx5
  · injection hu with hu; subst hu; exact hx6
  · injection hu with hu; subst hu; exact hx7
  · injection hu with hu; subst hu; exact hx8
  · injection hu with hu; subst hu; exact hx9
  · simp at hu) (show (8 : Nat) + 2 ≤ 10 from by decide) (x' := (⟨(⟨c.f3.f0, false, z36, ⟨c.f3.f3, c.f3.f2⟩⟩ : S43).f0, true, c.f3, ⟨b0, b1⟩⟩ : S43)) (k43_mkM _ _ _ (⟨(⟨c.f3.f0, false, z36, ⟨c.f3.f3, c.f3.f2⟩⟩ : S43).f0, true, c.f3, ⟨b0, b1⟩⟩ : S43)) (fun _ h => h.elim)
 have hrow : k43.R 43 (wd2.setCells gr (i * 10 + 8) [.int .u16 b0, .int .u16 b1]) b (fun _ => True) (.slice (some ⟨gr, 0, none⟩) L.length c9) (((L.set i (⟨(⟨c.f3.f0, false, z36, ⟨c.f3.f3, c.f3.f2⟩⟩ : S43).f0, true, (⟨c.f3.f0, false, z36, ⟨c.f3.f3, c.f3.f2⟩⟩ : S43).f2, (⟨c.f3.f0, false, z36, ⟨c.f3.f3, c.f3.f2⟩⟩ : S43).f3⟩ : S43)).set i (⟨(⟨c.f3.f0, false, z36, ⟨c.f3.f3, c.f3.f2⟩⟩ : S43).f0, true, c.f3, (⟨c.f3.f0, false, z36, ⟨c.f3.f3, c.f3.f2⟩⟩ : S43).f3⟩ : S43)).set i (⟨(⟨c.f3.f0, false, z36, ⟨c.f3.f3, c.f3.f2⟩⟩ : S43).f0, true, c.f3, ⟨b0, b1⟩⟩ : S43)) := hrow0; have hgw : wd2.grownBy (wd2.setCells gr (i * 10 + 8) [.int .u16 b0, .int .u16 b1]) (Value.slice (some ⟨gr, 0, none⟩) L.length c9).ownBlock := hgw0; clear hrow0 hgw0 hx0 hx1 hx2 hx3 hx4 hx5 hx6 hx7 hx8 hx9; generalize wd2.setCells gr (i * 10 + 8) [.int .u16 b0, .int .u16 b1] = wd3 at hrow hgw ⊢; replace BK3 := Ad ((hgw.block g3 (blk_lt BK3.out) (Kd.R_ne HRW.out BK3.out (by decide))).trans BK3.out); replace BK8 := Ad ((hgw.block g8 (blk_lt BK8.out) (Kd.R_ne HRW.out BK8.out (by decide))).trans BK8.out); replace HK := Ad (table_Table_Apply.keep_row HK.out HRW.out hgw); replace HB06 := Ad (HB06.out.grown hgw (Nat.le_trans hbg (Nat.le_of_lt (blk_lt BKg.out))) (Kd.R_base HRW.out)); replace BKg := Ad ((hgw.block g (blk_lt BKg.out) (hgne)).trans BKg.out); replace HRW := Ad (hrow); clear hrow hgw hgne BKr; obtain ⟨gr_, cq_, e_, _, _, cells_, hcells_⟩ := Kd.R_form HRW.out (by simp only [List.length_set]; omega)
 injection e_ with e1_ e2_ e3_
 clear e2_ e3_
 injection e1_ with e1_
 injection e1_ with e1_ _ _
 subst e1_; have BKr := Ad hcells_; clear hcells_; obtain ⟨ad_, e0, hx0, hx1, hx2, hx3, hx4, hx5, hx6, hx7, hx8, hx9⟩ := at_T43 (Kd.R_reads' HRW.out).2.2 (i : Int) (by omega) (by first | (simp only [List.length_set]; omega)); cases e0
 simp only [Int.toNat_natCast, add_plain] at hx0 hx1 hx2 hx3 hx4 hx5 hx6 hx7 hx8 hx9
 simp only [table_Table_Apply.rd_set _ i _ (show i < (((L.set i (⟨(⟨c.f3.f0, false, z36, ⟨c.f3.f3, c.f3.f2⟩⟩ : S43).f0, true, (⟨c.f3.f0, false, z36, ⟨c.f3.f3, c.f3.f2⟩⟩ : S43).f2, (⟨c.f3.f0, false, z36, ⟨c.f3.f3, c.f3.f2⟩⟩ : S43).f3⟩ : S43)).set i (⟨(⟨c.f3.f0, false, z36, ⟨c.f3.f3, c.f3.f2⟩⟩ : S43).f0, true, c.f3, (⟨c.f3.f0, false, z36, ⟨c.f3.f3, c.f3.f2⟩⟩ : S43).f3⟩ : S43))).length by first | (simp only [List.length_set]; omega))] at hx0 hx1 hx2 hx3 hx4 hx5 hx6 hx7 hx8 hx9
 refine hK.out _ _ ?_; clear hK K; refine done_ (by kernel_rfl) ?_
 go_upto_region 19 with (fail)
 replace BK3 := Ad (blk_drew BK3.out); replace BKg := Ad (blk_drew BKg.out); replace HRW := Ad (Kd.R_drew HRW.out); replace HB06 := Ad (below_drew1 HB06.out); replace HK := Ad (HK.out.trans (KeepT.of_below (below_drew1 (Below.refl _ _)))); refine start_ (n := 12) (S := fun w' => w'.cell? ⟨g3, 0, none⟩ = some (.int .u64 c.f0) ∧ w'.cell? ⟨g3, 1, none⟩ = some (.int .u64 c.f1)) (ds := [11]) (tf 12 0) (by kernel_rfl) rfl rfl ⟨(blk_cell BK3.out 0).trans rfl, (blk_cell BK3.out 1).trans rfl⟩ (fun hHeld => ?_); generalize wd3.drew = we1 at BK3 BKg HRW HB06 HK hHeld ⊢; refine pu 0 148 ?_ (tf 12 1) rfl rfl (by kernel_rfl) (fun _ _ _ h => h) (by rfl) ?_ ?_ ?_ ?_; rotate_left; · intro w'; go_simp; with_reducible rfl
 rotate_left; · simp only [Act.put, lz]; rfl
 refine pu 1 149 ?_ (tf 12 2) rfl rfl (by kernel_rfl) (fun _ _ _ h => h) (by rfl) ?_ ?_ ?_ ?_; rotate_left; · intro w'; go_simp; with_reducible rfl
 rotate_left; · simp only [Act.put, lz]; rfl
 refine pu 2 150 ?_ (tf 12 3) rfl rfl (by kernel_rfl) (fun _ _ _ h => h) (by rfl) ?_ ?_ ?_ ?_; rotate_left; · intro w'; go_simp; with_reducible rfl
 rotate_left; · simp only [Act.put, lz]; rfl
 refine pu 4 152 ?_ #[I,I,I,O,I,O,O,O,O,O,O,O] rfl rfl (by kernel_rfl) (fun _ _ _ h => h) (by rfl) ?_ ?_ ?_ ?_; rotate_left; · intro w'; go_simp; with_reducible rfl
 rotate_left; · simp only [Act.put, lz]; rfl
 refine tu 3 151 ?_ (tf 12 5) rfl rfl (by kernel_rfl) (fun _ _ _ h => h) (by rfl) ?_ hHeld ?_ ?_ ?_; rotate_left; · rintro w' ⟨s0, s1⟩; go_simp; with_reducible rfl
 rotate_left; · simp only [Act.put, lz]; rfl
 refine pu 6 154 ?_ #[I,I,I,I,I,O,I,O,O,O,O,O] rfl rfl (by kernel_rfl) (fun _ _ _ h => h) (by rfl) ?_ ?_ ?_ ?_; rotate_left; · intro w'; go_simp; with_reducible rfl
 rotate_left; · simp only [Act.put, lz]; rfl
 refine pu 7 155 ?_ #[I,I,I,I,I,O,I,I,O,O,O,O] rfl rfl (by kernel_rfl) (fun _ _ _ h => h) (by rfl) ?_ ?_ ?_ ?_; rotate_left; · intro w'; go_simp; with_reducible rfl
 rotate_left; · simp only [Act.put, lz]; rfl
 refine tu 5 153 ?_ (tf 12 8) rfl rfl (by kernel_rfl) (fun _ _ _ h => h) (by rfl) ?_ hHeld ?_ ?_ ?_; rotate_left; · rintro w' ⟨s0, s1⟩; go_simp; with_reducible rfl
 rotate_left; · simp only [Act.put, lz]; rfl
 refine one_ (i := 8) (N := none) (tf 12 9) rfl rfl (by kernel_rfl) (by decide) (fun K hK => ?_); have y_ := blk_frozen BKg.out 1; have c_ : we1.cell? ⟨g, 1, none⟩ = some (.int .u64 no) := (blk_cell BKg.out 1).trans rfl; refine skip_ (w1 := (we1.setCell ⟨g, 1, none⟩ (.int .u64 c.f0))) (by rfl) rfl ?_ ?_
 · go_simp
   try rfl
 clear y_ c_; have hn3 := table_Table_Apply.ne_of BK3.out BKg.out (by decide); have hrow := Kd.R_set HRW.out BKg.out (by decide) 1 (.int .u64 c.f0); have hb3 := (Below.heap_setCell we1 ⟨g, 1, none⟩ (.int .u64 c.f0) g3 hn3).trans BK3.out; have hbg_ := blk_put (cs := #[.slice (some ⟨gr, 0, none⟩) L.length c9, .int .u64 no, .int .u64 tm]) BKg.out 1 (.int .u64 c.f0) rfl; have hk_ := table_Table_Apply.keep_set HK.out BKg.out 1 (.int .u64 c.f0); have hb6 := HB06.out.setCell (p := ⟨g, 1, none⟩) hbg (.int .u64 c.f0); generalize we1.setCell ⟨g, 1, none⟩ (.int .u64 c.f0) = we2 at hrow hb3 hbg_ hk_ hb6 ⊢; clear HRW BK3 BKg HK HB06 hn3; have HRW := Ad hrow; have BK3 := Ad hb3; have BKg := Ad hbg_; have HK := Ad hk_; have HB06 := Ad hb6; clear hrow hb3 hbg_ hk_ hb6; refine hK.out _ _ ⟨(blk_cell BK3.out 0).trans rfl, (blk_cell BK3.out 1).trans rfl⟩ (fun hHeld => ?_); clear hK K; refine pu 9 156 ?_ (tf 12 10) rfl rfl (by kernel_rfl) (fun _ _ _ h => h) (by rfl) ?_ ?_ ?_ ?_; rotate_left; · intro w'; go_simp; with_reducible rfl
 rotate_left; · simp only [Act.put, lz]; rfl
 refine pu 10 157 ?_ (tf 12 11) rfl rfl (by kernel_rfl) (fun _ _ _ h => h) (by rfl) ?_ ?_ ?_ ?_; rotate_left; · intro w'; go_simp; with_reducible rfl
 rotate_left; · simp only [Act.put, lz]; rfl
 refine last_ (i := 11) (N := none) (tf 12 12) rfl rfl (by kernel_rfl) (by decide) (fun K hK => ?_); have y_ := blk_frozen BKg.out 2; have c_ : we2.cell? ⟨g, 2, none⟩ = some (.int .u64 tm) := (blk_cell BKg.out 2).trans rfl; refine skip_ (w1 := (we2.setCell ⟨g, 2, none⟩ (.int .u64 c.f1))) (by rfl) rfl ?_ ?_
 · go_simp
   try rfl
 clear y_ c_; have hn3 := table_Table_Apply.ne_of BK3.out BKg.out (by decide); have hrow := Kd.R_set HRW.out BKg.out (by decide) 2 (.int .u64 c.f1); have hb3 := (Below.heap_setCell we2 ⟨g, 2, none⟩ (.int .u64 c.f1) g3 hn3).trans BK3.out; have hbg_ := blk_put (cs := #[.slice (some ⟨gr, 0, none⟩) L.length c9, .int .u64 c.f0, .int .u64 tm]) BKg.out 2 (.int .u64 c.f1) rfl; have hk_ := table_Table_Apply.keep_set HK.out BKg.out 2 (.int .u64 c.f1); have hb6 := HB06.out.setCell (p := ⟨g, 2, none⟩) hbg (.int .u64 c.f1); generalize we2.setCell ⟨g, 2, none⟩ (.int .u64 c.f1) = we3 at hrow hb3 hbg_ hk_ hb6 ⊢; clear HRW BK3 BKg HK HB06 hn3; have HRW := Ad hrow; have BK3 := Ad hb3; have BKg := Ad hbg_; have HK := Ad hk_; have HB06 := Ad hb6; clear hrow hb3 hbg_ hk_ hb6; refine hK.out _ _ ?_; clear hK K; refine done_ (by kernel_rfl) ?_
 go_wp2_with (fail)
 go_ret; exact ⟨rfl, ⟨_, BKg.out, by have e_ := HRW.out; have E_ : ∀ y, L.set i y = l.take i ++ y :: l.drop i := (fun y => by rw [HL.out]; exact table_Table_Apply.set_mid l i _ y hi); rw [List.set_set, List.set_set, E_] at e_; exact e_⟩, HB06.out, HK.out⟩
/-- what a change makes of the rows -/
def table_Table_Apply.g (T : (List S43 × Int × Int)) (a1_0 a1_1 : Int) (a1_2 : Bool) (a1_3 a1_4 a1_5 a1_6 a1_7 : Int) : Option (Int × (List S43 × Int × Int)) :=
 if ¬ a1_0 = IntKind.u64.wrap (T.2.1 + 1) ∨ a1_1 < T.2.2 then some (8, T)
 else if a1_2 = true then (if rowHit T.1 a1_3 a1_4 = true ∧ (rd_T43 T.1 (rowPos T.1 a1_3 a1_4 : Int)).f1 = true then some (0, T.1.set (rowPos T.1 a1_3 a1_4) ⟨(rd_T43 T.1 (rowPos T.1 a1_3 a1_4 : Int)).f0, false, ⟨⟨a1_3, a1_4⟩, 0, 0, 0⟩, (rd_T43 T.1 (rowPos T.1 a1_3 a1_4 : Int)).f3⟩, a1_0, a1_1) else some (2, T))
 else if rowHit T.1 a1_3 a1_4 = true then (serial_Best.f (rd_T43 T.1 (rowPos T.1 a1_3 a1_4 : Int)).f3.f0 (rd_T43 T.1 (rowPos T.1 a1_3 a1_4 : Int)).f3.f1 a1_7 a1_6).bind fun b => some (0, T.1.set (rowPos T.1 a1_3 a1_4) ⟨(rd_T43 T.1 (rowPos T.1 a1_3 a1_4 : Int)).f0, true, ⟨⟨a1_3, a1_4⟩, a1_5, a1_6, a1_7⟩, ⟨b.1, b.2⟩⟩, a1_0, a1_1)
 else if 256 ≤ T.1.length then some (3, T)
 else (serial_Best.f a1_7 a1_6 a1_7 a1_6).bind fun b => some (0, T.1.take (rowPos T.1 a1_3 a1_4) ++ ⟨⟨a1_3, a1_4⟩, true, ⟨⟨a1_3, a1_4⟩, a1_5, a1_6, a1_7⟩, ⟨b.1, b.2⟩⟩ :: T.1.drop (rowPos T.1 a1_3 a1_4), a1_0, a1_1)
def table_Table_Apply.f (T : (List S43 × Int × Int)) (a1_0 a1_1 : Int) (a1_2 : Bool) (a1_3 a1_4 a1_5 a1_6 a1_7 : Int) : Option (Int × (List S43 × Int × Int)) := (change_Right.f 5 a1_0 a1_1 a1_2 a1_3 a1_4 a1_5 a1_6 a1_7).bind fun er => if er = 0 then table_Table_Apply.g T a1_0 a1_1 a1_2 a1_3 a1_4 a1_5 a1_6 a1_7 else some (er, T)
theorem table_Table_Apply.calls (g : Nat) (T : (List S43 × Int × Int)) (a1_0 a1_1 : Int) (a1_2 : Bool) (a1_3 a1_4 a1_5 a1_6 a1_7 : Int) (r1 : Int) (r2 : (List S43 × Int × Int)) (w0 w : World) (hI : IsS70 w0 w g T) (hB : Below w0.heap.size w0 w) (h : table_Table_Apply.f T a1_0 a1_1 a1_2 a1_3 a1_4 a1_5 a1_6 a1_7 = some (r1, r2)) :
 Calls Try.prog 21 #[.pointer (some ⟨g, 0, none⟩), .agg #[.int .u64 a1_0, .int .u64 a1_1, .bool a1_2, .int .u32 a1_3, .int .u8 a1_4, .int .i64 a1_5, .int .u16 a1_6, .int .u16 a1_7]] w fun e w' => e = .returned (.int .i64 r1) ∧ IsS70 w0 w' g r2 ∧ Below w0.heap.size w0 w' ∧ KeepT w w' := by
 unfold table_Table_Apply.f at h
 obtain ⟨er, hrt, h⟩ := Option.bind_eq_some_iff.mp h; obtain ⟨v, hg, hgb, hR, hs, hl⟩ := hI
 have fin : ∀ (l' : List S43) (no' tm' : Int), (r1, r2) = (r1, l', no', tm') → rowInv l' → ∀ e w', (e = Ending.returned (.int .i64 r1) ∧ (∃ v', w'.heap[g]? = some (.cells #[v', .int .u64 no', .int .u64 tm'] 70 (0, 0)) ∧ k43.R 43 w' w0.heap.size (fun _ => True) v' l') ∧ Below w0.heap.size w0 w' ∧ KeepT w w') → e = Ending.returned (.int .i64 r1) ∧ IsS70 w0 w' g r2 ∧ Below w0.heap.size w0 w' ∧ KeepT w w' := by
  intro l' no' tm' he hv e w' ⟨q1, ⟨v', q2, q3⟩, q4, q5⟩; obtain rfl := (Prod.mk.inj he).2; exact ⟨q1, ⟨v', q2, hgb, q3, hv⟩, q4, q5⟩
 have hc := table_Table_find.hcmp T.1 a1_3 a1_4 hs; have hp := rowPos_le T.1 a1_3 a1_4
 by_cases h0 : er = 0
 · rw [if_pos h0] at h
   subst h0
   unfold table_Table_Apply.g at h
   by_cases hor : ¬ a1_0 = IntKind.u64.wrap (T.2.1 + 1) ∨ a1_1 < T.2.2
   · rw [if_pos hor] at h; obtain ⟨rfl, rfl⟩ := Prod.mk.inj (Option.some.inj h); exact (table_Table_Apply.order g w0.heap.size v T.1 T.2.1 T.2.2 (⟨a1_0, a1_1, a1_2, ⟨⟨a1_3, a1_4⟩, a1_5, a1_6, a1_7⟩⟩ : S38) w0 w hg hR hgb hB.size hB hl 5 0 hrt rfl hor).mono (fin T.1 T.2.1 T.2.2 rfl ⟨hs, hl⟩)
   · rw [if_neg hor] at h
     have hno : a1_0 = IntKind.u64.wrap (T.2.1 + 1) := Decidable.not_not.1 (fun h => hor (.inl h))
     have hti : ¬ a1_1 < T.2.2 := fun h => hor (.inr h)
     by_cases hit : rowHit T.1 a1_3 a1_4 = true
     · have hit2 := hit
       unfold rowHit at hit2
       rw [Bool.and_eq_true, decide_eq_true_iff, beq_iff_eq] at hit2; obtain ⟨hlt, h0⟩ := hit2
       by_cases hgn : a1_2 = true
       · rw [if_pos hgn] at h
         by_cases hh : (rd_T43 T.1 (rowPos T.1 a1_3 a1_4 : Int)).f1 = true
         · rw [if_pos ⟨hit, hh⟩] at h; obtain ⟨rfl, rfl⟩ := Prod.mk.inj (Option.some.inj h); exact (table_Table_Apply.gone g w0.heap.size v T.1 T.2.1 T.2.2 (⟨a1_0, a1_1, a1_2, ⟨⟨a1_3, a1_4⟩, a1_5, a1_6, a1_7⟩⟩ : S38) w0 w hg hR hgb hB.size hB hl 5 hrt hno hti (rowPos T.1 a1_3 a1_4) (fun j => cmpI (rd_T43 T.1 (j : Int)).f0.f0 (rd_T43 T.1 (j : Int)).f0.f1 a1_3 a1_4) hp hc hgn hlt h0 hh).mono (fin _ _ _ rfl ⟨rowSet_srt T.1 _ _ hs hlt (by rw [rd_cast T.1 _ hlt]) (by rw [rd_cast T.1 _ hlt]), by rw [List.length_set]; exact hl⟩)
         · rw [if_neg (fun h => hh h.2)] at h; obtain ⟨rfl, rfl⟩ := Prod.mk.inj (Option.some.inj h); exact (table_Table_Apply.none2 g w0.heap.size v T.1 T.2.1 T.2.2 (⟨a1_0, a1_1, a1_2, ⟨⟨a1_3, a1_4⟩, a1_5, a1_6, a1_7⟩⟩ : S38) w0 w hg hR hgb hB.size hB hl 5 hrt hno hti (rowPos T.1 a1_3 a1_4) (fun j => cmpI (rd_T43 T.1 (j : Int)).f0.f0 (rd_T43 T.1 (j : Int)).f0.f1 a1_3 a1_4) hp hc hgn hlt h0 (by simpa using hh)).mono (fin T.1 T.2.1 T.2.2 rfl ⟨hs, hl⟩)
       · rw [if_neg hgn, if_pos hit] at h; obtain ⟨⟨b0, b1⟩, hb, h⟩ := Option.bind_eq_some_iff.mp h; obtain ⟨rfl, rfl⟩ := Prod.mk.inj (Option.some.inj h); exact (table_Table_Apply.there g w0.heap.size v T.1 T.2.1 T.2.2 (⟨a1_0, a1_1, a1_2, ⟨⟨a1_3, a1_4⟩, a1_5, a1_6, a1_7⟩⟩ : S38) w0 w hg hR hgb hB.size hB hl 5 hrt hno hti (rowPos T.1 a1_3 a1_4) (fun j => cmpI (rd_T43 T.1 (j : Int)).f0.f0 (rd_T43 T.1 (j : Int)).f0.f1 a1_3 a1_4) hp hc (by simpa using hgn) hlt h0 b0 b1 hb).mono (fin _ _ _ rfl ⟨rowSet_srt T.1 _ _ hs hlt (by rw [rd_cast T.1 _ hlt]) (by rw [rd_cast T.1 _ hlt]), by rw [List.length_set]; exact hl⟩)
     · have hmiss : rowHit T.1 a1_3 a1_4 = false := by simpa using hit
       by_cases hgn : a1_2 = true
       · rw [if_pos hgn, if_neg (fun h => hit h.1)] at h; obtain ⟨rfl, rfl⟩ := Prod.mk.inj (Option.some.inj h); exact (table_Table_Apply.none1 g w0.heap.size v T.1 T.2.1 T.2.2 (⟨a1_0, a1_1, a1_2, ⟨⟨a1_3, a1_4⟩, a1_5, a1_6, a1_7⟩⟩ : S38) w0 w hg hR hgb hB.size hB hl 5 hrt hno hti (rowPos T.1 a1_3 a1_4) (fun j => cmpI (rd_T43 T.1 (j : Int)).f0.f0 (rd_T43 T.1 (j : Int)).f0.f1 a1_3 a1_4) hp hc hgn hmiss).mono (fin T.1 T.2.1 T.2.2 rfl ⟨hs, hl⟩)
       · rw [if_neg hgn, if_neg hit] at h
         by_cases hful : 256 ≤ T.1.length
         · rw [if_pos hful] at h; obtain ⟨rfl, rfl⟩ := Prod.mk.inj (Option.some.inj h); exact (table_Table_Apply.full g w0.heap.size v T.1 T.2.1 T.2.2 (⟨a1_0, a1_1, a1_2, ⟨⟨a1_3, a1_4⟩, a1_5, a1_6, a1_7⟩⟩ : S38) w0 w hg hR hgb hB.size hB hl 5 hrt hno hti (rowPos T.1 a1_3 a1_4) (fun j => cmpI (rd_T43 T.1 (j : Int)).f0.f0 (rd_T43 T.1 (j : Int)).f0.f1 a1_3 a1_4) hp hc (by simpa using hgn) hmiss hful).mono (fin T.1 T.2.1 T.2.2 rfl ⟨hs, hl⟩)
         · rw [if_neg hful] at h; obtain ⟨⟨b0, b1⟩, hb, h⟩ := Option.bind_eq_some_iff.mp h; obtain ⟨rfl, rfl⟩ := Prod.mk.inj (Option.some.inj h); refine (table_Table_Apply.new g w0.heap.size v T.1 T.2.1 T.2.2 (⟨a1_0, a1_1, a1_2, ⟨⟨a1_3, a1_4⟩, a1_5, a1_6, a1_7⟩⟩ : S38) w0 w hg hR hgb hB.size hB hl 5 hrt hno hti (rowPos T.1 a1_3 a1_4) (fun j => cmpI (rd_T43 T.1 (j : Int)).f0.f0 (rd_T43 T.1 (j : Int)).f0.f1 a1_3 a1_4) hp hc (by simpa using hgn) hmiss hful b0 b1 hb).mono (fin _ _ _ rfl ⟨rowIns_srt T.1 ⟨⟨a1_3, a1_4⟩, true, ⟨⟨a1_3, a1_4⟩, a1_5, a1_6, a1_7⟩, ⟨b0, b1⟩⟩ hs hmiss, ?_⟩); simp only [List.length_append, List.length_take, List.length_cons, List.length_drop]; omega
 · rw [if_neg h0] at h; obtain ⟨rfl, rfl⟩ := Prod.mk.inj (Option.some.inj h); exact (table_Table_Apply.bad g w0.heap.size v T.1 T.2.1 T.2.2 (⟨a1_0, a1_1, a1_2, ⟨⟨a1_3, a1_4⟩, a1_5, a1_6, a1_7⟩⟩ : S38) w0 w hg hR hgb hB.size hB hl 5 er hrt h0).mono (fin T.1 T.2.1 T.2.2 rfl ⟨hs, hl⟩)

end Go.Proofs.Ytmkjgiejnlmncaa.QTableBytes
