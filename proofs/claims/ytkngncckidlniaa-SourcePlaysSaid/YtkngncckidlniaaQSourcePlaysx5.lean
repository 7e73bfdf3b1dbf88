-- Lines by a program of this session, for this claim.
import Derived.Test.YtkngncckidlniaaQSourcePlaysx0
import Derived.Test.YtkngncckidlniaaQSourcePlaysx2
import Derived.Test.YtkngncckidlniaaQSourcePlaysx3
namespace Go.Proofs.Ytkngncckidlniaa.QSourcePlays
open Go.RowKit Go.Proofs.YtkngncckidlniaaW.PrintWords Go.Proofs.YtkngncckidlniaaW.PrintLast Go.Proofs.YtkngncckidlniaaW.PrintMore
attribute [local go_sem] max2_int min2_int max_two min_two max_three min_three max_four min_four   -- for this text's walks alone
set_option linter.unusedVariables false
set_option linter.unusedSimpArgs false

/-! ### source_Source_Lower: function 9 -/
def source_Source_Lower.Fr (w w' : World) : Prop := w.heap.size ≤ w'.heap.size ∧ ∀ (k t : Nat) (cs : Array Value), w.heap[k]? = some (.cells cs t (0, 0)) → t ≠ 64 → t ≠ 71 → w'.heap[k]? = w.heap[k]?
theorem source_Source_Lower.Fr_below {w w' : World} (h : Below w.heap.size w w') : source_Source_Lower.Fr w w' := ⟨h.size, fun k t cs hk _ _ => h.block k (by
  rcases Nat.lt_or_ge k w.heap.size with hlt | hge
  · exact hlt
  · rw [Array.getElem?_eq_none hge] at hk; cases hk)⟩
theorem source_Source_Lower.Fr_trans {w w1 w2 : World} (h : source_Source_Lower.Fr w w1) (h' : source_Source_Lower.Fr w1 w2) : source_Source_Lower.Fr w w2 := ⟨Nat.le_trans h.1 h'.1, fun k t cs hk h1 h2 => by
  have e := h.2 k t cs hk h1 h2
  rw [h'.2 k t cs (e.trans hk) h1 h2, e]⟩
theorem source_Source_Lower.Fr_grown {w w' : World} {v : Value} {l : List S71} {b : Nat} {ok : Nat → Prop} (hR : k71.R 71 w b ok v l) (h : w.grownBy w' v.ownBlock) : source_Source_Lower.Fr w w' := ⟨h.size, fun k t cs hk _ h2 => h.block k (by
  rcases Nat.lt_or_ge k w.heap.size with hlt | hge
  · exact hlt
  · rw [Array.getElem?_eq_none hge] at hk; cases hk) (Kd.R_ne hR hk (fun e => h2 e.symm))⟩
/-- `copy` where an element fills `s` cells: the row's cells from `o` on hold the source's. -/
theorem source_Source_Lower.run_copy_rowN {P : Program} (w : World) (dT sT ty elem : TypeId) (s g o dLen dCap : Nat) (a : Addr) (sLen sCap : Nat) (cur : Array Value) (t : TypeId) (cs : List Value)
    (hu : P.underlying dT = some (.slice elem)) (hs : (P.info? elem).map (·.size) = some s)
    (hg : w.heap[g]? = some (.cells cur t (0, 0))) (hn : cs.length = Nat.min sLen dLen * s)
    (hsrc : ∀ j v, cs[j]? = some v → w.cell? (a.add j) = some v) (hfit : o + cs.length ≤ cur.size) (h1 : ∀ v ∈ cs, v.oneCell' = true) :
    (Builtin.copy_ #[dT, sT] ty #[.slice (some ⟨g, o, none⟩) dLen dCap, .slice (some a) sLen sCap]).run P w =
      .ok (goInt (Nat.min sLen dLen)) (w.setRow g (cur.toList.take o ++ cs ++ cur.toList.drop (o + cs.length)).toArray) := by
  have hl := run_loadCells_list (P := P) w a cs hsrc
  have hst := run_storeCells_at P g o t cs 0 cur w hg (by simpa using hfit) h1
  cases hq : P.info? elem with
  | none => simp [hq] at hs
  | some i =>
    have hi : i.size = s := by simpa [hq] using hs
    simp [Builtin.copy_, run_underlying hu, Builtin.lenOf, Builtin.firstCells, sizeOf, typeInfo, hq, hi, ← hn, hl, hst]
theorem source_Source_Lower.lists {α : Type} (C vs mv D : List α) (a b c : Nat) (h : a + vs.length = b) (hb : b ≤ C.length) (hc : c = b) :
    (C.take b ++ mv ++ D).take a ++ (vs ++ (C.take b ++ mv ++ D).drop c) = C.take a ++ vs ++ mv ++ D := by
  subst hc
  have hl : (C.take c).length = c := by rw [List.length_take]; omega
  rw [List.append_assoc (C.take c), List.take_append_of_le_length (by omega), List.take_take, Nat.min_eq_left (by omega), List.drop_left' hl]
  simp only [List.append_assoc]
theorem source_Source_Lower.one1 {α : Type} {R : α → List Value → Prop} {size : Nat} {ps : List α} {cs : List Value} (h : Reps R size ps cs) (hs : 0 < size) (hR : ∀ x c, R x c → ∀ u ∈ c, u.oneCell' = true) : ∀ u ∈ cs, u.oneCell' = true := by
  intro u hu
  obtain ⟨p, hp, rfl⟩ := List.mem_iff_getElem.1 hu
  have h1 : p / size < ps.length := (Nat.div_lt_iff_lt_mul hs).2 (by rw [← h.1]; exact hp)
  refine hR _ _ (h.2 (p / size) _ (List.getElem?_eq_getElem h1)) _ (List.mem_iff_getElem?.2 ⟨p % size, ?_⟩)
  rw [List.getElem?_take, if_pos (Nat.mod_lt _ hs), List.getElem?_drop, Nat.mul_comm, Nat.div_add_mod, List.getElem?_eq_getElem hp]
set_option maxHeartbeats 4000000 in
set_option maxRecDepth 100000 in
theorem source_Source_Lower.shift (g n c i vb vc : Nat) (cur : Array Value) (vs : List Value) (w : World) (hi : i < n) (hroom : n + 1 ≤ c) (hc63 : c ≤ 9223372036854775807) (hvb : vb ≠ g)
    (hg : w.heap[g]? = some (.cells cur 71 (0, 0))) (hcur : c * 4 ≤ cur.size) (hvl : vs.length = 4) (h1c : ∀ v ∈ cur.toList.take (n * 4), v.oneCell' = true) (h1v : ∀ v ∈ vs, v.oneCell' = true)
    (vcur : Array Value) (tv : TypeId) (hgv : w.heap[vb]? = some (.cells vcur tv (0, 0))) (hvs : ∀ j v, vs[j]? = some v → w.cell? ⟨vb, j, none⟩ = some v) :
    Calls Try.prog 25 #[.slice (some ⟨g, 0, none⟩) n c, .int .i64 i, .slice (some ⟨vb, 0, none⟩) 1 vc] w fun e w' =>
      e = .returned (.slice (some ⟨g, 0, none⟩) (n + 1) c) ∧ w' = w.drew.setRow g (cur.toList.take (i * 4) ++ vs ++ (cur.toList.drop (i * 4)).take ((n - i) * 4) ++ cur.toList.drop ((n + 1) * 4)).toArray := by
  have hov : ∀ lb cb, (callFunc 36 #[.slice (some ⟨vb, 0, none⟩) 1 vc, .slice (some ⟨g, (i + 1) * 4, none⟩) lb cb]).run Try.prog w = .ok (.value (.bool false)) w := fun lb cb => by
    rw [run_callFunc_extern Try.func36 (by kernel_rfl) (by kernel_rfl) (by kernel_rfl) (e := Extern.SlicesOverlaps.overlaps #[62, 62] #[4]) (by kernel_rfl),
      Lib.run_overlaps_apart w 62 4 71 Try.underlying62 4 (fun w => by rfl) ⟨vb, 0, none⟩ ⟨g, (i + 1) * 4, none⟩ 1 vc lb cb hvb tv 71 vcur.size cur.size (by simp [World.shape?, hgv]) (by simp [World.shape?, hg]) (by omega) (by simp [World.frozen?, hgv]) (by simp [World.frozen?, hgv])]
    rfl
  obtain ⟨mv, hmv⟩ : ∃ mv, mv = (cur.toList.drop (i * 4)).take ((n - i) * 4) := ⟨_, rfl⟩
  have hml : mv.length = (n - i) * 4 := by
    rw [hmv, List.length_take, List.length_drop, Array.length_toList]
    omega
  have hmi : ∀ v ∈ mv, v ∈ cur.toList.take (n * 4) := fun v hv => by
    rw [hmv, show (n - i) * 4 = n * 4 - i * 4 from by omega, ← List.drop_take] at hv
    exact List.mem_of_mem_drop hv
  have hsz : (Try.prog.info? 71).map (·.size) = some 4 := by kernel_rfl
  have hcp1 : ∀ ty dc sc, (Builtin.copy_ #[62, 62] ty #[.slice (some ⟨g, (i + 1) * 4, none⟩) (n - i) dc, .slice (some ⟨g, i * 4, none⟩) (n + 1 - i) sc]).run Try.prog w.drew = .ok (goInt (Nat.min (n + 1 - i) (n - i))) (w.drew.setRow g (cur.toList.take ((i + 1) * 4) ++ mv ++ cur.toList.drop ((i + 1) * 4 + mv.length)).toArray) := fun ty dc sc =>
    source_Source_Lower.run_copy_rowN w.drew 62 62 ty 71 4 g ((i + 1) * 4) _ dc ⟨g, i * 4, none⟩ _ sc cur 71 mv Try.underlying62 hsz hg (by rw [hml, show Nat.min (n + 1 - i) (n - i) = n - i from Nat.min_eq_right (by omega) |>.trans (by omega)])
      (fun j v hj => by
        rw [hmv, List.getElem?_take] at hj
        split at hj
        · rw [List.getElem?_drop, Array.getElem?_toList] at hj
          rw [Addr.add_lit]
          show w.cell? _ = _
          simp [World.cell?, hg, hj]
        · cases hj) (by rw [hml]; omega) (fun v hv => h1c v (hmi v hv))
  obtain ⟨W1, hW1⟩ : ∃ W1, W1 = w.drew.setRow g (cur.toList.take ((i + 1) * 4) ++ mv ++ cur.toList.drop ((i + 1) * 4 + mv.length)).toArray := ⟨_, rfl⟩
  rw [← hW1] at hcp1
  have HW1 := Aside0.mk hW1
  have HMV := Aside0.mk hmv
  clear hW1 hmv
  obtain ⟨R1, hR1⟩ : ∃ R1 : Array Value, R1 = (cur.toList.take ((i + 1) * 4) ++ mv ++ cur.toList.drop ((i + 1) * 4 + mv.length)).toArray := ⟨_, rfl⟩
  have hg1 : W1.heap[g]? = some (.cells R1 71 (0, 0)) := by
    rw [HW1.out, hR1]
    exact setRow_heap w.drew g cur _ 71 _ hg
  have hR1s : R1.size = cur.size := by
    rw [hR1]
    simp only [List.size_toArray, List.length_append, List.length_take, List.length_drop, Array.length_toList, hml]
    omega
  have hv1 : ∀ j v, vs[j]? = some v → W1.cell? ⟨vb, j, none⟩ = some v := fun j v hj => by
    rw [← hvs j v hj, HW1.out]
    exact cell_setRow_other w.drew g _ ⟨vb, j, none⟩ hvb
  have hcp2 : ∀ (W : World), W.heap = W1.heap → ∀ ty dc, (Builtin.copy_ #[62, 62] ty #[.slice (some ⟨g, i * 4, none⟩) (n + 1 - i) dc, .slice (some ⟨vb, 0, none⟩) 1 vc]).run Try.prog W = .ok (goInt (Nat.min 1 (n + 1 - i))) (W.setRow g (R1.toList.take (i * 4) ++ vs ++ R1.toList.drop (i * 4 + vs.length)).toArray) := fun W hW ty dc =>
    source_Source_Lower.run_copy_rowN W 62 62 ty 71 4 g (i * 4) _ dc ⟨vb, 0, none⟩ _ vc R1 71 vs Try.underlying62 hsz (by rw [hW]; exact hg1) (by rw [hvl, show Nat.min 1 (n + 1 - i) = 1 from Nat.min_eq_left (by omega)])
      (fun j v hj => by
        rw [Addr.add_lit, ← hv1 j v hj]
        simp [World.cell?, hW]) (by rw [hvl, hR1s]; omega) h1v
  have HR1 := Aside0.mk hR1
  clear hR1
  have mixed : Try.prog.follows Departure.mixedOrders = true := by kernel_rfl
  have hw1 : IntKind.i64.wrap ((i : Int) + 1) = (i : Int) + 1 := by rw [IntKind.wrap_i64]; omega
  have hb1 : (0 : Int) ≤ (i : Int) + 1 := by omega
  have hin : i ≤ n := by omega
  have hin1 : i < n + 1 := by omega
  have htn : ((i : Int) + 1).toNat = i + 1 := by omega
  have hb2 : ¬ (c = i + 1) := by omega
  have hb3 : (i : Int) ≤ (n : Int) + 1 := by omega
  have hb5 : (i : Int) + 1 ≤ (n : Int) + 1 := by omega
  have hb4 : ¬ (c = i) := by omega
  go_enter Try.func25, Try.ntmps25
  go_wp2_with (simp only [hov])
  go_region_law_o (refine step_copy_runI rfl _ _ 62 62 rfl _ _ (by simp [Act.eval, Act.put]) (by simp [Act.eval, Act.put]) (hcp1 _ _ _) ?_)
  go_wp2_with (at_builtin; refine wpList_copy_runI _ rfl _ _ 62 62 rfl _ _ rfl rfl (hcp2 _ rfl _ _) ?_)
  go_ret
  refine ⟨rfl, ?_⟩
  rw [HW1.out, setRow_setRow]
  congr 2
  rw [HR1.out, List.toList_toArray]
  refine (source_Source_Lower.lists cur.toList vs mv _ (i * 4) ((i + 1) * 4) (i * 4 + 4) (by rw [hvl]; omega) (by rw [Array.length_toList]; omega) (by omega)).trans ?_
  rw [HMV.out, List.length_take, List.length_drop, Array.length_toList]
  congr 2
  omega
set_option maxHeartbeats 4000000 in
set_option maxRecDepth 100000 in
theorem source_Source_Lower.grow (g n c i vb vc : Nat) (cur : Array Value) (vs : List Value) (w : World) (hi : i < n) (hnc : n ≤ c) (hroom : c < n + 1) (hn : n ≤ 1000)
    (hg : w.heap[g]? = some (.cells cur 71 (0, 0))) (hcur : n * 4 ≤ cur.size) (hvl : vs.length = 4) (h1c : ∀ v ∈ cur.toList.take (n * 4), v.oneCell' = true) (h1v : ∀ v ∈ vs, v.oneCell' = true)
    (hvb : vb < w.heap.size) (hvs : ∀ j v, vs[j]? = some v → w.cell? ⟨vb, j, none⟩ = some v) :
    Calls Try.prog 25 #[.slice (some ⟨g, 0, none⟩) n c, .int .i64 i, .slice (some ⟨vb, 0, none⟩) 1 vc] w fun e w' =>
      e = .returned (.slice (some ⟨w.heap.size, 0, none⟩) (n + 1) (grownCap w (n + 1) c 71)) ∧ ∃ R2 : Array Value, w' = (w.alloc (.cells R2 71)).drew.drew ∧ R2.size = grownCap w (n + 1) c 71 * 4 ∧ R2.toList.take ((n + 1) * 4) = cur.toList.take (i * 4) ++ vs ++ (cur.toList.drop (i * 4)).take ((n - i) * 4) := by
  have hinfo : (Try.prog.info? 71).map (fun i => (i.zero, i.size, i.bytes)) = some (some (.agg #[.int .u32 0, .int .u8 0, .int .u16 0, .int .u16 0] : Value), 4, 12) := by kernel_rfl
  obtain ⟨i0, hi0, hz0, hzs, hzb⟩ := info_parts hinfo
  have hsz : (Try.prog.info? 71).map (·.size) = some 4 := by kernel_rfl
  have hgw : g < w.heap.size := Nat.lt_of_not_le fun h => by rw [Array.getElem?_eq_none h] at hg; cases hg
  have hkk : (n : Int) + 1 - (i : Int) = ((n + 1 - i : Nat) : Int) := by omega
  have hik : i + (n + 1 - i) = n + 1 := by omega
  have hzc : ∀ k, (Builtin.zeroCells (.agg #[.int .u32 0, .int .u8 0, .int .u16 0, .int .u16 0] : Value).cells k).size = k * 4 := fun k => by
    simp only [Builtin.zeroCells, Array.size_map, Array.size_range]
    rfl
  obtain ⟨olds, holds⟩ : ∃ olds, olds = cur.toList.take (i * 4) := ⟨_, rfl⟩
  have hol : olds.length = i * 4 := by rw [holds, List.length_take, Array.length_toList]; omega
  have hold : (Builtin.firstCells i0.size i (.slice (some ⟨g, 0, none⟩) i c)).run Try.prog w.drew = .ok olds.toArray w.drew := by
    rw [hzs]
    exact run_firstCells_some w.drew 4 i ⟨g, 0, none⟩ i c olds hol (fun j v hj => by
      rw [holds, List.getElem?_take] at hj
      split at hj
      · rw [Array.getElem?_toList] at hj
        rw [Addr.add_lit]
        show w.cell? _ = _
        simp [World.cell?, hg, hj]
      · cases hj)
  have hrz : ∀ ty, (Builtin.append_ #[62, 3] ty #[.slice (some ⟨g, 0, none⟩) i c, .int .i64 ((n : Int) + 1 - (i : Int))]).run Try.prog w =
      .ok (.slice (some ⟨w.heap.size, 0, none⟩) (n + 1) (grownCap w (n + 1) c 71)) (w.drew.alloc (.cells (olds.toArray ++ Builtin.zeroCells (.agg #[.int .u32 0, .int .u8 0, .int .u16 0, .int .u16 0] : Value).cells (n + 1 - i) ++ Builtin.zeroCells (.agg #[.int .u32 0, .int .u8 0, .int .u16 0, .int .u16 0] : Value).cells (grownCap w (n + 1) c 71 - (n + 1))) 71)) := fun ty => by
    have h := Lib.run_append_grow_zeros w 62 3 ty 71 i0 _ .i64 .i64 Try.underlying62 Try.underlying3 hi0 hz0 (some ⟨g, 0, none⟩) i c olds hold (n + 1 - i) (by omega) (by omega) (by omega) (by omega) (by rw [hzb]; omega) (by rw [hzb, hik]; exact growslice_fits hroom (by omega))
    rw [hik] at h
    rw [hkk]
    exact h
  obtain ⟨G, hG⟩ : ∃ G, G = grownCap w (n + 1) c 71 := ⟨_, rfl⟩
  obtain ⟨ROW, hROW⟩ : ∃ ROW : Array Value, ROW = olds.toArray ++ Builtin.zeroCells (.agg #[.int .u32 0, .int .u8 0, .int .u16 0, .int .u16 0] : Value).cells (n + 1 - i) ++ Builtin.zeroCells (.agg #[.int .u32 0, .int .u8 0, .int .u16 0, .int .u16 0] : Value).cells (G - (n + 1)) := ⟨_, rfl⟩
  rw [← hG] at hrz ⊢
  rw [← hROW] at hrz
  have hGn : n + 1 ≤ G := by rw [hG]; exact grownCap_ge w _ _ _
  have hG63 : G ≤ 9223372036854775807 := by
    have := grownCap_le_maxLen w (n + 1) c 71 (by unfold maxLen; omega)
    rw [← hG] at this
    unfold maxLen at this
    omega
  have hRs : ROW.size = G * 4 := by
    rw [hROW]
    simp only [Array.size_append, List.size_toArray, hzc, hol]
    omega
  have hRt : ROW.toList.take (i * 4) = olds := by
    rw [hROW]
    simp only [Array.toList_append, List.append_assoc]
    rw [List.take_append_of_le_length (by omega), ← hol, List.take_length]
  obtain ⟨mv, hmv⟩ : ∃ mv, mv = (cur.toList.drop (i * 4)).take ((n - i) * 4) := ⟨_, rfl⟩
  have hml : mv.length = (n - i) * 4 := by
    rw [hmv, List.length_take, List.length_drop, Array.length_toList]
    omega
  have hmi : ∀ v ∈ mv, v ∈ cur.toList.take (n * 4) := fun v hv => by
    rw [hmv, show (n - i) * 4 = n * 4 - i * 4 from by omega, ← List.drop_take] at hv
    exact List.mem_of_mem_drop hv
  obtain ⟨R1, hR1⟩ : ∃ R1 : Array Value, R1 = (ROW.toList.take (i * 4) ++ vs ++ ROW.toList.drop (i * 4 + vs.length)).toArray := ⟨_, rfl⟩
  have hR1s : R1.size = G * 4 := by
    rw [hR1]
    simp only [List.size_toArray, List.length_append, List.length_take, List.length_drop, Array.length_toList, hvl, hRs]
    omega
  obtain ⟨R2, hR2⟩ : ∃ R2 : Array Value, R2 = (R1.toList.take ((i + 1) * 4) ++ mv ++ R1.toList.drop ((i + 1) * 4 + mv.length)).toArray := ⟨_, rfl⟩
  have hR2s : R2.size = G * 4 := by
    rw [hR2]
    simp only [List.size_toArray, List.length_append, List.length_take, List.length_drop, Array.length_toList, hml, hR1s]
    omega
  have hR2t : R2.toList.take ((n + 1) * 4) = cur.toList.take (i * 4) ++ vs ++ mv := by
    have e1 : R1.toList.take ((i + 1) * 4) = olds ++ vs := by
      rw [hR1, hRt, List.toList_toArray, show (i + 1) * 4 = (olds ++ vs).length from by rw [List.length_append, hol, hvl]; omega, List.take_left]
    rw [hR2, List.toList_toArray, e1, show (n + 1) * 4 = (olds ++ vs ++ mv).length from by simp only [List.length_append, hol, hvl, hml]; omega, List.take_left, holds]
  have hcpA : ∀ (W : World), W.heap = (w.alloc (.cells ROW 71)).heap → ∀ ty dc, (Builtin.copy_ #[62, 62] ty #[.slice (some ⟨w.heap.size, i * 4, none⟩) (n + 1 - i) dc, .slice (some ⟨vb, 0, none⟩) 1 vc]).run Try.prog W = .ok (goInt (Nat.min 1 (n + 1 - i))) (W.setRow w.heap.size R1) := fun W hW ty dc => by
    rw [hR1]
    exact source_Source_Lower.run_copy_rowN W 62 62 ty 71 4 w.heap.size (i * 4) _ dc ⟨vb, 0, none⟩ _ vc ROW 71 vs Try.underlying62 hsz (by rw [hW]; exact heap_alloc_new w _) (by rw [hvl, show Nat.min 1 (n + 1 - i) = 1 from Nat.min_eq_left (by omega)])
      (fun j v hj => by
        rw [Addr.add_lit]
        rw [← hvs j v hj, Nat.zero_add]
        exact World.cell?_of_block (w := w) (w' := W) (a := ⟨vb, j, none⟩) ((congrArg (fun h => h[vb]?) hW).trans (((Below.refl w.heap.size w).alloc (Nat.le_refl _) (.cells ROW 71)).block vb hvb))) (by rw [hvl, hRs]; omega) h1v
  have hcpB : ∀ (W : World), W.heap = ((w.alloc (.cells ROW 71)).setRow w.heap.size R1).heap → ∀ ty dc sc, (Builtin.copy_ #[62, 62] ty #[.slice (some ⟨w.heap.size, (i + 1) * 4, none⟩) (n - i) dc, .slice (some ⟨g, i * 4, none⟩) (n - i) sc]).run Try.prog W = .ok (goInt (Nat.min (n - i) (n - i))) (W.setRow w.heap.size R2) := fun W hW ty dc sc => by
    rw [hR2]
    exact source_Source_Lower.run_copy_rowN W 62 62 ty 71 4 w.heap.size ((i + 1) * 4) _ dc ⟨g, i * 4, none⟩ _ sc R1 71 mv Try.underlying62 hsz (by rw [hW]; exact setRow_heap (w.alloc (.cells ROW 71)) w.heap.size ROW R1 71 _ (heap_alloc_new w _)) (by rw [hml, show Nat.min (n - i) (n - i) = n - i from Nat.min_self _])
      (fun j v hj => by
        rw [Addr.add_lit]
        rw [hmv, List.getElem?_take] at hj
        split at hj
        · rw [List.getElem?_drop, Array.getElem?_toList] at hj
          have e0 : W.heap[g]? = some (.cells cur 71 (0, 0)) := by
            rw [hW, setRow_other _ _ _ _ (Nat.ne_of_lt hgw), ← hg]
            exact ((Below.refl w.heap.size w).alloc (Nat.le_refl _) (.cells ROW 71)).block g hgw
          simp [World.cell?, e0, hj]
        · cases hj) (by rw [hml, hR1s]; omega) (fun v hv => h1c v (hmi v hv))
  have HR2s := Aside0.mk hR2s
  have HR2t := Aside0.mk hR2t
  have HMV := Aside0.mk hmv
  have mixed : Try.prog.follows Departure.mixedOrders = true := by kernel_rfl
  have hw1 : IntKind.i64.wrap ((i : Int) + 1) = (i : Int) + 1 := by rw [IntKind.wrap_i64]; omega
  have hb1 : (0 : Int) ≤ (i : Int) + 1 := by omega
  have hin : i ≤ n := by omega
  have hin1 : i ≤ c := by omega
  have htn : ((i : Int) + 1).toNat = i + 1 := by omega
  have hb3 : (i : Int) ≤ (n : Int) := by omega
  have hGi : ¬ (G = i) := by omega
  have hGim : ¬ (G = i + 1) := by omega
  have hci : ¬ (c = i) := by omega
  have hz3 : (c : Int) < (n : Int) + 1 := by omega
  clear hkk hik hold hROW hG hRs hRt hR1 hR1s hR2 hR2s hR2t hmv hml hmi holds hol hzc
  have hA := hcpA (w.alloc (.cells ROW 71)).drew rfl
  have hB := hcpB ((w.alloc (.cells ROW 71)).drew.setRow w.heap.size R1).drew rfl
  clear hcpA hcpB
  go_enter Try.func25, Try.ntmps25
  go_wp2_with (first
    | (at_builtin; refine Lib.wpList_append_run _ rfl _ _ _ _ rfl _ _ rfl rfl _ _ (hrz _) ?_)
    | fail)
  go_region_law_o (refine step_copy_runI rfl _ _ 62 62 rfl (.slice (some ⟨w.heap.size, (i + 1) * 4, none⟩) (n - i) (G - (i + 1))) (.slice (some ⟨g, i * 4, none⟩) (n - i) (c - i)) (by simp [Act.eval, Act.put]) (by simp [Act.eval, Act.put]) (hB _ _ _) ?_)
  go_wp2
  go_ret
  exact ⟨rfl, R2, by show (((w.alloc (.cells ROW 71)).setRow w.heap.size R1).setRow w.heap.size R2).drew.drew = _; rw [setRow_setRow, World.setRow_alloc_new], HR2s.out, by rw [HR2t.out, HMV.out]⟩
set_option maxHeartbeats 4000000 in
set_option maxRecDepth 100000 in
theorem source_Source_Lower.ins (v : Value) (l : List S71) (x : S71) (Ax : Option Addr) (cx b : Nat) (w0 w : World) (hR : k71.R 71 w b (fun _ => True) v l) (hx : Kd.C k71 w Ax 1 [x]) (hl : l.length ≤ 1000) (hB : Below b w0 w) (hb : b ≤ w.heap.size) :
    Calls Try.prog 25 #[v, .int .i64 l.length, .slice Ax 1 cx] w fun e w' => ∃ v', e = .returned v' ∧ k71.R 71 w' b (fun _ => True) v' (l ++ [x]) ∧ Below b w0 w' ∧ w.grownBy w' v.ownBlock := by
  obtain ⟨A, c, rfl, hlc, hC⟩ := Kd.R_reads hR
  have HR := Aside0.mk hR
  have HX := Aside0.mk hx
  have HB := Aside0.mk hB
  clear hR hx hB hC
  go_enter Try.func25, Try.ntmps25
  have q1 : decide (0 ≤ (l.length : Int)) = true := decide_eq_true (by omega)
  have q2 : decide ((l.length : Int) ≤ (c : Int)) = true := decide_eq_true (by omega)
  go_wp2_with ((with_reducible refine gate_builtin (b := .append) (xs := #[.tmp 23, .tmp 24]) rfl ?_); at_builtin; refine Kd.R_append_rows k71 (w0 := w0) b rfl (.tmp 23) (.tmp 24) 62 71 (.agg #[.int .u32 0, .int .u8 0, .int .u16 0, .int .u16 0]) 12 rfl Try.underlying62 (by kernel_rfl) rfl (by decide) (by omega) (.slice A l.length c) l [x] Ax 1 cx (fun _ => True) (fun _ => False) rfl rfl HR.out HX.out (fun x cs hk => by rw [k71_open hk]; exact k71_mkM w b _ x) (fun _ h => h.elim) (fun _ _ => trivial) HB.out hb (by omega) ?_; intro v1 w1 hR1 hB1 hG1 _)
  all_goals
    go_ret
    first
      | exact ⟨v1, rfl, hR1, hB1, hG1⟩
      | exact ⟨v1, rfl, hR1, hB1, by rw [show (Value.slice A l.length l.length).ownBlock = (Value.slice A l.length c).ownBlock from by cases A <;> rfl]; exact hG1⟩
/-- slices.Insert of one element: the row with it at place i. -/
theorem source_Source_Lower.insert (v : Value) (l : List S71) (x : S71) (Ax : Option Addr) (cx b bx i : Nat) (w0 w : World) (hR : k71.R 71 w b (fun _ => True) v l) (hX : k71.R 71 w bx (fun _ => True) (.slice Ax 1 cx) [x]) (hvx : ∀ k, v.ownBlock = some k → k < bx) (hl : l.length ≤ 1000) (hi : i ≤ l.length) (hB : Below b w0 w) (hb : b ≤ w.heap.size) :
    Calls Try.prog 25 #[v, .int .i64 i, .slice Ax 1 cx] w fun e w' => ∃ v', e = .returned v' ∧ k71.R 71 w' b (fun _ => True) v' (l.take i ++ x :: l.drop i) ∧ Below b w0 w' ∧ w.grownBy w' v.ownBlock := by
  rcases Nat.lt_or_ge i l.length with hlt | hge
  · obtain ⟨_, inner, ⟨hil, hcase⟩, hreps⟩ := hR
    obtain ⟨_, innx, ⟨hixl, hxcase⟩, hxreps⟩ := hX
    have hixl : innx.length = 4 := hixl
    have hil : inner.length = l.length * 4 := hil
    have one_ : ∀ (W : World) (bb : Nat) (okk : Nat → Prop) (x : S71) (c : List Value), k71.M W bb okk x c → ∀ u ∈ c, u.oneCell' = true := fun W bb okk x c h u hu => k71.K_one (k71.K_of_M h) u hu
    have ho1 : ∀ u ∈ inner, u.oneCell' = true := source_Source_Lower.one1 hreps (by decide) (one_ _ _ _)
    have ho2 : ∀ u ∈ innx, u.oneCell' = true := source_Source_Lower.one1 hxreps (by decide) (one_ _ _ _)
    have hnew : ∀ (W : World) (okk : Nat → Prop), Reps (k71.M W b okk) 4 (l.take i ++ x :: l.drop i) (inner.take (i * 4) ++ innx ++ inner.drop (i * 4)) := fun W okk => by
      rw [show l.take i ++ x :: l.drop i = (l.take i ++ [x]) ++ l.drop i from by simp]
      exact (Kd.reps_append (Kd.reps_append (Kd.reps_take (hreps.imp_ (fun x c h => by rw [k71_openM h]; exact k71_mkM W b okk x)) hi) (hxreps.imp_ (fun x c h => by rw [k71_openM h]; exact k71_mkM W b okk x))) (Kd.reps_drop (hreps.imp_ (fun x c h => by rw [k71_openM h]; exact k71_mkM W b okk x))))
    have hnl : (inner.take (i * 4) ++ innx ++ inner.drop (i * 4)).length = (l.take i ++ x :: l.drop i).length * 4 := (hnew w (fun _ => True)).1
    have hnn : (l.take i ++ x :: l.drop i).length = l.length + 1 := by
      simp only [List.length_append, List.length_take, List.length_cons, List.length_drop]; omega
    rcases hcase with ⟨_, h0⟩ | ⟨g, cap, cur, rfl, hbg, hg, hle, hcm, hcs, hct⟩
    · omega
    rcases hxcase with ⟨_, h0⟩ | ⟨gx, capx, curx, hvx', hbx, hgx, hlex, hcmx, hcsx, hctx⟩
    · simp at h0
    injection hvx' with e1 e2 e3
    subst e1 e3
    have hcs : cur.size = cap * 4 := hcs
    have hct : cur.toList.take (l.length * 4) = inner := hct
    have hctx : curx.toList.take 4 = innx := by rw [← hctx]; rfl
    have hk : g < bx := hvx g (by simp [Value.ownBlock])
    have hgx' : gx ≠ g := by omega
    have hgxl : gx < w.heap.size := Nat.lt_of_not_le fun h => by rw [Array.getElem?_eq_none h] at hgx; cases hgx
    have hvs : ∀ j v, innx[j]? = some v → w.cell? ⟨gx, j, none⟩ = some v := fun j v hj => by
      rw [← hctx, List.getElem?_take] at hj
      split at hj
      · rw [Array.getElem?_toList] at hj
        simp [World.cell?, hgx, hj]
      · cases hj
    have hmid : cur.toList.take (i * 4) ++ innx ++ (cur.toList.drop (i * 4)).take ((l.length - i) * 4) = inner.take (i * 4) ++ innx ++ inner.drop (i * 4) := by
      rw [← hct, List.take_take, List.drop_take, Nat.min_eq_left (by omega), show l.length * 4 - i * 4 = (l.length - i) * 4 from by omega]
    by_cases hroom : l.length + 1 ≤ cap
    · refine (source_Source_Lower.shift g l.length cap i gx cx cur innx w hlt hroom (by unfold maxLen at hcm; omega) hgx' hg (by omega) hixl (by rw [hct]; exact ho1) ho2 curx 71 hgx hvs).mono ?_
      rintro e w' ⟨rfl, rfl⟩
      rw [hmid]
      refine ⟨_, rfl, ⟨fun _ _ => trivial, inner.take (i * 4) ++ innx ++ inner.drop (i * 4), ⟨hnl, .inr ⟨g, cap, _, by rw [hnn], hbg, setRow_heap w.drew g cur _ 71 _ hg, by rw [hnn]; exact hroom, hcm, ?_, ?_⟩⟩, hnew _ _⟩, below_setRow (below_drew1 hB) hbg _, ⟨rfl, rfl, rfl, Nat.le_of_eq (setRow_size w.drew g _).symm, fun k hk hne => (setRow_other w.drew g k _ (fun e => hne (by rw [e]; rfl))).trans rfl⟩⟩
      · show _ = cap * 4
        rw [hnn] at hnl
        simp only [List.size_toArray, List.length_append, List.length_drop, Array.length_toList] at hnl ⊢
        omega
      · show List.take (_ * 4) _ = _
        rw [List.toList_toArray, ← hnl, List.take_left]
    · refine (source_Source_Lower.grow g l.length cap i gx cx cur innx w hlt hle (by omega) hl hg (by omega) hixl (by rw [hct]; exact ho1) ho2 hgxl hvs).mono ?_
      rintro e w' ⟨rfl, R2, rfl, hRs, hRt⟩
      rw [hmid] at hRt
      refine ⟨_, rfl, ⟨fun _ _ => trivial, inner.take (i * 4) ++ innx ++ inner.drop (i * 4), ⟨hnl, .inr ⟨w.heap.size, grownCap w (l.length + 1) cap 71, R2, by rw [hnn], hb, heap_alloc_new w _, by rw [hnn]; exact grownCap_ge w _ _ _, grownCap_le_maxLen w _ _ _ (by unfold maxLen; omega), hRs, by rw [hnn]; exact hRt⟩⟩, hnew _ _⟩, below_drew1 (below_drew1 (hB.alloc hb _)), ?_⟩
      exact ⟨rfl, rfl, rfl, ((Below.refl w.heap.size w).alloc (Nat.le_refl _) (.cells R2 71)).size, fun k hk _ => ((Below.refl w.heap.size w).alloc (Nat.le_refl _) (.cells R2 71)).block k hk⟩
  · obtain rfl : i = l.length := by omega
    obtain ⟨A', c', e', _, hC⟩ := Kd.R_reads hX
    injection e' with e1 _ e3
    subst e1 e3
    refine (source_Source_Lower.ins v l x Ax cx b w0 w hR hC hl hB hb).mono ?_
    rintro e w' ⟨v', rfl, h1, h2, h3⟩
    refine ⟨v', rfl, ?_, h2, h3⟩
    rw [List.take_length, List.drop_length]
    exact h1

def source_Source_Lower.lowE (rt : Bool) (mm : Int) (fd : Bool) (n : Nat) : Int := if rt = true ∧ mm ≠ 65535 then (if fd = true then 0 else if 256 ≤ n then 3 else 0) else 1
def source_Source_Lower.lowL (rt : Bool) (mm : Int) (fd : Bool) (l : List S71) (i : Nat) (y x : S71) : List S71 := if rt = true ∧ mm ≠ 65535 then (if fd = true then l.set i y else if 256 ≤ l.length then l else l.take i ++ x :: l.drop i) else l
theorem source_Source_Lower.lowE_no {rt : Bool} {mm : Int} (fd : Bool) (n : Nat) (h : ¬ (rt = true ∧ mm ≠ 65535)) : source_Source_Lower.lowE rt mm fd n = 1 := if_neg h
theorem source_Source_Lower.lowL_no {rt : Bool} {mm : Int} (fd : Bool) (l : List S71) (i : Nat) (y x : S71) (h : ¬ (rt = true ∧ mm ≠ 65535)) : source_Source_Lower.lowL rt mm fd l i y x = l := if_neg h
theorem source_Source_Lower.lowE_yes {mm : Int} {fd : Bool} (n : Nat) (h : mm ≠ 65535) (hf : fd = true) : source_Source_Lower.lowE true mm fd n = 0 := (if_pos ⟨rfl, h⟩).trans (if_pos hf)
theorem source_Source_Lower.lowL_yes {mm : Int} {fd : Bool} (l : List S71) (i : Nat) (y x : S71) (h : mm ≠ 65535) (hf : fd = true) : source_Source_Lower.lowL true mm fd l i y x = l.set i y := (if_pos ⟨rfl, h⟩).trans (if_pos hf)
theorem source_Source_Lower.lowE_full {mm : Int} {fd : Bool} {n : Nat} (h : mm ≠ 65535) (hf : fd = false) (hn : 256 ≤ n) : source_Source_Lower.lowE true mm fd n = 3 := (if_pos ⟨rfl, h⟩).trans ((if_neg (by simp [hf])).trans (if_pos hn))
theorem source_Source_Lower.lowL_full {mm : Int} {fd : Bool} (l : List S71) (i : Nat) (y x : S71) (h : mm ≠ 65535) (hf : fd = false) (hn : 256 ≤ l.length) : source_Source_Lower.lowL true mm fd l i y x = l := (if_pos ⟨rfl, h⟩).trans ((if_neg (by simp [hf])).trans (if_pos hn))
theorem source_Source_Lower.lowE_new {mm : Int} {fd : Bool} {n : Nat} (h : mm ≠ 65535) (hf : fd = false) (hn : ¬ 256 ≤ n) : source_Source_Lower.lowE true mm fd n = 0 := (if_pos ⟨rfl, h⟩).trans ((if_neg (by simp [hf])).trans (if_neg hn))
theorem source_Source_Lower.lowL_new {mm : Int} {fd : Bool} (l : List S71) (i : Nat) (y x : S71) (h : mm ≠ 65535) (hf : fd = false) (hn : ¬ 256 ≤ l.length) : source_Source_Lower.lowL true mm fd l i y x = l.take i ++ x :: l.drop i := (if_pos ⟨rfl, h⟩).trans ((if_neg (by simp [hf])).trans (if_neg hn))
theorem source_Source_Lower.Fr_set {w : World} {g : Nat} {cs : Array Value} (hg : w.heap[g]? = some (.cells cs 64 (0, 0))) (u : Value) : source_Source_Lower.Fr w (w.setCell ⟨g, 0, none⟩ u) := ⟨Nat.le_of_eq (by simp), fun k t c hk h1 _ => Below.heap_setCell w ⟨g, 0, none⟩ u k (fun e => by
  obtain rfl : k = g := e
  rw [hg] at hk
  injection hk with hk
  injection hk with _ ht
  exact h1 ht.symm)⟩
set_option maxHeartbeats 4000000 in
set_option maxRecDepth 100000 in
theorem source_Source_Lower.inner (k g b : Nat) (v : Value) (l : List S71) (pa pn ms mm : Int) (i : Nat) (cv : Nat → Int) (rt : Bool) (b0 b1 : Int) (w0 w : World) (hg : w.heap[g]? = some (.cells #[v] 64 (0, 0))) (hR : k71.R 71 w b (fun _ => True) v l) (hbg : b ≤ g) (hbw : b ≤ w.heap.size) (hB : Below b w0 w) (hlen : l.length ≤ 1000) (hi : i ≤ l.length)
    (hrt : prefix_Right.f pa pn = some rt) (hcmp : rt = true → ∀ j : Nat, j < l.length → prefix_Compare.f k (rd_T71 l (j : Int)).f0.f0 (rd_T71 l (j : Int)).f0.f1 pa pn = some (cv j) ∧ (cv j < 0 ↔ j < i))
    (hbest : rt = true → i < l.length → cv i = 0 → serial_Best.f (rd_T71 l (i : Int)).f1.f0 (rd_T71 l (i : Int)).f1.f1 ms mm = some (b0, b1)) :
    Calls Try.prog 9 #[.pointer (some ⟨g, 0, none⟩), .agg #[.int .u32 pa, .int .u8 pn], .agg #[.int .u16 ms, .int .u16 mm]] w fun e w' => e = .returned (.int .i64 (source_Source_Lower.lowE rt mm (decide (i < l.length) && (cv i == 0)) l.length)) ∧ (∃ v', w'.heap[g]? = some (.cells #[v'] 64 (0, 0)) ∧ k71.R 71 w' b (fun _ => True) v' (source_Source_Lower.lowL rt mm (decide (i < l.length) && (cv i == 0)) l i ⟨(rd_T71 l (i : Int)).f0, ⟨b0, b1⟩⟩ ⟨⟨pa, pn⟩, ⟨ms, mm⟩⟩)) ∧ Below b w0 w' ∧ source_Source_Lower.Fr w w' := by
  have hu31 := Try.underlying31
  have hu36 := Try.underlying36
  obtain ⟨A, c, rfl, hlc, hC⟩ := Kd.R_reads hR
  have HC := Aside0.mk hC
  have HR := Aside0.mk hR
  have HM := Aside0.mk hcmp
  have HBE := Aside0.mk hbest
  have HRT := Aside0.mk hrt
  have BKg := Aside0.mk hg
  have HB0 := Aside0.mk hB
  clear hC hR hcmp hbest hrt hg hB
  go_enter Try.func9, Try.ntmps9
  go_wp2_with (first | ((with_reducible refine gate_dst (N := 4) rfl ?_); (try (refine gate_guard (by rfl) ?_; dsimp only)); refine box_event ?hg (N := 4) ?hd (cs := #[.int .u32 pa, .int .u8 pn]) (t := 31) ?hr ?_; (case hd => rfl); (case hg => rfl); (case hr => first | (go_simp; done) | (go_simp; rfl)); intro g4 hg w4 hbox hb; have BK4 := Aside0.mk hbox; have HB4 := Aside0.mk hb; clear hb hbox hg) | ((with_reducible refine gate_dst (N := 5) rfl ?_); (try (refine gate_guard (by rfl) ?_; dsimp only)); refine box_event ?hg (N := 5) ?hd (cs := #[.int .u16 ms, .int .u16 mm]) (t := 36) ?hr ?_; (case hd => rfl); (case hg => rfl); (case hr => first | (go_simp; done) | (go_simp; rfl)); intro g5 hg w5 hbox hb; have BK5 := Aside0.mk hbox; have BK45 := Aside0.mk (blk_below BK4.out hb); have HB5 := Aside0.mk (below_step HB4.out hb); clear hb hbox hg BK4 HB4; have hp0 : w5.cell? ⟨g4, 0, none⟩ = some (.int .u32 pa) := (blk_cell BK45.out 0).trans rfl; have hp1 : w5.cell? ⟨g4, 1, none⟩ = some (.int .u8 pn) := (blk_cell BK45.out 1).trans rfl; have hm0 : w5.cell? ⟨g5, 0, none⟩ = some (.int .u16 ms) := (blk_cell BK5.out 0).trans rfl; have hm1 : w5.cell? ⟨g5, 1, none⟩ = some (.int .u16 mm) := (blk_cell BK5.out 1).trans rfl))
  refine (prefix_Right.calls pa pn rt _ HRT.out).mono ?_
  rintro e w6 ⟨rfl, hb⟩
  have BK46 := Aside0.mk (blk_below BK45.out hb)
  have BK56 := Aside0.mk (blk_below BK5.out hb)
  have HB6 := Aside0.mk (below_step HB5.out hb)
  clear hb hp0 hp1 hm0 hm1 BK45 BK5 HB5
  have BKg6 := Aside0.mk (blk_below BKg.out HB6.out)
  have HR6 := Aside0.mk (Kd.R_below HR.out HB6.out)
  have HB06 := Aside0.mk (below_then HB0.out hbw HB6.out)
  have hm0 : w6.cell? ⟨g5, 0, none⟩ = some (.int .u16 ms) := (blk_cell BK56.out 0).trans rfl
  have hm1 : w6.cell? ⟨g5, 1, none⟩ = some (.int .u16 mm) := (blk_cell BK56.out 1).trans rfl
  have hp0 : w6.cell? ⟨g4, 0, none⟩ = some (.int .u32 pa) := (blk_cell BK46.out 0).trans rfl
  have hp1 : w6.cell? ⟨g4, 1, none⟩ = some (.int .u8 pn) := (blk_cell BK46.out 1).trans rfl
  by_cases hgo : ¬ (rt = true ∧ mm ≠ 65535)
  · have qq : (!rt || (mm == 65535)) = true := by cases rt <;> simp_all
    have hE := source_Source_Lower.lowE_no (decide (i < l.length) && (cv i == 0)) l.length hgo
    have hL := source_Source_Lower.lowL_no (decide (i < l.length) && (cv i == 0)) l i ⟨(rd_T71 l (i : Int)).f0, ⟨b0, b1⟩⟩ ⟨⟨pa, pn⟩, ⟨ms, mm⟩⟩ hgo
    cases rt
    · go_wp2_with (fail)
      go_ret
      exact ⟨Eq.trans (b := Ending.returned (.int .i64 1)) rfl (congrArg (fun n => Ending.returned (Value.int IntKind.i64 n)) hE.symm), ⟨_, BKg6.out, by rw [hL]; exact HR6.out⟩, HB06.out, source_Source_Lower.Fr_below HB6.out⟩
    · have q1 : (mm == 65535) = true := by simpa using qq
      go_wp2_with (fail)
      go_ret
      exact ⟨Eq.trans (b := Ending.returned (.int .i64 1)) rfl (congrArg (fun n => Ending.returned (Value.int IntKind.i64 n)) hE.symm), ⟨_, BKg6.out, by rw [hL]; exact HR6.out⟩, HB06.out, source_Source_Lower.Fr_below HB6.out⟩
  have hgo' : rt = true ∧ mm ≠ 65535 := Decidable.not_not.1 hgo
  obtain ⟨rfl, hmm⟩ := hgo'
  have q1 : (mm == 65535) = false := beq_eq_false_iff_ne.mpr hmm
  go_wp2_with (fail)
  refine (source_Source_find.calls k g A c l pa pn i cv _ BKg6.out (Kd.C_below HC.out HB6.out) hlen hi (HM.out (by trivial))).mono ?_
  rintro e w7 ⟨rfl, hb⟩
  have BK47 := Aside0.mk (blk_below BK46.out hb)
  have BK57 := Aside0.mk (blk_below BK56.out hb)
  have BKg7 := Aside0.mk (blk_below BKg6.out hb)
  have HB7 := Aside0.mk (below_step HB6.out hb)
  have HR7 := Aside0.mk (Kd.R_below HR6.out hb)
  have HB07 := Aside0.mk (below_then HB0.out hbw HB7.out)
  clear hb hp0 hp1 hm0 hm1 BK46 BK56 BKg6 HB6 HB06 HR6
  have hg0 : w7.cell? ⟨g, 0, none⟩ = some (.slice A l.length c) := (blk_cell BKg7.out 0).trans rfl
  by_cases hf : (decide (i < l.length) && (cv i == 0)) = true
  · have hE := source_Source_Lower.lowE_yes l.length hmm hf
    have hL := source_Source_Lower.lowL_yes l i ⟨(rd_T71 l (i : Int)).f0, ⟨b0, b1⟩⟩ ⟨⟨pa, pn⟩, ⟨ms, mm⟩⟩ hmm hf
    rw [Bool.and_eq_true, decide_eq_true_iff, beq_iff_eq] at hf
    obtain ⟨hlt, h0⟩ := hf
    have q2 : decide (i < l.length) = true := decide_eq_true hlt
    have q3 : (cv i == 0) = true := beq_iff_eq.mpr h0
    have p1 : decide (0 ≤ (i : Int)) = true := decide_eq_true (by omega)
    have p2 : decide ((i : Int) < (l.length : Int)) = true := decide_eq_true (by omega)
    have HBS := Aside0.mk (HBE.out (by trivial) hlt h0)
    obtain ⟨gr, cp, e0, hbgr, hgr, cells, hcells⟩ := Kd.R_form HR7.out (by omega)
    injection e0 with e1 _ e2
    subst e1 e2
    have BKr := Aside0.mk hcells
    have BKD := Aside0.mk (blk_drew BKg7.out)
    have BK5D := Aside0.mk (blk_drew BK57.out)
    have BKrD := Aside0.mk (blk_drew BKr.out)
    have HBD := Aside0.mk (below_drew1 HB7.out)
    have HRD := Aside0.mk (Kd.R_drew HR7.out)
    have HFD := Aside0.mk (source_Source_Lower.Fr_below HBD.out)
    clear BKg7 BK57 BKr HB7 HR7 BK47 hg0 hcells HB07
    obtain ⟨ad_, e0, hx0, hx1, hx2, hx3⟩ := at_T71 (Kd.C_below HC.out HBD.out) (i : Int) (by omega) (by omega)
    cases e0
    simp only [Int.toNat_natCast, add_plain] at hx0 hx1 hx2 hx3
    go_upto_region 8 with (fail)
    refine start_ (n := 18) (S := fun w' => w'.cell? ⟨g, 0, none⟩ = some (.slice (some ⟨gr, 0, none⟩) l.length c) ∧ w'.cell? ⟨gr, i * 4 + 2, none⟩ = some (.int .u16 (rd_T71 l (i : Int)).f1.f0) ∧ w'.cell? ⟨gr, i * 4 + 3, none⟩ = some (.int .u16 (rd_T71 l (i : Int)).f1.f1) ∧ w'.cell? ⟨g5, 0, none⟩ = some (.int .u16 ms) ∧ w'.cell? ⟨g5, 1, none⟩ = some (.int .u16 mm)) (ds := [17]) #[false, false, false, false, false, false, false, false, false, false, false, false, false, false, false, false, false, false] (by kernel_rfl) rfl rfl ⟨(blk_cell BKD.out 0).trans rfl, hx2, hx3, (blk_cell BK5D.out 0).trans rfl, (blk_cell BK5D.out 1).trans rfl⟩ (fun hHeld => ?_)
    generalize w7.drew = wd at hx0 hx1 hx2 hx3 BKD BK5D BKrD HBD HRD HFD hHeld ⊢
    refine pure_ (i := 0) (N := some 42) (v := ?_) (a' := ?_) #[true, false, false, false, false, false, false, false, false, false, false, false, false, false, false, false, false, false] rfl rfl (by kernel_rfl) (fun _ _ _ h => h) (Or.inl ⟨by rfl, ?_⟩) ?_ ?_
    rotate_left
    · intro w'
      go_simp
      with_reducible rfl
    rotate_left
    · simp only [Act.put, List.setIfInBounds_toArray, List.set_cons_zero, List.set_cons_succ, i64_w, i32_w]
      rfl
    refine pure_ (i := 1) (N := some 43) (v := ?_) (a' := ?_) #[true, true, false, false, false, false, false, false, false, false, false, false, false, false, false, false, false, false] rfl rfl (by kernel_rfl) (fun _ _ _ h => h) (Or.inl ⟨by rfl, ?_⟩) ?_ ?_
    rotate_left
    · intro w'
      go_simp
      with_reducible rfl
    rotate_left
    · simp only [Act.put, List.setIfInBounds_toArray, List.set_cons_zero, List.set_cons_succ, i64_w, i32_w]
      rfl
    refine pure_ (i := 2) (N := some 44) (v := ?_) (a' := ?_) #[true, true, true, false, false, false, false, false, false, false, false, false, false, false, false, false, false, false] rfl rfl (by kernel_rfl) (fun _ _ _ h => h) (Or.inl ⟨by rfl, ?_⟩) ?_ ?_
    rotate_left
    · intro w'
      go_simp
      with_reducible rfl
    rotate_left
    · simp only [Act.put, List.setIfInBounds_toArray, List.set_cons_zero, List.set_cons_succ, i64_w, i32_w]
      rfl
    refine pure_ (i := 4) (N := some 46) (v := ?_) (a' := ?_) #[true, true, true, false, true, false, false, false, false, false, false, false, false, false, false, false, false, false] rfl rfl (by kernel_rfl) (fun _ _ _ h => h) (Or.inl ⟨by rfl, ?_⟩) ?_ ?_
    rotate_left
    · intro w'
      go_simp
      with_reducible rfl
    rotate_left
    · simp only [Act.put, List.setIfInBounds_toArray, List.set_cons_zero, List.set_cons_succ, i64_w, i32_w]
      rfl
    refine pure_ (i := 5) (N := some 47) (v := ?_) (a' := ?_) #[true, true, true, false, true, true, false, false, false, false, false, false, false, false, false, false, false, false] rfl rfl (by kernel_rfl) (fun _ _ _ h => h) (Or.inl ⟨by rfl, ?_⟩) ?_ ?_
    rotate_left
    · intro w'
      go_simp
      with_reducible rfl
    rotate_left
    · simp only [Act.put, List.setIfInBounds_toArray, List.set_cons_zero, List.set_cons_succ, i64_w, i32_w]
      rfl
    refine pure_ (i := 6) (N := some 48) (v := ?_) (a' := ?_) #[true, true, true, false, true, true, true, false, false, false, false, false, false, false, false, false, false, false] rfl rfl (by kernel_rfl) (fun _ _ _ h => h) (Or.inl ⟨by rfl, ?_⟩) ?_ ?_
    rotate_left
    · intro w'
      go_simp
      with_reducible rfl
    rotate_left
    · simp only [Act.put, List.setIfInBounds_toArray, List.set_cons_zero, List.set_cons_succ, i64_w, i32_w]
      rfl
    refine pure_ (i := 7) (N := some 49) (v := ?_) (a' := ?_) #[true, true, true, false, true, true, true, true, false, false, false, false, false, false, false, false, false, false] rfl rfl (by kernel_rfl) (fun _ _ _ h => h) (Or.inl ⟨by rfl, ?_⟩) ?_ ?_
    rotate_left
    · intro w'
      go_simp
      with_reducible rfl
    rotate_left
    · simp only [Act.put, List.setIfInBounds_toArray, List.set_cons_zero, List.set_cons_succ, i64_w, i32_w]
      rfl
    refine pure_ (i := 9) (N := some 51) (v := ?_) (a' := ?_) #[true, true, true, false, true, true, true, true, false, true, false, false, false, false, false, false, false, false] rfl rfl (by kernel_rfl) (fun _ _ _ h => h) (Or.inl ⟨by rfl, ?_⟩) ?_ ?_
    rotate_left
    · intro w'
      go_simp
      with_reducible rfl
    rotate_left
    · simp only [Act.put, List.setIfInBounds_toArray, List.set_cons_zero, List.set_cons_succ, i64_w, i32_w]
      rfl
    refine take_ (i := 3) (N := some 45) (v := ?_) (a' := ?_) #[true, true, true, true, true, true, true, true, false, true, false, false, false, false, false, false, false, false] rfl rfl (by kernel_rfl) (fun _ _ _ h => h) (Or.inl ⟨by rfl, ?_⟩) hHeld ?_ ?_
    rotate_left
    · rintro w' ⟨s0, s1, s2, s3, s4⟩
      go_simp
      with_reducible rfl
    rotate_left
    · simp only [Act.put, List.setIfInBounds_toArray, List.set_cons_zero, List.set_cons_succ, i64_w, i32_w]
      rfl
    refine take_ (i := 8) (N := some 50) (v := ?_) (a' := ?_) #[true, true, true, true, true, true, true, true, true, true, false, false, false, false, false, false, false, false] rfl rfl (by kernel_rfl) (fun _ _ _ h => h) (Or.inl ⟨by rfl, ?_⟩) hHeld ?_ ?_
    rotate_left
    · rintro w' ⟨s0, s1, s2, s3, s4⟩
      go_simp
      with_reducible rfl
    rotate_left
    · simp only [Act.put, List.setIfInBounds_toArray, List.set_cons_zero, List.set_cons_succ, i64_w, i32_w]
      rfl
    refine pure_ (i := 10) (N := some 52) (v := ?_) (a' := ?_) #[true, true, true, true, true, true, true, true, true, true, true, false, false, false, false, false, false, false] rfl rfl (by kernel_rfl) (fun _ _ _ h => h) (Or.inl ⟨by rfl, ?_⟩) ?_ ?_
    rotate_left
    · intro w'
      go_simp
      with_reducible rfl
    rotate_left
    · simp only [Act.put, List.setIfInBounds_toArray, List.set_cons_zero, List.set_cons_succ, i64_w, i32_w]
      rfl
    refine pure_ (i := 11) (N := some 53) (v := ?_) (a' := ?_) #[true, true, true, true, true, true, true, true, true, true, true, true, false, false, false, false, false, false] rfl rfl (by kernel_rfl) (fun _ _ _ h => h) (Or.inl ⟨by rfl, ?_⟩) ?_ ?_
    rotate_left
    · intro w'
      go_simp
      with_reducible rfl
    rotate_left
    · simp only [Act.put, List.setIfInBounds_toArray, List.set_cons_zero, List.set_cons_succ, i64_w, i32_w]
      rfl
    refine take_ (i := 12) (N := some 54) (v := ?_) (a' := ?_) #[true, true, true, true, true, true, true, true, true, true, true, true, true, false, false, false, false, false] rfl rfl (by kernel_rfl) (fun _ _ _ h => h) (Or.inl ⟨by rfl, ?_⟩) hHeld ?_ ?_
    rotate_left
    · rintro w' ⟨s0, s1, s2, s3, s4⟩
      go_simp
      with_reducible rfl
    rotate_left
    · simp only [Act.put, List.setIfInBounds_toArray, List.set_cons_zero, List.set_cons_succ, i64_w, i32_w]
      rfl
    refine take_ (i := 13) (N := some 55) (v := ?_) (a' := ?_) #[true, true, true, true, true, true, true, true, true, true, true, true, true, true, false, false, false, false] rfl rfl (by kernel_rfl) (fun _ _ _ h => h) (Or.inl ⟨by rfl, ?_⟩) hHeld ?_ ?_
    rotate_left
    · rintro w' ⟨s0, s1, s2, s3, s4⟩
      go_simp
      with_reducible rfl
    rotate_left
    · simp only [Act.put, List.setIfInBounds_toArray, List.set_cons_zero, List.set_cons_succ, i64_w, i32_w]
      rfl
    refine one_ (i := 14) (N := some 56) #[true, true, true, true, true, true, true, true, true, true, true, true, true, true, true, false, false, false] rfl rfl (by kernel_rfl) (by decide) (fun K hK => ?_)
    refine goes_ Try.func24 (by kernel_rfl) rfl #[.agg #[.int .u16 (rd_T71 l (i : Int)).f1.f0, .int .u16 (rd_T71 l (i : Int)).f1.f1], .agg #[.int .u16 ms, .int .u16 mm]] (by rfl) rfl rfl (by simp only [List.map_toArray, List.map_cons, List.map_nil]; rfl) ?_
    with_reducible refine (serial_Best.calls (rd_T71 l (i : Int)).f1.f0 (rd_T71 l (i : Int)).f1.f1 ms mm b0 b1 _ HBS.out).mono ?_
    rintro e w8 ⟨rfl, hb⟩
    refine ⟨_, rfl, ?_⟩
    have n0_ := Aside0.mk (blk_below BKD.out hb)
    have n1_ := Aside0.mk (blk_below BK5D.out hb)
    have n2_ := Aside0.mk (blk_below BKrD.out hb)
    have n3_ := Aside0.mk (source_Source_Lower.Fr_trans HFD.out (source_Source_Lower.Fr_below hb))
    have n4_ := Aside0.mk (Kd.R_below HRD.out hb)
    have n5_ := Aside0.mk (below_step HBD.out hb)
    clear BKD BK5D BKrD HFD HRD HBD
    have BKD := n0_
    have BK5D := n1_
    have BKrD := n2_
    have HFD := n3_
    have HRD := n4_
    have HBD := n5_
    clear n0_ n1_ n2_ n3_ n4_ n5_
    clear hb hx0 hx1 hx2 hx3
    obtain ⟨ad_, e0, hx0, hx1, hx2, hx3⟩ := at_T71 (Kd.C_below HC.out HBD.out) (i : Int) (by omega) (by omega)
    cases e0
    simp only [Int.toNat_natCast, add_plain] at hx0 hx1 hx2 hx3
    refine hK.out _ _ ⟨(blk_cell BKD.out 0).trans rfl, hx2, hx3, (blk_cell BK5D.out 0).trans rfl, (blk_cell BK5D.out 1).trans rfl⟩ (fun hHeld => ?_)
    clear hK K
    refine norm_ (a' := ?_) ?_ ?_
    rotate_left
    · show Act.put _ (some 56) _ = _
      simp only [Act.put, List.setIfInBounds_toArray, List.set_cons_zero, List.set_cons_succ, i64_w, i32_w]
      rfl
    refine pure_ (i := 15) (N := some 57) (v := ?_) (a' := ?_) #[true, true, true, true, true, true, true, true, true, true, true, true, true, true, true, true, false, false] rfl rfl (by kernel_rfl) (fun _ _ _ h => h) (Or.inl ⟨by rfl, ?_⟩) ?_ ?_
    rotate_left
    · intro w'
      go_simp
      with_reducible rfl
    rotate_left
    · simp only [Act.put, List.setIfInBounds_toArray, List.set_cons_zero, List.set_cons_succ, i64_w, i32_w]
      rfl
    refine pure_ (i := 16) (N := some 58) (v := ?_) (a' := ?_) #[true, true, true, true, true, true, true, true, true, true, true, true, true, true, true, true, true, false] rfl rfl (by kernel_rfl) (fun _ _ _ h => h) (Or.inl ⟨by rfl, ?_⟩) ?_ ?_
    rotate_left
    · intro w'
      go_simp
      with_reducible rfl
    rotate_left
    · simp only [Act.put, List.setIfInBounds_toArray, List.set_cons_zero, List.set_cons_succ, i64_w, i32_w]
      rfl
    refine last_ (i := 17) (N := none) #[true, true, true, true, true, true, true, true, true, true, true, true, true, true, true, true, true, true] rfl rfl (by kernel_rfl) (by decide) (fun K hK => ?_)
    have y2 := blk_frozen BKrD.out (i * 4 + 2)
    have y3 := blk_frozen BKrD.out (i * 4 + 3)
    refine skip_ (w1 := ?_) (by rfl) rfl ?_ ?_
    rotate_left
    · go_simp
      rfl
    refine hK.out _ _ ?_
    clear hK K
    refine done_ (by kernel_rfl) ?_
    have hgne : some g ≠ (Value.slice (some ⟨gr, 0, none⟩) l.length c).ownBlock := Kd.R_ne HRD.out BKD.out (by decide)
    obtain ⟨hrow, hgw⟩ := Kd.R_seg (d := k71) (okp := fun _ => False) HRD.out (i : Int) (by omega) (by omega) (c := [.int .u32 (rd_T71 l (i : Int)).f0.f0, .int .u8 (rd_T71 l (i : Int)).f0.f1, .int .u16 (rd_T71 l (i : Int)).f1.f0, .int .u16 (rd_T71 l (i : Int)).f1.f1]) (seg := [.int .u16 b0, .int .u16 b1]) (j := 2) rfl (by
      intro j u hu
      rcases j with _ | _ | _ | _ | j
      · injection hu with hu; subst hu; exact hx0
      · injection hu with hu; subst hu; exact hx1
      · injection hu with hu; subst hu; exact hx2
      · injection hu with hu; subst hu; exact hx3
      · simp at hu) (show (2 : Nat) + 2 ≤ 4 from Nat.le_refl 4) (x' := ⟨(rd_T71 l (i : Int)).f0, ⟨b0, b1⟩⟩) (k71_mkM _ _ _ ⟨(rd_T71 l (i : Int)).f0, ⟨b0, b1⟩⟩) (fun _ h => h.elim)
    obtain ⟨W, hW⟩ : ∃ W : World, W = ((w8.setCell ⟨gr, i * 4 + 2, none⟩ (.int .u16 b0)).setCell ⟨gr, i * 4 + 2 + 1, none⟩ (.int .u16 b1)) := ⟨_, rfl⟩
    rw [← hW]
    have hWs : w8.setCells gr ((i : Int).toNat * k71.sz + 2) [.int .u16 b0, .int .u16 b1] = W := hW.symm
    rw [hWs] at hrow hgw
    simp only [Int.toNat_natCast] at hrow
    clear hW hWs hx0 hx1 hx2 hx3 y2 y3 hHeld
    have hfin : (∃ v', W.heap[g]? = some (.cells #[v'] 64 (0, 0)) ∧ k71.R 71 W b (fun _ => True) v' (source_Source_Lower.lowL true mm (decide (i < l.length) && (cv i == 0)) l i ⟨(rd_T71 l (i : Int)).f0, ⟨b0, b1⟩⟩ ⟨⟨pa, pn⟩, ⟨ms, mm⟩⟩)) ∧ Below b w0 W ∧ source_Source_Lower.Fr w W := by
      refine ⟨⟨_, (hgw.block g (Nat.lt_of_not_le fun h => by have := BKD.out; rw [Array.getElem?_eq_none h] at this; cases this) hgne).trans BKD.out, by rw [hL]; exact hrow⟩, (below_then HB0.out hbw HBD.out).grown hgw (Nat.le_trans hbw HBD.out.size) (Kd.R_base HRD.out), source_Source_Lower.Fr_trans HFD.out (source_Source_Lower.Fr_grown HRD.out hgw)⟩
    go_wp2_with (fail)
    go_ret
    exact ⟨Eq.trans (b := Ending.returned (.int .i64 0)) rfl (congrArg (fun n => Ending.returned (Value.int IntKind.i64 n)) hE.symm), hfin⟩
  · have hf' : (decide (i < l.length) && (cv i == 0)) = false := by simpa using hf
    by_cases hful : 256 ≤ l.length
    · have hE := source_Source_Lower.lowE_full (n := l.length) hmm hf' hful
      have hL := source_Source_Lower.lowL_full l i ⟨(rd_T71 l (i : Int)).f0, ⟨b0, b1⟩⟩ ⟨⟨pa, pn⟩, ⟨ms, mm⟩⟩ hmm hf' hful
      have q2 : decide ((l.length : Int) ≥ 256) = true := decide_eq_true (by omega)
      have q2' : decide (256 ≤ (l.length : Int)) = true := decide_eq_true (by omega)
      go_wp2_with (fail)
      go_ret
      exact ⟨Eq.trans (b := Ending.returned (.int .i64 3)) rfl (congrArg (fun n => Ending.returned (Value.int IntKind.i64 n)) hE.symm), ⟨_, BKg7.out, by rw [hL]; exact HR7.out⟩, HB07.out, source_Source_Lower.Fr_below HB7.out⟩
    · have hE := source_Source_Lower.lowE_new (n := l.length) hmm hf' hful
      have hL := source_Source_Lower.lowL_new l i ⟨(rd_T71 l (i : Int)).f0, ⟨b0, b1⟩⟩ ⟨⟨pa, pn⟩, ⟨ms, mm⟩⟩ hmm hf' hful
      have q2 : decide ((l.length : Int) ≥ 256) = false := decide_eq_false (by omega)
      have q2' : decide (256 ≤ (l.length : Int)) = false := decide_eq_false (by omega)
      have BKD := Aside0.mk (blk_drew BKg7.out)
      have BK4D := Aside0.mk (blk_drew BK47.out)
      have BK5D := Aside0.mk (blk_drew BK57.out)
      have HBD := Aside0.mk (below_drew1 HB7.out)
      have HRD := Aside0.mk (Kd.R_drew HR7.out)
      have HFD := Aside0.mk (source_Source_Lower.Fr_below HBD.out)
      clear BKg7 BK57 HB7 HR7 BK47 HB07
      go_upto_region 6 with (fail)
      refine start_ (n := 14) (S := fun w' => w'.cell? ⟨g, 0, none⟩ = some (.slice A l.length c) ∧ w'.cell? ⟨g4, 0, none⟩ = some (.int .u32 pa) ∧ w'.cell? ⟨g4, 1, none⟩ = some (.int .u8 pn) ∧ w'.cell? ⟨g5, 0, none⟩ = some (.int .u16 ms) ∧ w'.cell? ⟨g5, 1, none⟩ = some (.int .u16 mm)) (ds := [13]) #[false, false, false, false, false, false, false, false, false, false, false, false, false, false] (by kernel_rfl) rfl rfl ⟨(blk_cell BKD.out 0).trans rfl, (blk_cell BK4D.out 0).trans rfl, (blk_cell BK4D.out 1).trans rfl, (blk_cell BK5D.out 0).trans rfl, (blk_cell BK5D.out 1).trans rfl⟩ (fun hHeld => ?_)
      generalize w7.drew = wd at BKD BK4D BK5D HBD HRD HFD hHeld ⊢
      refine pure_ (i := 0) (N := some 27) (v := ?_) (a' := ?_) #[true, false, false, false, false, false, false, false, false, false, false, false, false, false] rfl rfl (by kernel_rfl) (fun _ _ _ h => h) (Or.inl ⟨by rfl, ?_⟩) ?_ ?_
      rotate_left
      · intro w'
        go_simp
        with_reducible rfl
      rotate_left
      · simp only [Act.put, List.setIfInBounds_toArray, List.set_cons_zero, List.set_cons_succ, i64_w, i32_w]
        rfl
      refine pure_ (i := 1) (N := some 28) (v := ?_) (a' := ?_) #[true, true, false, false, false, false, false, false, false, false, false, false, false, false] rfl rfl (by kernel_rfl) (fun _ _ _ h => h) (Or.inl ⟨by rfl, ?_⟩) ?_ ?_
      rotate_left
      · intro w'
        go_simp
        with_reducible rfl
      rotate_left
      · simp only [Act.put, List.setIfInBounds_toArray, List.set_cons_zero, List.set_cons_succ, i64_w, i32_w]
        rfl
      refine pure_ (i := 2) (N := some 29) (v := ?_) (a' := ?_) #[true, true, true, false, false, false, false, false, false, false, false, false, false, false] rfl rfl (by kernel_rfl) (fun _ _ _ h => h) (Or.inl ⟨by rfl, ?_⟩) ?_ ?_
      rotate_left
      · intro w'
        go_simp
        with_reducible rfl
      rotate_left
      · simp only [Act.put, List.setIfInBounds_toArray, List.set_cons_zero, List.set_cons_succ, i64_w, i32_w]
        rfl
      refine pure_ (i := 3) (N := some 30) (v := ?_) (a' := ?_) #[true, true, true, true, false, false, false, false, false, false, false, false, false, false] rfl rfl (by kernel_rfl) (fun _ _ _ h => h) (Or.inl ⟨by rfl, ?_⟩) ?_ ?_
      rotate_left
      · intro w'
        go_simp
        with_reducible rfl
      rotate_left
      · simp only [Act.put, List.setIfInBounds_toArray, List.set_cons_zero, List.set_cons_succ, i64_w, i32_w]
        rfl
      refine pure_ (i := 5) (N := some 32) (v := ?_) (a' := ?_) #[true, true, true, true, false, true, false, false, false, false, false, false, false, false] rfl rfl (by kernel_rfl) (fun _ _ _ h => h) (Or.inl ⟨by rfl, ?_⟩) ?_ ?_
      rotate_left
      · intro w'
        go_simp
        with_reducible rfl
      rotate_left
      · simp only [Act.put, List.setIfInBounds_toArray, List.set_cons_zero, List.set_cons_succ, i64_w, i32_w]
        rfl
      refine take_ (i := 4) (N := some 31) (v := ?_) (a' := ?_) #[true, true, true, true, true, true, false, false, false, false, false, false, false, false] rfl rfl (by kernel_rfl) (fun _ _ _ h => h) (Or.inl ⟨by rfl, ?_⟩) hHeld ?_ ?_
      rotate_left
      · rintro w' ⟨s0, s1, s2, s3, s4⟩
        go_simp
        with_reducible rfl
      rotate_left
      · simp only [Act.put, List.setIfInBounds_toArray, List.set_cons_zero, List.set_cons_succ, i64_w, i32_w]
        rfl
      refine take_ (i := 6) (N := some 33) (v := ?_) (a' := ?_) #[true, true, true, true, true, true, true, false, false, false, false, false, false, false] rfl rfl (by kernel_rfl) (fun _ _ _ h => h) (Or.inl ⟨by rfl, ?_⟩) hHeld ?_ ?_
      rotate_left
      · rintro w' ⟨s0, s1, s2, s3, s4⟩
        go_simp
        with_reducible rfl
      rotate_left
      · simp only [Act.put, List.setIfInBounds_toArray, List.set_cons_zero, List.set_cons_succ, i64_w, i32_w]
        rfl
      refine take_ (i := 7) (N := some 34) (v := ?_) (a' := ?_) #[true, true, true, true, true, true, true, true, false, false, false, false, false, false] rfl rfl (by kernel_rfl) (fun _ _ _ h => h) (Or.inl ⟨by rfl, ?_⟩) hHeld ?_ ?_
      rotate_left
      · rintro w' ⟨s0, s1, s2, s3, s4⟩
        go_simp
        with_reducible rfl
      rotate_left
      · simp only [Act.put, List.setIfInBounds_toArray, List.set_cons_zero, List.set_cons_succ, i64_w, i32_w]
        rfl
      refine pure_ (i := 8) (N := some 35) (v := ?_) (a' := ?_) #[true, true, true, true, true, true, true, true, true, false, false, false, false, false] rfl rfl (by kernel_rfl) (fun _ _ _ h => h) (Or.inl ⟨by rfl, ?_⟩) ?_ ?_
      rotate_left
      · intro w'
        go_simp
        with_reducible rfl
      rotate_left
      · simp only [Act.put, List.setIfInBounds_toArray, List.set_cons_zero, List.set_cons_succ, i64_w, i32_w]
        rfl
      refine one_ (i := 9) (N := some 36) #[true, true, true, true, true, true, true, true, true, true, false, false, false, false] rfl rfl (by kernel_rfl) (by decide) (fun K hK => ?_)
      refine Kd.R_lit_step k71 _ 71 ?hg (N := 36) ?hd (xs := ([(⟨⟨pa, pn⟩, ⟨ms, mm⟩⟩ : S71)] : List S71)) (inner := [.int .u32 pa, .int .u8 pn, .int .u16 ms, .int .u16 mm]) (ok := fun _ => True) (okp := fun _ => True) ?hr ?hp (fun _ hk => hk) trivial (Below.refl _ _) (Nat.le_refl _) (by simp) ?_; (case hd => rfl); (case hg => rfl); (case hr => first | (go_simp; done) | (go_simp; rfl)); (case hp => exact (Reps.c4 (show Kd.M k71 _ _ _ (⟨⟨pa, pn⟩, ⟨ms, mm⟩⟩ : S71) [.int .u32 pa, .int .u8 pn, .int .u16 ms, .int .u16 mm] from k71_mkM _ _ _ (⟨⟨pa, pn⟩, ⟨ms, mm⟩⟩ : S71)) (Reps.none _ _)))
      intro v8 w8 HO8 hb hg8 hat8
      obtain ⟨A8, c8, e8, hl8, hC8⟩ := Kd.R_reads HO8
      subst e8
      have HX := Aside0.mk HO8
      have HLT := Aside0.mk (Kd.R_lt HRD.out)
      have n0_ := Aside0.mk (blk_below BKD.out hb)
      have n1_ := Aside0.mk (blk_below BK4D.out hb)
      have n2_ := Aside0.mk (blk_below BK5D.out hb)
      have n3_ := Aside0.mk (source_Source_Lower.Fr_trans HFD.out (source_Source_Lower.Fr_below hb))
      have n4_ := Aside0.mk (Kd.R_below HRD.out hb)
      have n5_ := Aside0.mk (below_step HBD.out hb)
      clear BKD BK4D BK5D HFD HRD HBD
      have BKD := n0_
      have BK4D := n1_
      have BK5D := n2_
      have HFD := n3_
      have HRD := n4_
      have HBD := n5_
      clear n0_ n1_ n2_ n3_ n4_ n5_
      clear hb hC8 HO8 hg8 hat8
      refine hK.out _ _ ⟨(blk_cell BKD.out 0).trans rfl, (blk_cell BK4D.out 0).trans rfl, (blk_cell BK4D.out 1).trans rfl, (blk_cell BK5D.out 0).trans rfl, (blk_cell BK5D.out 1).trans rfl⟩ (fun hHeld => ?_)
      clear hK K
      refine norm_ (a' := ?_) ?_ ?_
      rotate_left
      · show Act.put _ (some 36) _ = _
        simp only [Act.put, List.setIfInBounds_toArray, List.set_cons_zero, List.set_cons_succ, i64_w, i32_w]
        rfl
      refine one_ (i := 10) (N := some 37) #[true, true, true, true, true, true, true, true, true, true, true, false, false, false] rfl rfl (by kernel_rfl) (by decide) (fun K hK => ?_)
      refine goes_ Try.func25 (by kernel_rfl) rfl #[.slice A l.length c, .int .i64 i, .slice A8 1 c8] (by rfl) rfl rfl (by simp only [List.map_toArray, List.map_cons, List.map_nil]; rfl) ?_
      with_reducible refine (source_Source_Lower.insert (.slice A l.length c) l (⟨⟨pa, pn⟩, ⟨ms, mm⟩⟩ : S71) A8 c8 b _ i w0 _ HRD.out HX.out HLT.out hlen hi (below_then HB0.out hbw HBD.out) (Nat.le_trans hbw HBD.out.size)).mono ?_
      rintro e w9 ⟨v9, rfl, hR9, hB9, hG9⟩
      obtain ⟨A9, c9, rfl, hl9, hC9⟩ := Kd.R_reads hR9
      clear hC9
      refine ⟨_, rfl, ?_⟩
      have hgl := Nat.lt_of_not_le fun h => (show False by have := BKD.out; rw [Array.getElem?_eq_none h] at this; cases this)
      have fr9 := source_Source_Lower.Fr_grown HRD.out hG9
      have n0_ := Aside0.mk ((hG9.block g hgl (Kd.R_ne HRD.out BKD.out (by decide))).trans BKD.out)
      have n1_ := Aside0.mk ((fr9.2 g4 31 _ BK4D.out (by decide) (by decide)).trans BK4D.out)
      have n2_ := Aside0.mk ((fr9.2 g5 36 _ BK5D.out (by decide) (by decide)).trans BK5D.out)
      have n3_ := Aside0.mk (source_Source_Lower.Fr_trans HFD.out fr9)
      clear BKD BK4D BK5D HFD
      have BKD := n0_
      have BK4D := n1_
      have BK5D := n2_
      have HFD := n3_
      clear n0_ n1_ n2_ n3_
      clear hgl fr9
      refine hK.out _ _ ⟨(blk_cell BKD.out 0).trans rfl, (blk_cell BK4D.out 0).trans rfl, (blk_cell BK4D.out 1).trans rfl, (blk_cell BK5D.out 0).trans rfl, (blk_cell BK5D.out 1).trans rfl⟩ (fun hHeld => ?_)
      clear hK K
      refine norm_ (a' := ?_) ?_ ?_
      rotate_left
      · show Act.put _ (some 37) _ = _
        simp only [Act.put, List.setIfInBounds_toArray, List.set_cons_zero, List.set_cons_succ, i64_w, i32_w]
        rfl
      refine pure_ (i := 11) (N := some 38) (v := ?_) (a' := ?_) #[true, true, true, true, true, true, true, true, true, true, true, true, false, false] rfl rfl (by kernel_rfl) (fun _ _ _ h => h) (Or.inl ⟨by rfl, ?_⟩) ?_ ?_
      rotate_left
      · intro w'
        go_simp
        with_reducible rfl
      rotate_left
      · simp only [Act.put, List.setIfInBounds_toArray, List.set_cons_zero, List.set_cons_succ, i64_w, i32_w]
        rfl
      refine pure_ (i := 12) (N := some 39) (v := ?_) (a' := ?_) #[true, true, true, true, true, true, true, true, true, true, true, true, true, false] rfl rfl (by kernel_rfl) (fun _ _ _ h => h) (Or.inl ⟨by rfl, ?_⟩) ?_ ?_
      rotate_left
      · intro w'
        go_simp
        with_reducible rfl
      rotate_left
      · simp only [Act.put, List.setIfInBounds_toArray, List.set_cons_zero, List.set_cons_succ, i64_w, i32_w]
        rfl
      refine last_ (i := 13) (N := none) #[true, true, true, true, true, true, true, true, true, true, true, true, true, true] rfl rfl (by kernel_rfl) (by decide) (fun K hK => ?_)
      have y0 := blk_frozen BKD.out 0
      have hg0 : w9.cell? ⟨g, 0, none⟩ = some (.slice A l.length c) := (blk_cell BKD.out 0).trans rfl
      refine skip_ (w1 := ?_) (by rfl) rfl ?_ ?_
      rotate_left
      · go_simp
        rfl
      refine hK.out _ _ ?_
      clear hK K
      refine done_ (by kernel_rfl) ?_
      have hgl : g < w9.heap.size := Nat.lt_of_not_le fun h => by have := BKD.out; rw [Array.getElem?_eq_none h] at this; cases this
      have hfin : (∃ v', (w9.setCell ⟨g, 0, none⟩ (.slice A9 (l.take i ++ (⟨⟨pa, pn⟩, ⟨ms, mm⟩⟩ : S71) :: l.drop i).length c9)).heap[g]? = some (.cells #[v'] 64 (0, 0)) ∧ k71.R 71 (w9.setCell ⟨g, 0, none⟩ (.slice A9 (l.take i ++ (⟨⟨pa, pn⟩, ⟨ms, mm⟩⟩ : S71) :: l.drop i).length c9)) b (fun _ => True) v' (source_Source_Lower.lowL true mm (decide (i < l.length) && (cv i == 0)) l i ⟨(rd_T71 l (i : Int)).f0, ⟨b0, b1⟩⟩ ⟨⟨pa, pn⟩, ⟨ms, mm⟩⟩)) ∧ Below b w0 (w9.setCell ⟨g, 0, none⟩ (.slice A9 (l.take i ++ (⟨⟨pa, pn⟩, ⟨ms, mm⟩⟩ : S71) :: l.drop i).length c9)) ∧ source_Source_Lower.Fr w (w9.setCell ⟨g, 0, none⟩ (.slice A9 (l.take i ++ (⟨⟨pa, pn⟩, ⟨ms, mm⟩⟩ : S71) :: l.drop i).length c9)) := by
        refine ⟨⟨_, blk_put (cs := #[.slice A l.length c]) BKD.out 0 (.slice A9 (l.take i ++ (⟨⟨pa, pn⟩, ⟨ms, mm⟩⟩ : S71) :: l.drop i).length c9) rfl, ?_⟩, hB9.setCell hbg _, source_Source_Lower.Fr_trans HFD.out (source_Source_Lower.Fr_set BKD.out (.slice A9 (l.take i ++ (⟨⟨pa, pn⟩, ⟨ms, mm⟩⟩ : S71) :: l.drop i).length c9))⟩
        rw [hL]
        exact Kd.R_set hR9 BKD.out (by decide) 0 _
      rw [show (l.take i ++ (⟨⟨pa, pn⟩, ⟨ms, mm⟩⟩ : S71) :: l.drop i).length = i + (l.length - i + 1) from by simp only [List.length_append, List.length_take, List.length_cons, List.length_drop, Nat.min_eq_left hi]] at hfin
      go_wp2_with (fail)
      go_ret
      exact ⟨Eq.trans (b := Ending.returned (.int .i64 0)) rfl (congrArg (fun n => Ending.returned (Value.int IntKind.i64 n)) hE.symm), hfin⟩
theorem source_Source_Lower.new (w : World) : Calls Try.prog 7 #[] w fun e w' => ∃ g, e = .returned (.pointer (some ⟨g, 0, none⟩)) ∧ w'.heap[g]? = some (.cells #[.slice none 0 0] 64 (0, 0)) ∧ w.heap.size ≤ g ∧ Below w.heap.size w w' := by
  have hu64 := Try.underlying64
  go_enter Try.func7, Try.ntmps7
  go_wp2_with (((with_reducible refine gate_dst (N := 2) rfl ?_); (try (refine gate_guard (by rfl) ?_; dsimp only)); refine box_event ?hg (N := 2) ?hd (cs := #[.slice none 0 0]) (t := 64) ?hr ?_; (case hd => rfl); (case hg => rfl); (case hr => first | (go_simp; done) | (go_simp; rfl)); intro g2 hg w2 hbox hb; have BK2 := Aside0.mk hbox; have HB2 := Aside0.mk hb; have GE2 := Aside0.mk hg; clear hb hbox hg))
  go_ret
  exact ⟨g2, rfl, BK2.out, by rw [GE2.out]; exact Nat.le_refl _, HB2.out⟩

theorem source_Source_Lower.best (a b c d : Int) : ∃ b0 b1, serial_Best.f a b c d = some (b0, b1) := by
  have hn : ∀ p q r s, ∃ t, serial_Nearer.f p q r s = some t := by
    intro p q r s
    unfold serial_Nearer.f serial_Newer.f
    by_cases h : p = r
    · subst h
      simp
    · simp only [if_neg h, Option.bind_some]
      split
      · exact ⟨_, rfl⟩
      · exact ⟨_, rfl⟩
  unfold serial_Best.f
  obtain ⟨t, ht⟩ := hn c d a b
  rw [ht, Option.bind_some]
  split
  · exact ⟨_, _, rfl⟩
  · exact ⟨_, _, rfl⟩
def source_Source_Lower.f (T : List S71) (a1_0 a1_1 a2_0 a2_1 : Int) : Option (Int × List S71) :=
  (prefix_Right.f a1_0 a1_1).bind fun rt => if rt = true ∧ a2_1 ≠ 65535 then (if rowHit T a1_0 a1_1 = true then (serial_Best.f (rd_T71 T (rowPos T a1_0 a1_1 : Int)).f1.f0 (rd_T71 T (rowPos T a1_0 a1_1 : Int)).f1.f1 a2_0 a2_1).bind fun b => some (0, T.set (rowPos T a1_0 a1_1) ⟨(rd_T71 T (rowPos T a1_0 a1_1 : Int)).f0, ⟨b.1, b.2⟩⟩) else if 256 ≤ T.length then some (3, T) else some (0, T.take (rowPos T a1_0 a1_1) ++ ⟨⟨a1_0, a1_1⟩, ⟨a2_0, a2_1⟩⟩ :: T.drop (rowPos T a1_0 a1_1))) else some (1, T)
theorem source_Source_Lower.keep {w w' : World} (h : source_Source_Lower.Fr w w') : KeepT w w' := ⟨h.1, fun k hk => by
  obtain ⟨cs, t, hb, h1, h2⟩ := hk
  exact h.2 k t cs hb h2 h1⟩
theorem source_Source_Lower.calls (g : Nat) (T : List S71) (a1_0 a1_1 a2_0 a2_1 : Int) (r1 : Int) (r2 : List S71) (w0 w : World) (hI : IsS64 w0 w g T) (hB : Below w0.heap.size w0 w) (h : source_Source_Lower.f T a1_0 a1_1 a2_0 a2_1 = some (r1, r2)) :
    Calls Try.prog 9 #[.pointer (some ⟨g, 0, none⟩), .agg #[.int .u32 a1_0, .int .u8 a1_1], .agg #[.int .u16 a2_0, .int .u16 a2_1]] w fun e w' => e = .returned (.int .i64 r1) ∧ IsS64 w0 w' g r2 ∧ Below w0.heap.size w0 w' ∧ KeepT w w' := by
  unfold source_Source_Lower.f at h
  obtain ⟨rt, hrt, h⟩ := Option.bind_eq_some_iff.mp h
  obtain ⟨v, hg, hgb, hR, hs, hl⟩ := hI
  have hc := fun (_ : rt = true) => source_Source_find.hcmp T a1_0 a1_1 hs
  have fin : ∀ (b0 b1 : Int) (T2 : List S71), (rt = true → rowPos T a1_0 a1_1 < T.length → cmpI (rd_T71 T (rowPos T a1_0 a1_1 : Int)).f0.f0 (rd_T71 T (rowPos T a1_0 a1_1 : Int)).f0.f1 a1_0 a1_1 = 0 → serial_Best.f (rd_T71 T (rowPos T a1_0 a1_1 : Int)).f1.f0 (rd_T71 T (rowPos T a1_0 a1_1 : Int)).f1.f1 a2_0 a2_1 = some (b0, b1)) → T2 = source_Source_Lower.lowL rt a2_1 (rowHit T a1_0 a1_1) T (rowPos T a1_0 a1_1) ⟨(rd_T71 T (rowPos T a1_0 a1_1 : Int)).f0, ⟨b0, b1⟩⟩ ⟨⟨a1_0, a1_1⟩, ⟨a2_0, a2_1⟩⟩ → rowInv T2 → r1 = source_Source_Lower.lowE rt a2_1 (rowHit T a1_0 a1_1) T.length → r2 = T2 →
      Calls Try.prog 9 #[.pointer (some ⟨g, 0, none⟩), .agg #[.int .u32 a1_0, .int .u8 a1_1], .agg #[.int .u16 a2_0, .int .u16 a2_1]] w fun e w' => e = .returned (.int .i64 r1) ∧ IsS64 w0 w' g r2 ∧ Below w0.heap.size w0 w' ∧ KeepT w w' := by
    intro b0 b1 T2 hb hT hv he ht
    refine (source_Source_Lower.inner 3 g w0.heap.size v T a1_0 a1_1 a2_0 a2_1 (rowPos T a1_0 a1_1) (fun j => cmpI (rd_T71 T (j : Int)).f0.f0 (rd_T71 T (j : Int)).f0.f1 a1_0 a1_1) rt b0 b1 w0 w hg hR hgb hB.size hB (by omega) (rowPos_le _ _ _) hrt hc hb).mono ?_
    rintro e w' ⟨rfl, ⟨v', h1, h2⟩, h3, h4⟩
    refine ⟨by rw [he]; rfl, ⟨v', h1, hgb, ?_, ?_⟩, h3, source_Source_Lower.keep h4⟩
    · rw [ht, hT]
      exact h2
    · rw [ht]
      exact hv
  by_cases hgo : rt = true ∧ a2_1 ≠ 65535
  · rw [if_pos hgo] at h
    by_cases hf : rowHit T a1_0 a1_1 = true
    · rw [if_pos hf] at h
      obtain ⟨⟨b0, b1⟩, hb, h⟩ := Option.bind_eq_some_iff.mp h
      simp only [Option.some.injEq, Prod.mk.injEq] at h
      obtain ⟨rfl, rfl⟩ := h
      have hlt : rowPos T a1_0 a1_1 < T.length := by
        have h2 := hf
        unfold rowHit at h2
        rw [Bool.and_eq_true, decide_eq_true_iff] at h2
        exact h2.1
      exact fin b0 b1 _ (fun _ _ _ => hb) (by rw [hgo.1]; exact (source_Source_Lower.lowL_yes T _ _ _ hgo.2 hf).symm) ⟨rowSet_srt T _ _ hs hlt (by rw [rd_cast T _ hlt]) (by rw [rd_cast T _ hlt]), by rw [List.length_set]; exact hl⟩ (by rw [hgo.1]; exact (source_Source_Lower.lowE_yes _ hgo.2 hf).symm) rfl
    · have hf' : rowHit T a1_0 a1_1 = false := by simpa using hf
      have nob : ∀ b0 b1 : Int, (rt = true → rowPos T a1_0 a1_1 < T.length → cmpI (rd_T71 T (rowPos T a1_0 a1_1 : Int)).f0.f0 (rd_T71 T (rowPos T a1_0 a1_1 : Int)).f0.f1 a1_0 a1_1 = 0 → serial_Best.f (rd_T71 T (rowPos T a1_0 a1_1 : Int)).f1.f0 (rd_T71 T (rowPos T a1_0 a1_1 : Int)).f1.f1 a2_0 a2_1 = some (b0, b1)) := fun b0 b1 _ h1 h2 => absurd (by unfold rowHit; rw [Bool.and_eq_true, decide_eq_true_iff, beq_iff_eq]; exact ⟨h1, h2⟩) hf
      rw [if_neg hf] at h
      by_cases hful : 256 ≤ T.length
      · rw [if_pos hful] at h
        simp only [Option.some.injEq, Prod.mk.injEq] at h
        obtain ⟨rfl, rfl⟩ := h
        exact fin 0 0 _ (nob 0 0) (by rw [hgo.1]; exact (source_Source_Lower.lowL_full T _ _ _ hgo.2 hf' hful).symm) ⟨hs, hl⟩ (by rw [hgo.1]; exact (source_Source_Lower.lowE_full hgo.2 hf' hful).symm) rfl
      · rw [if_neg hful] at h
        simp only [Option.some.injEq, Prod.mk.injEq] at h
        obtain ⟨rfl, rfl⟩ := h
        refine fin 0 0 _ (nob 0 0) (by rw [hgo.1]; exact (source_Source_Lower.lowL_new T _ _ _ hgo.2 hf' hful).symm) ⟨rowIns_srt T ⟨⟨a1_0, a1_1⟩, ⟨a2_0, a2_1⟩⟩ hs hf', ?_⟩ (by rw [hgo.1]; exact (source_Source_Lower.lowE_new hgo.2 hf' hful).symm) rfl
        have := rowPos_le T a1_0 a1_1
        simp only [List.length_append, List.length_take, List.length_cons, List.length_drop]
        omega
  · rw [if_neg hgo] at h
    simp only [Option.some.injEq, Prod.mk.injEq] at h
    obtain ⟨rfl, rfl⟩ := h
    by_cases hf : rowHit T a1_0 a1_1 = true ∧ rt = true
    · have hm : a2_1 = 65535 := by
        by_cases hm : a2_1 = 65535
        · exact hm
        · exact absurd ⟨hf.2, hm⟩ hgo
      obtain ⟨b0, b1, hb⟩ : ∃ b0 b1, serial_Best.f (rd_T71 T (rowPos T a1_0 a1_1 : Int)).f1.f0 (rd_T71 T (rowPos T a1_0 a1_1 : Int)).f1.f1 a2_0 a2_1 = some (b0, b1) := source_Source_Lower.best _ _ _ _
      exact fin b0 b1 T (fun _ _ _ => hb) (source_Source_Lower.lowL_no _ T _ _ _ hgo).symm ⟨hs, hl⟩ (source_Source_Lower.lowE_no _ _ hgo).symm rfl
    · refine fin 0 0 T (fun h0 h1 h2 => absurd ⟨?_, h0⟩ hf) (source_Source_Lower.lowL_no _ T _ _ _ hgo).symm ⟨hs, hl⟩ (source_Source_Lower.lowE_no _ _ hgo).symm rfl
      unfold rowHit
      rw [Bool.and_eq_true, decide_eq_true_iff, beq_iff_eq]
      exact ⟨h1, h2⟩

end Go.Proofs.Ytkngncckidlniaa.QSourcePlays
