-- Lines by a program of this session, for this claim.
import Derived.Test.YtkngncckidlniaaQSourceSinksx0
import Derived.Test.YtkngncckidlniaaQSourceSinksx1
import Derived.Test.YtkngncckidlniaaQSourceSinksx2
namespace Go.Proofs.Ytkngncckidlniaa.QSourceSinks
open Go.RowKit Go.Proofs.YtkngncckidlniaaW.PrintWords Go.Proofs.YtkngncckidlniaaW.PrintLast Go.Proofs.YtkngncckidlniaaW.PrintMore
attribute [local go_sem] max2_int min2_int max_two min_two max_three min_three max_four min_four   -- for this text's walks alone
set_option linter.unusedVariables false
set_option linter.unusedSimpArgs false

/-! ### source_entry_46: function 46 -/
-- NOT PRINTED: function 43 (source_entry_43)

-- NOT PRINTED: function 37 (source_entry_37)

-- NOT PRINTED: function 25 (source_entry_25)

/-! ### source_Source_Lower: function 9 -/
def source_Source_Lower.Fr (w w' : World) : Prop := w.heap.size ≤ w'.heap.size ∧ ∀ (k t : Nat) (cs : Array Value), w.heap[k]? = some (.cells cs t (0, 0)) → t ≠ 64 → t ≠ 71 → w'.heap[k]? = w.heap[k]?
theorem source_Source_Lower.Fr_below {w w' : World} (h : Below w.heap.size w w') : source_Source_Lower.Fr w w' := ⟨h.size, fun k t cs hk _ _ => h.block k (by
  rcases Nat.lt_or_ge k w.heap.size with hlt | hge
  · exact hlt
  · rw [Array.getElem?_eq_none hge] at hk; cases hk)⟩
theorem source_Source_Lower.Fr_trans {w w1 w2 : World} (h : source_Source_Lower.Fr w w1) (h' : source_Source_Lower.Fr w1 w2) : source_Source_Lower.Fr w w2 := ⟨Nat.le_trans h.1 h'.1, fun k t cs hk h1 h2 => by
  have e := h.2 k t cs hk h1 h2
  rw [h'.2 k t cs (e.trans hk) h1 h2, e]⟩
theorem source_Source_Lower.Fr_grown {w w' : World} {v : Value} {l : List S71} {b : Nat} {ok : Nat → Prop} (hR : k71.R 71 w b ok v l) (h : w.grownBy w' v.ownBlock) : source_Source_Lower.Fr w w' := ⟨h.size, fun k t cs hk _ h2 => h.block k (by
  rcases Nat.lt_or_ge k w.heap.size with hlt | hge
  · exact hlt
  · rw [Array.getElem?_eq_none hge] at hk; cases hk) (Kd.R_ne hR hk (fun e => h2 e.symm))⟩
set_option maxHeartbeats 4000000 in
set_option maxRecDepth 100000 in
theorem source_Source_Lower.ins (v : Value) (l : List S71) (x : S71) (Ax : Option Addr) (cx b : Nat) (w0 w : World) (hR : k71.R 71 w b (fun _ => True) v l) (hx : Kd.C k71 w Ax 1 [x]) (hl : l.length ≤ 1000) (hB : Below b w0 w) (hb : b ≤ w.heap.size) :
    Calls Try.prog 25 #[v, .int .i64 l.length, .slice Ax 1 cx] w fun e w' => ∃ v', e = .returned v' ∧ k71.R 71 w' b (fun _ => True) v' (l ++ [x]) ∧ Below b w0 w' ∧ w.grownBy w' v.ownBlock := by
  obtain ⟨A, c, rfl, hlc, hC⟩ := Kd.R_reads hR
  have HR := Aside0.mk hR
  have HX := Aside0.mk hx
  have HB := Aside0.mk hB
  clear hR hx hB hC
  go_enter Try.func25, Try.ntmps25
  have q1 : decide (0 ≤ (l.length : Int)) = true := decide_eq_true (by omega)
  have q2 : decide ((l.length : Int) ≤ (c : Int)) = true := decide_eq_true (by omega)
  go_wp2_with ((with_reducible refine gate_builtin (b := .append) (xs := #[.tmp 23, .tmp 24]) rfl ?_); at_builtin; refine Kd.R_append_rows k71 (w0 := w0) b rfl (.tmp 23) (.tmp 24) 62 71 (.agg #[.int .u32 0, .int .u8 0, .int .u16 0, .int .u16 0]) 12 rfl Try.underlying62 (by kernel_rfl) rfl (by decide) (by omega) (.slice A l.length c) l [x] Ax 1 cx (fun _ => True) (fun _ => False) rfl rfl HR.out HX.out (fun x cs hk => by rw [k71_open hk]; exact k71_mkM w b _ x) (fun _ h => h.elim) (fun _ _ => trivial) HB.out hb (by omega) ?_; intro v1 w1 hR1 hB1 hG1 _)
  all_goals
    go_ret
    first
      | exact ⟨v1, rfl, hR1, hB1, hG1⟩
      | exact ⟨v1, rfl, hR1, hB1, by rw [show (Value.slice A l.length l.length).ownBlock = (Value.slice A l.length c).ownBlock from by cases A <;> rfl]; exact hG1⟩
def source_Source_Lower.lowE (rt : Bool) (mm : Int) (fd : Bool) (n : Nat) : Int := if rt = true ∧ mm ≠ 65535 then (if fd = true then 0 else if 256 ≤ n then 3 else 0) else 1
def source_Source_Lower.lowL (rt : Bool) (mm : Int) (fd : Bool) (l : List S71) (i : Nat) (y x : S71) : List S71 := if rt = true ∧ mm ≠ 65535 then (if fd = true then l.set i y else if 256 ≤ l.length then l else l.take i ++ x :: l.drop i) else l
theorem source_Source_Lower.lowE_no {rt : Bool} {mm : Int} (fd : Bool) (n : Nat) (h : ¬ (rt = true ∧ mm ≠ 65535)) : source_Source_Lower.lowE rt mm fd n = 1 := if_neg h
theorem source_Source_Lower.lowL_no {rt : Bool} {mm : Int} (fd : Bool) (l : List S71) (i : Nat) (y x : S71) (h : ¬ (rt = true ∧ mm ≠ 65535)) : source_Source_Lower.lowL rt mm fd l i y x = l := if_neg h
theorem source_Source_Lower.lowE_yes {mm : Int} {fd : Bool} (n : Nat) (h : mm ≠ 65535) (hf : fd = true) : source_Source_Lower.lowE true mm fd n = 0 := (if_pos ⟨rfl, h⟩).trans (if_pos hf)
theorem source_Source_Lower.lowL_yes {mm : Int} {fd : Bool} (l : List S71) (i : Nat) (y x : S71) (h : mm ≠ 65535) (hf : fd = true) : source_Source_Lower.lowL true mm fd l i y x = l.set i y := (if_pos ⟨rfl, h⟩).trans (if_pos hf)
theorem source_Source_Lower.lowE_full {mm : Int} {fd : Bool} {n : Nat} (h : mm ≠ 65535) (hf : fd = false) (hn : 256 ≤ n) : source_Source_Lower.lowE true mm fd n = 3 := (if_pos ⟨rfl, h⟩).trans ((if_neg (by simp [hf])).trans (if_pos hn))
theorem source_Source_Lower.lowL_full {mm : Int} {fd : Bool} (l : List S71) (i : Nat) (y x : S71) (h : mm ≠ 65535) (hf : fd = false) (hn : 256 ≤ l.length) : source_Source_Lower.lowL true mm fd l i y x = l := (if_pos ⟨rfl, h⟩).trans ((if_neg (by simp [hf])).trans (if_pos hn))
theorem source_Source_Lower.lowE_new {mm : Int} {fd : Bool} {n : Nat} (h : mm ≠ 65535) (hf : fd = false) (hn : ¬ 256 ≤ n) : source_Source_Lower.lowE true mm fd n = 0 := (if_pos ⟨rfl, h⟩).trans ((if_neg (by simp [hf])).trans (if_neg hn))
theorem source_Source_Lower.lowL_new {mm : Int} {fd : Bool} (l : List S71) (i : Nat) (y x : S71) (h : mm ≠ 65535) (hf : fd = false) (hn : ¬ 256 ≤ l.length) : source_Source_Lower.lowL true mm fd l i y x = l.take i ++ x :: l.drop i := (if_pos ⟨rfl, h⟩).trans ((if_neg (by simp [hf])).trans (if_neg hn))
theorem source_Source_Lower.Fr_set {w : World} {g : Nat} {cs : Array Value} (hg : w.heap[g]? = some (.cells cs 64 (0, 0))) (u : Value) : source_Source_Lower.Fr w (w.setCell ⟨g, 0, none⟩ u) := ⟨Nat.le_of_eq (by simp), fun k t c hk h1 _ => Below.heap_setCell w ⟨g, 0, none⟩ u k (fun e => by
  obtain rfl : k = g := e
  rw [hg] at hk
  injection hk with hk
  injection hk with _ ht
  exact h1 ht.symm)⟩
set_option maxHeartbeats 4000000 in
set_option maxRecDepth 100000 in
theorem source_Source_Lower.calls (k g b : Nat) (v : Value) (l : List S71) (pa pn ms mm : Int) (i : Nat) (cv : Nat → Int) (rt : Bool) (b0 b1 : Int) (w0 w : World) (hg : w.heap[g]? = some (.cells #[v] 64 (0, 0))) (hR : k71.R 71 w b (fun _ => True) v l) (hbg : b ≤ g) (hbw : b ≤ w.heap.size) (hB : Below b w0 w) (hlen : l.length ≤ 1000) (hi : i ≤ l.length)
    (hrt : prefix_Right.f pa pn = some rt) (hcmp : rt = true → ∀ j : Nat, j < l.length → prefix_Compare.f k (rd_T71 l (j : Int)).f0.f0 (rd_T71 l (j : Int)).f0.f1 pa pn = some (cv j) ∧ (cv j < 0 ↔ j < i))
    (hbest : rt = true → i < l.length → cv i = 0 → serial_Best.f (rd_T71 l (i : Int)).f1.f0 (rd_T71 l (i : Int)).f1.f1 ms mm = some (b0, b1)) (hend : rt = true → (decide (i < l.length) && (cv i == 0)) = false → i = l.length) :
    Calls Try.prog 9 #[.pointer (some ⟨g, 0, none⟩), .agg #[.int .u32 pa, .int .u8 pn], .agg #[.int .u16 ms, .int .u16 mm]] w fun e w' => e = .returned (.int .i64 (source_Source_Lower.lowE rt mm (decide (i < l.length) && (cv i == 0)) l.length)) ∧ (∃ v', w'.heap[g]? = some (.cells #[v'] 64 (0, 0)) ∧ k71.R 71 w' b (fun _ => True) v' (source_Source_Lower.lowL rt mm (decide (i < l.length) && (cv i == 0)) l i ⟨(rd_T71 l (i : Int)).f0, ⟨b0, b1⟩⟩ ⟨⟨pa, pn⟩, ⟨ms, mm⟩⟩)) ∧ Below b w0 w' ∧ source_Source_Lower.Fr w w' := by
  have hu31 := Try.underlying31
  have hu36 := Try.underlying36
  obtain ⟨A, c, rfl, hlc, hC⟩ := Kd.R_reads hR
  have HC := Aside0.mk hC
  have HR := Aside0.mk hR
  have HM := Aside0.mk hcmp
  have HBE := Aside0.mk hbest
  have HEN := Aside0.mk hend
  have HRT := Aside0.mk hrt
  have BKg := Aside0.mk hg
  have HB0 := Aside0.mk hB
  clear hC hR hcmp hbest hend hrt hg hB
  go_enter Try.func9, Try.ntmps9
  go_wp2_with (first | ((with_reducible refine gate_dst (N := 4) rfl ?_); (try (refine gate_guard (by rfl) ?_; dsimp only)); refine box_event ?hg (N := 4) ?hd (cs := #[.int .u32 pa, .int .u8 pn]) (t := 31) ?hr ?_; (case hd => rfl); (case hg => rfl); (case hr => first | (go_simp; done) | (go_simp; rfl)); intro g4 hg w4 hbox hb; have BK4 := Aside0.mk hbox; have HB4 := Aside0.mk hb; clear hb hbox hg) | ((with_reducible refine gate_dst (N := 5) rfl ?_); (try (refine gate_guard (by rfl) ?_; dsimp only)); refine box_event ?hg (N := 5) ?hd (cs := #[.int .u16 ms, .int .u16 mm]) (t := 36) ?hr ?_; (case hd => rfl); (case hg => rfl); (case hr => first | (go_simp; done) | (go_simp; rfl)); intro g5 hg w5 hbox hb; have BK5 := Aside0.mk hbox; have BK45 := Aside0.mk (blk_below BK4.out hb); have HB5 := Aside0.mk (below_step HB4.out hb); clear hb hbox hg BK4 HB4; have hp0 : w5.cell? ⟨g4, 0, none⟩ = some (.int .u32 pa) := (blk_cell BK45.out 0).trans rfl; have hp1 : w5.cell? ⟨g4, 1, none⟩ = some (.int .u8 pn) := (blk_cell BK45.out 1).trans rfl; have hm0 : w5.cell? ⟨g5, 0, none⟩ = some (.int .u16 ms) := (blk_cell BK5.out 0).trans rfl; have hm1 : w5.cell? ⟨g5, 1, none⟩ = some (.int .u16 mm) := (blk_cell BK5.out 1).trans rfl))
  refine (prefix_Right.calls pa pn rt _ HRT.out).mono ?_
  rintro e w6 ⟨rfl, hb⟩
  have BK46 := Aside0.mk (blk_below BK45.out hb)
  have BK56 := Aside0.mk (blk_below BK5.out hb)
  have HB6 := Aside0.mk (below_step HB5.out hb)
  clear hb hp0 hp1 hm0 hm1 BK45 BK5 HB5
  have BKg6 := Aside0.mk (blk_below BKg.out HB6.out)
  have HR6 := Aside0.mk (Kd.R_below HR.out HB6.out)
  have HB06 := Aside0.mk (below_then HB0.out hbw HB6.out)
  have hm0 : w6.cell? ⟨g5, 0, none⟩ = some (.int .u16 ms) := (blk_cell BK56.out 0).trans rfl
  have hm1 : w6.cell? ⟨g5, 1, none⟩ = some (.int .u16 mm) := (blk_cell BK56.out 1).trans rfl
  have hp0 : w6.cell? ⟨g4, 0, none⟩ = some (.int .u32 pa) := (blk_cell BK46.out 0).trans rfl
  have hp1 : w6.cell? ⟨g4, 1, none⟩ = some (.int .u8 pn) := (blk_cell BK46.out 1).trans rfl
  by_cases hgo : ¬ (rt = true ∧ mm ≠ 65535)
  · have qq : (!rt || (mm == 65535)) = true := by cases rt <;> simp_all
    have hE := source_Source_Lower.lowE_no (decide (i < l.length) && (cv i == 0)) l.length hgo
    have hL := source_Source_Lower.lowL_no (decide (i < l.length) && (cv i == 0)) l i ⟨(rd_T71 l (i : Int)).f0, ⟨b0, b1⟩⟩ ⟨⟨pa, pn⟩, ⟨ms, mm⟩⟩ hgo
    cases rt
    · go_wp2_with (fail)
      go_ret
      exact ⟨Eq.trans (b := Ending.returned (.int .i64 1)) rfl (congrArg (fun n => Ending.returned (Value.int IntKind.i64 n)) hE.symm), ⟨_, BKg6.out, by rw [hL]; exact HR6.out⟩, HB06.out, source_Source_Lower.Fr_below HB6.out⟩
    · have q1 : (mm == 65535) = true := by simpa using qq
      go_wp2_with (fail)
      go_ret
      exact ⟨Eq.trans (b := Ending.returned (.int .i64 1)) rfl (congrArg (fun n => Ending.returned (Value.int IntKind.i64 n)) hE.symm), ⟨_, BKg6.out, by rw [hL]; exact HR6.out⟩, HB06.out, source_Source_Lower.Fr_below HB6.out⟩
  have hgo' : rt = true ∧ mm ≠ 65535 := Decidable.not_not.1 hgo
  obtain ⟨rfl, hmm⟩ := hgo'
  have q1 : (mm == 65535) = false := beq_eq_false_iff_ne.mpr hmm
  go_wp2_with (fail)
  refine (source_Source_find.calls k g A c l pa pn i cv _ BKg6.out (Kd.C_below HC.out HB6.out) hlen hi (HM.out (by trivial))).mono ?_
  rintro e w7 ⟨rfl, hb⟩
  have BK47 := Aside0.mk (blk_below BK46.out hb)
  have BK57 := Aside0.mk (blk_below BK56.out hb)
  have BKg7 := Aside0.mk (blk_below BKg6.out hb)
  have HB7 := Aside0.mk (below_step HB6.out hb)
  have HR7 := Aside0.mk (Kd.R_below HR6.out hb)
  have HB07 := Aside0.mk (below_then HB0.out hbw HB7.out)
  clear hb hp0 hp1 hm0 hm1 BK46 BK56 BKg6 HB6 HB06 HR6
  have hg0 : w7.cell? ⟨g, 0, none⟩ = some (.slice A l.length c) := (blk_cell BKg7.out 0).trans rfl
  by_cases hf : (decide (i < l.length) && (cv i == 0)) = true
  · have hE := source_Source_Lower.lowE_yes l.length hmm hf
    have hL := source_Source_Lower.lowL_yes l i ⟨(rd_T71 l (i : Int)).f0, ⟨b0, b1⟩⟩ ⟨⟨pa, pn⟩, ⟨ms, mm⟩⟩ hmm hf
    rw [Bool.and_eq_true, decide_eq_true_iff, beq_iff_eq] at hf
    obtain ⟨hlt, h0⟩ := hf
    have q2 : decide (i < l.length) = true := decide_eq_true hlt
    have q3 : (cv i == 0) = true := beq_iff_eq.mpr h0
    have p1 : decide (0 ≤ (i : Int)) = true := decide_eq_true (by omega)
    have p2 : decide ((i : Int) < (l.length : Int)) = true := decide_eq_true (by omega)
    have HBS := Aside0.mk (HBE.out (by trivial) hlt h0)
    obtain ⟨gr, cp, e0, hbgr, hgr, cells, hcells⟩ := Kd.R_form HR7.out (by omega)
    injection e0 with e1 _ e2
    subst e1 e2
    have BKr := Aside0.mk hcells
    have BKD := Aside0.mk (blk_drew BKg7.out)
    have BK5D := Aside0.mk (blk_drew BK57.out)
    have BKrD := Aside0.mk (blk_drew BKr.out)
    have HBD := Aside0.mk (below_drew1 HB7.out)
    have HRD := Aside0.mk (Kd.R_drew HR7.out)
    have HFD := Aside0.mk (source_Source_Lower.Fr_below HBD.out)
    clear BKg7 BK57 BKr HB7 HR7 BK47 hg0 hcells HB07
    obtain ⟨ad_, e0, hx0, hx1, hx2, hx3⟩ := at_T71 (Kd.C_below HC.out HBD.out) (i : Int) (by omega) (by omega)
    cases e0
    simp only [Int.toNat_natCast, add_plain] at hx0 hx1 hx2 hx3
    go_upto_region 8 with (fail)
    refine start_ (n := 18) (S := fun w' => w'.cell? ⟨g, 0, none⟩ = some (.slice (some ⟨gr, 0, none⟩) l.length c) ∧ w'.cell? ⟨gr, i * 4 + 2, none⟩ = some (.int .u16 (rd_T71 l (i : Int)).f1.f0) ∧ w'.cell? ⟨gr, i * 4 + 3, none⟩ = some (.int .u16 (rd_T71 l (i : Int)).f1.f1) ∧ w'.cell? ⟨g5, 0, none⟩ = some (.int .u16 ms) ∧ w'.cell? ⟨g5, 1, none⟩ = some (.int .u16 mm)) (ds := [17]) #[false, false, false, false, false, false, false, false, false, false, false, false, false, false, false, false, false, false] (by kernel_rfl) rfl rfl ⟨(blk_cell BKD.out 0).trans rfl, hx2, hx3, (blk_cell BK5D.out 0).trans rfl, (blk_cell BK5D.out 1).trans rfl⟩ (fun hHeld => ?_)
    generalize w7.drew = wd at hx0 hx1 hx2 hx3 BKD BK5D BKrD HBD HRD HFD hHeld ⊢
    refine pure_ (i := 0) (N := some 42) (v := ?_) (a' := ?_) #[true, false, false, false, false, false, false, false, false, false, false, false, false, false, false, false, false, false] rfl rfl (by kernel_rfl) (fun _ _ _ h => h) (Or.inl ⟨by rfl, ?_⟩) ?_ ?_
    rotate_left
    · intro w'
      go_simp
      with_reducible rfl
    rotate_left
    · simp only [Act.put, List.setIfInBounds_toArray, List.set_cons_zero, List.set_cons_succ, i64_w, i32_w]
      rfl
    refine pure_ (i := 1) (N := some 43) (v := ?_) (a' := ?_) #[true, true, false, false, false, false, false, false, false, false, false, false, false, false, false, false, false, false] rfl rfl (by kernel_rfl) (fun _ _ _ h => h) (Or.inl ⟨by rfl, ?_⟩) ?_ ?_
    rotate_left
    · intro w'
      go_simp
      with_reducible rfl
    rotate_left
    · simp only [Act.put, List.setIfInBounds_toArray, List.set_cons_zero, List.set_cons_succ, i64_w, i32_w]
      rfl
    refine pure_ (i := 2) (N := some 44) (v := ?_) (a' := ?_) #[true, true, true, false, false, false, false, false, false, false, false, false, false, false, false, false, false, false] rfl rfl (by kernel_rfl) (fun _ _ _ h => h) (Or.inl ⟨by rfl, ?_⟩) ?_ ?_
    rotate_left
    · intro w'
      go_simp
      with_reducible rfl
    rotate_left
    · simp only [Act.put, List.setIfInBounds_toArray, List.set_cons_zero, List.set_cons_succ, i64_w, i32_w]
      rfl
    refine pure_ (i := 4) (N := some 46) (v := ?_) (a' := ?_) #[true, true, true, false, true, false, false, false, false, false, false, false, false, false, false, false, false, false] rfl rfl (by kernel_rfl) (fun _ _ _ h => h) (Or.inl ⟨by rfl, ?_⟩) ?_ ?_
    rotate_left
    · intro w'
      go_simp
      with_reducible rfl
    rotate_left
    · simp only [Act.put, List.setIfInBounds_toArray, List.set_cons_zero, List.set_cons_succ, i64_w, i32_w]
      rfl
    refine pure_ (i := 5) (N := some 47) (v := ?_) (a' := ?_) #[true, true, true, false, true, true, false, false, false, false, false, false, false, false, false, false, false, false] rfl rfl (by kernel_rfl) (fun _ _ _ h => h) (Or.inl ⟨by rfl, ?_⟩) ?_ ?_
    rotate_left
    · intro w'
      go_simp
      with_reducible rfl
    rotate_left
    · simp only [Act.put, List.setIfInBounds_toArray, List.set_cons_zero, List.set_cons_succ, i64_w, i32_w]
      rfl
    refine pure_ (i := 6) (N := some 48) (v := ?_) (a' := ?_) #[true, true, true, false, true, true, true, false, false, false, false, false, false, false, false, false, false, false] rfl rfl (by kernel_rfl) (fun _ _ _ h => h) (Or.inl ⟨by rfl, ?_⟩) ?_ ?_
    rotate_left
    · intro w'
      go_simp
      with_reducible rfl
    rotate_left
    · simp only [Act.put, List.setIfInBounds_toArray, List.set_cons_zero, List.set_cons_succ, i64_w, i32_w]
      rfl
    refine pure_ (i := 7) (N := some 49) (v := ?_) (a' := ?_) #[true, true, true, false, true, true, true, true, false, false, false, false, false, false, false, false, false, false] rfl rfl (by kernel_rfl) (fun _ _ _ h => h) (Or.inl ⟨by rfl, ?_⟩) ?_ ?_
    rotate_left
    · intro w'
      go_simp
      with_reducible rfl
    rotate_left
    · simp only [Act.put, List.setIfInBounds_toArray, List.set_cons_zero, List.set_cons_succ, i64_w, i32_w]
      rfl
    refine pure_ (i := 9) (N := some 51) (v := ?_) (a' := ?_) #[true, true, true, false, true, true, true, true, false, true, false, false, false, false, false, false, false, false] rfl rfl (by kernel_rfl) (fun _ _ _ h => h) (Or.inl ⟨by rfl, ?_⟩) ?_ ?_
    rotate_left
    · intro w'
      go_simp
      with_reducible rfl
    rotate_left
    · simp only [Act.put, List.setIfInBounds_toArray, List.set_cons_zero, List.set_cons_succ, i64_w, i32_w]
      rfl
    refine take_ (i := 3) (N := some 45) (v := ?_) (a' := ?_) #[true, true, true, true, true, true, true, true, false, true, false, false, false, false, false, false, false, false] rfl rfl (by kernel_rfl) (fun _ _ _ h => h) (Or.inl ⟨by rfl, ?_⟩) hHeld ?_ ?_
    rotate_left
    · rintro w' ⟨s0, s1, s2, s3, s4⟩
      go_simp
      with_reducible rfl
    rotate_left
    · simp only [Act.put, List.setIfInBounds_toArray, List.set_cons_zero, List.set_cons_succ, i64_w, i32_w]
      rfl
    refine take_ (i := 8) (N := some 50) (v := ?_) (a' := ?_) #[true, true, true, true, true, true, true, true, true, true, false, false, false, false, false, false, false, false] rfl rfl (by kernel_rfl) (fun _ _ _ h => h) (Or.inl ⟨by rfl, ?_⟩) hHeld ?_ ?_
    rotate_left
    · rintro w' ⟨s0, s1, s2, s3, s4⟩
      go_simp
      with_reducible rfl
    rotate_left
    · simp only [Act.put, List.setIfInBounds_toArray, List.set_cons_zero, List.set_cons_succ, i64_w, i32_w]
      rfl
    refine pure_ (i := 10) (N := some 52) (v := ?_) (a' := ?_) #[true, true, true, true, true, true, true, true, true, true, true, false, false, false, false, false, false, false] rfl rfl (by kernel_rfl) (fun _ _ _ h => h) (Or.inl ⟨by rfl, ?_⟩) ?_ ?_
    rotate_left
    · intro w'
      go_simp
      with_reducible rfl
    rotate_left
    · simp only [Act.put, List.setIfInBounds_toArray, List.set_cons_zero, List.set_cons_succ, i64_w, i32_w]
      rfl
    refine pure_ (i := 11) (N := some 53) (v := ?_) (a' := ?_) #[true, true, true, true, true, true, true, true, true, true, true, true, false, false, false, false, false, false] rfl rfl (by kernel_rfl) (fun _ _ _ h => h) (Or.inl ⟨by rfl, ?_⟩) ?_ ?_
    rotate_left
    · intro w'
      go_simp
      with_reducible rfl
    rotate_left
    · simp only [Act.put, List.setIfInBounds_toArray, List.set_cons_zero, List.set_cons_succ, i64_w, i32_w]
      rfl
    refine take_ (i := 12) (N := some 54) (v := ?_) (a' := ?_) #[true, true, true, true, true, true, true, true, true, true, true, true, true, false, false, false, false, false] rfl rfl (by kernel_rfl) (fun _ _ _ h => h) (Or.inl ⟨by rfl, ?_⟩) hHeld ?_ ?_
    rotate_left
    · rintro w' ⟨s0, s1, s2, s3, s4⟩
      go_simp
      with_reducible rfl
    rotate_left
    · simp only [Act.put, List.setIfInBounds_toArray, List.set_cons_zero, List.set_cons_succ, i64_w, i32_w]
      rfl
    refine take_ (i := 13) (N := some 55) (v := ?_) (a' := ?_) #[true, true, true, true, true, true, true, true, true, true, true, true, true, true, false, false, false, false] rfl rfl (by kernel_rfl) (fun _ _ _ h => h) (Or.inl ⟨by rfl, ?_⟩) hHeld ?_ ?_
    rotate_left
    · rintro w' ⟨s0, s1, s2, s3, s4⟩
      go_simp
      with_reducible rfl
    rotate_left
    · simp only [Act.put, List.setIfInBounds_toArray, List.set_cons_zero, List.set_cons_succ, i64_w, i32_w]
      rfl
    refine one_ (i := 14) (N := some 56) #[true, true, true, true, true, true, true, true, true, true, true, true, true, true, true, false, false, false] rfl rfl (by kernel_rfl) (by decide) (fun K hK => ?_)
    refine goes_ Try.func24 (by kernel_rfl) rfl #[.agg #[.int .u16 (rd_T71 l (i : Int)).f1.f0, .int .u16 (rd_T71 l (i : Int)).f1.f1], .agg #[.int .u16 ms, .int .u16 mm]] (by rfl) rfl rfl (by simp only [List.map_toArray, List.map_cons, List.map_nil]; rfl) ?_
    with_reducible refine (serial_Best.calls (rd_T71 l (i : Int)).f1.f0 (rd_T71 l (i : Int)).f1.f1 ms mm b0 b1 _ HBS.out).mono ?_
    rintro e w8 ⟨rfl, hb⟩
    refine ⟨_, rfl, ?_⟩
    have n0_ := Aside0.mk (blk_below BKD.out hb)
    have n1_ := Aside0.mk (blk_below BK5D.out hb)
    have n2_ := Aside0.mk (blk_below BKrD.out hb)
    have n3_ := Aside0.mk (source_Source_Lower.Fr_trans HFD.out (source_Source_Lower.Fr_below hb))
    have n4_ := Aside0.mk (Kd.R_below HRD.out hb)
    have n5_ := Aside0.mk (below_step HBD.out hb)
    clear BKD BK5D BKrD HFD HRD HBD
    have BKD := n0_
    have BK5D := n1_
    have BKrD := n2_
    have HFD := n3_
    have HRD := n4_
    have HBD := n5_
    clear n0_ n1_ n2_ n3_ n4_ n5_
    clear hb hx0 hx1 hx2 hx3
    obtain ⟨ad_, e0, hx0, hx1, hx2, hx3⟩ := at_T71 (Kd.C_below HC.out HBD.out) (i : Int) (by omega) (by omega)
    cases e0
    simp only [Int.toNat_natCast, add_plain] at hx0 hx1 hx2 hx3
    refine hK.out _ _ ⟨(blk_cell BKD.out 0).trans rfl, hx2, hx3, (blk_cell BK5D.out 0).trans rfl, (blk_cell BK5D.out 1).trans rfl⟩ (fun hHeld => ?_)
    clear hK K
    refine norm_ (a' := ?_) ?_ ?_
    rotate_left
    · show Act.put _ (some 56) _ = _
      simp only [Act.put, List.setIfInBounds_toArray, List.set_cons_zero, List.set_cons_succ, i64_w, i32_w]
      rfl
    refine pure_ (i := 15) (N := some 57) (v := ?_) (a' := ?_) #[true, true, true, true, true, true, true, true, true, true, true, true, true, true, true, true, false, false] rfl rfl (by kernel_rfl) (fun _ _ _ h => h) (Or.inl ⟨by rfl, ?_⟩) ?_ ?_
    rotate_left
    · intro w'
      go_simp
      with_reducible rfl
    rotate_left
    · simp only [Act.put, List.setIfInBounds_toArray, List.set_cons_zero, List.set_cons_succ, i64_w, i32_w]
      rfl
    refine pure_ (i := 16) (N := some 58) (v := ?_) (a' := ?_) #[true, true, true, true, true, true, true, true, true, true, true, true, true, true, true, true, true, false] rfl rfl (by kernel_rfl) (fun _ _ _ h => h) (Or.inl ⟨by rfl, ?_⟩) ?_ ?_
    rotate_left
    · intro w'
      go_simp
      with_reducible rfl
    rotate_left
    · simp only [Act.put, List.setIfInBounds_toArray, List.set_cons_zero, List.set_cons_succ, i64_w, i32_w]
      rfl
    refine last_ (i := 17) (N := none) #[true, true, true, true, true, true, true, true, true, true, true, true, true, true, true, true, true, true] rfl rfl (by kernel_rfl) (by decide) (fun K hK => ?_)
    have y2 := blk_frozen BKrD.out (i * 4 + 2)
    have y3 := blk_frozen BKrD.out (i * 4 + 3)
    refine skip_ (w1 := ?_) (by rfl) rfl ?_ ?_
    rotate_left
    · go_simp
      rfl
    refine hK.out _ _ ?_
    clear hK K
    refine done_ (by kernel_rfl) ?_
    have hgne : some g ≠ (Value.slice (some ⟨gr, 0, none⟩) l.length c).ownBlock := Kd.R_ne HRD.out BKD.out (by decide)
    obtain ⟨hrow, hgw⟩ := Kd.R_seg (d := k71) (okp := fun _ => False) HRD.out (i : Int) (by omega) (by omega) (c := [.int .u32 (rd_T71 l (i : Int)).f0.f0, .int .u8 (rd_T71 l (i : Int)).f0.f1, .int .u16 (rd_T71 l (i : Int)).f1.f0, .int .u16 (rd_T71 l (i : Int)).f1.f1]) (seg := [.int .u16 b0, .int .u16 b1]) (j := 2) rfl (by
      intro j u hu
      rcases j with _ | _ | _ | _ | j
      · injection hu with hu; subst hu; exact hx0
      · injection hu with hu; subst hu; exact hx1
      · injection hu with hu; subst hu; exact hx2
      · injection hu with hu; subst hu; exact hx3
      · simp at hu) (show (2 : Nat) + 2 ≤ 4 from Nat.le_refl 4) (x' := ⟨(rd_T71 l (i : Int)).f0, ⟨b0, b1⟩⟩) (k71_mkM _ _ _ ⟨(rd_T71 l (i : Int)).f0, ⟨b0, b1⟩⟩) (fun _ h => h.elim)
    obtain ⟨W, hW⟩ : ∃ W : World, W = ((w8.setCell ⟨gr, i * 4 + 2, none⟩ (.int .u16 b0)).setCell ⟨gr, i * 4 + 2 + 1, none⟩ (.int .u16 b1)) := ⟨_, rfl⟩
    rw [← hW]
    have hWs : w8.setCells gr ((i : Int).toNat * k71.sz + 2) [.int .u16 b0, .int .u16 b1] = W := hW.symm
    rw [hWs] at hrow hgw
    simp only [Int.toNat_natCast] at hrow
    clear hW hWs hx0 hx1 hx2 hx3 y2 y3 hHeld
    have hfin : (∃ v', W.heap[g]? = some (.cells #[v'] 64 (0, 0)) ∧ k71.R 71 W b (fun _ => True) v' (source_Source_Lower.lowL true mm (decide (i < l.length) && (cv i == 0)) l i ⟨(rd_T71 l (i : Int)).f0, ⟨b0, b1⟩⟩ ⟨⟨pa, pn⟩, ⟨ms, mm⟩⟩)) ∧ Below b w0 W ∧ source_Source_Lower.Fr w W := by
      refine ⟨⟨_, (hgw.block g (Nat.lt_of_not_le fun h => by have := BKD.out; rw [Array.getElem?_eq_none h] at this; cases this) hgne).trans BKD.out, by rw [hL]; exact hrow⟩, (below_then HB0.out hbw HBD.out).grown hgw (Nat.le_trans hbw HBD.out.size) (Kd.R_base HRD.out), source_Source_Lower.Fr_trans HFD.out (source_Source_Lower.Fr_grown HRD.out hgw)⟩
    go_wp2_with (fail)
    go_ret
    exact ⟨Eq.trans (b := Ending.returned (.int .i64 0)) rfl (congrArg (fun n => Ending.returned (Value.int IntKind.i64 n)) hE.symm), hfin⟩
  · have hf' : (decide (i < l.length) && (cv i == 0)) = false := by simpa using hf
    obtain rfl : i = l.length := HEN.out (by trivial) hf'
    by_cases hful : 256 ≤ l.length
    · have hE := source_Source_Lower.lowE_full (n := l.length) hmm hf' hful
      have hL := source_Source_Lower.lowL_full l l.length ⟨(rd_T71 l (l.length : Int)).f0, ⟨b0, b1⟩⟩ ⟨⟨pa, pn⟩, ⟨ms, mm⟩⟩ hmm hf' hful
      have q2 : decide ((l.length : Int) ≥ 256) = true := decide_eq_true (by omega)
      have q2' : decide (256 ≤ (l.length : Int)) = true := decide_eq_true (by omega)
      go_wp2_with (fail)
      go_ret
      exact ⟨Eq.trans (b := Ending.returned (.int .i64 3)) rfl (congrArg (fun n => Ending.returned (Value.int IntKind.i64 n)) hE.symm), ⟨_, BKg7.out, by rw [hL]; exact HR7.out⟩, HB07.out, source_Source_Lower.Fr_below HB7.out⟩
    · have hE := source_Source_Lower.lowE_new (n := l.length) hmm hf' hful
      have hL := source_Source_Lower.lowL_new l l.length ⟨(rd_T71 l (l.length : Int)).f0, ⟨b0, b1⟩⟩ ⟨⟨pa, pn⟩, ⟨ms, mm⟩⟩ hmm hf' hful
      have q2 : decide ((l.length : Int) ≥ 256) = false := decide_eq_false (by omega)
      have q2' : decide (256 ≤ (l.length : Int)) = false := decide_eq_false (by omega)
      have BKD := Aside0.mk (blk_drew BKg7.out)
      have BK4D := Aside0.mk (blk_drew BK47.out)
      have BK5D := Aside0.mk (blk_drew BK57.out)
      have HBD := Aside0.mk (below_drew1 HB7.out)
      have HRD := Aside0.mk (Kd.R_drew HR7.out)
      have HFD := Aside0.mk (source_Source_Lower.Fr_below HBD.out)
      clear BKg7 BK57 HB7 HR7 BK47 HB07
      go_upto_region 6 with (fail)
      refine start_ (n := 14) (S := fun w' => w'.cell? ⟨g, 0, none⟩ = some (.slice A l.length c) ∧ w'.cell? ⟨g4, 0, none⟩ = some (.int .u32 pa) ∧ w'.cell? ⟨g4, 1, none⟩ = some (.int .u8 pn) ∧ w'.cell? ⟨g5, 0, none⟩ = some (.int .u16 ms) ∧ w'.cell? ⟨g5, 1, none⟩ = some (.int .u16 mm)) (ds := [13]) #[false, false, false, false, false, false, false, false, false, false, false, false, false, false] (by kernel_rfl) rfl rfl ⟨(blk_cell BKD.out 0).trans rfl, (blk_cell BK4D.out 0).trans rfl, (blk_cell BK4D.out 1).trans rfl, (blk_cell BK5D.out 0).trans rfl, (blk_cell BK5D.out 1).trans rfl⟩ (fun hHeld => ?_)
      generalize w7.drew = wd at BKD BK4D BK5D HBD HRD HFD hHeld ⊢
      refine pure_ (i := 0) (N := some 27) (v := ?_) (a' := ?_) #[true, false, false, false, false, false, false, false, false, false, false, false, false, false] rfl rfl (by kernel_rfl) (fun _ _ _ h => h) (Or.inl ⟨by rfl, ?_⟩) ?_ ?_
      rotate_left
      · intro w'
        go_simp
        with_reducible rfl
      rotate_left
      · simp only [Act.put, List.setIfInBounds_toArray, List.set_cons_zero, List.set_cons_succ, i64_w, i32_w]
        rfl
      refine pure_ (i := 1) (N := some 28) (v := ?_) (a' := ?_) #[true, true, false, false, false, false, false, false, false, false, false, false, false, false] rfl rfl (by kernel_rfl) (fun _ _ _ h => h) (Or.inl ⟨by rfl, ?_⟩) ?_ ?_
      rotate_left
      · intro w'
        go_simp
        with_reducible rfl
      rotate_left
      · simp only [Act.put, List.setIfInBounds_toArray, List.set_cons_zero, List.set_cons_succ, i64_w, i32_w]
        rfl
      refine pure_ (i := 2) (N := some 29) (v := ?_) (a' := ?_) #[true, true, true, false, false, false, false, false, false, false, false, false, false, false] rfl rfl (by kernel_rfl) (fun _ _ _ h => h) (Or.inl ⟨by rfl, ?_⟩) ?_ ?_
      rotate_left
      · intro w'
        go_simp
        with_reducible rfl
      rotate_left
      · simp only [Act.put, List.setIfInBounds_toArray, List.set_cons_zero, List.set_cons_succ, i64_w, i32_w]
        rfl
      refine pure_ (i := 3) (N := some 30) (v := ?_) (a' := ?_) #[true, true, true, true, false, false, false, false, false, false, false, false, false, false] rfl rfl (by kernel_rfl) (fun _ _ _ h => h) (Or.inl ⟨by rfl, ?_⟩) ?_ ?_
      rotate_left
      · intro w'
        go_simp
        with_reducible rfl
      rotate_left
      · simp only [Act.put, List.setIfInBounds_toArray, List.set_cons_zero, List.set_cons_succ, i64_w, i32_w]
        rfl
      refine pure_ (i := 5) (N := some 32) (v := ?_) (a' := ?_) #[true, true, true, true, false, true, false, false, false, false, false, false, false, false] rfl rfl (by kernel_rfl) (fun _ _ _ h => h) (Or.inl ⟨by rfl, ?_⟩) ?_ ?_
      rotate_left
      · intro w'
        go_simp
        with_reducible rfl
      rotate_left
      · simp only [Act.put, List.setIfInBounds_toArray, List.set_cons_zero, List.set_cons_succ, i64_w, i32_w]
        rfl
      refine take_ (i := 4) (N := some 31) (v := ?_) (a' := ?_) #[true, true, true, true, true, true, false, false, false, false, false, false, false, false] rfl rfl (by kernel_rfl) (fun _ _ _ h => h) (Or.inl ⟨by rfl, ?_⟩) hHeld ?_ ?_
      rotate_left
      · rintro w' ⟨s0, s1, s2, s3, s4⟩
        go_simp
        with_reducible rfl
      rotate_left
      · simp only [Act.put, List.setIfInBounds_toArray, List.set_cons_zero, List.set_cons_succ, i64_w, i32_w]
        rfl
      refine take_ (i := 6) (N := some 33) (v := ?_) (a' := ?_) #[true, true, true, true, true, true, true, false, false, false, false, false, false, false] rfl rfl (by kernel_rfl) (fun _ _ _ h => h) (Or.inl ⟨by rfl, ?_⟩) hHeld ?_ ?_
      rotate_left
      · rintro w' ⟨s0, s1, s2, s3, s4⟩
        go_simp
        with_reducible rfl
      rotate_left
      · simp only [Act.put, List.setIfInBounds_toArray, List.set_cons_zero, List.set_cons_succ, i64_w, i32_w]
        rfl
      refine take_ (i := 7) (N := some 34) (v := ?_) (a' := ?_) #[true, true, true, true, true, true, true, true, false, false, false, false, false, false] rfl rfl (by kernel_rfl) (fun _ _ _ h => h) (Or.inl ⟨by rfl, ?_⟩) hHeld ?_ ?_
      rotate_left
      · rintro w' ⟨s0, s1, s2, s3, s4⟩
        go_simp
        with_reducible rfl
      rotate_left
      · simp only [Act.put, List.setIfInBounds_toArray, List.set_cons_zero, List.set_cons_succ, i64_w, i32_w]
        rfl
      refine pure_ (i := 8) (N := some 35) (v := ?_) (a' := ?_) #[true, true, true, true, true, true, true, true, true, false, false, false, false, false] rfl rfl (by kernel_rfl) (fun _ _ _ h => h) (Or.inl ⟨by rfl, ?_⟩) ?_ ?_
      rotate_left
      · intro w'
        go_simp
        with_reducible rfl
      rotate_left
      · simp only [Act.put, List.setIfInBounds_toArray, List.set_cons_zero, List.set_cons_succ, i64_w, i32_w]
        rfl
      refine one_ (i := 9) (N := some 36) #[true, true, true, true, true, true, true, true, true, true, false, false, false, false] rfl rfl (by kernel_rfl) (by decide) (fun K hK => ?_)
      refine Kd.R_lit_step k71 _ 71 ?hg (N := 36) ?hd (xs := ([(⟨⟨pa, pn⟩, ⟨ms, mm⟩⟩ : S71)] : List S71)) (inner := [.int .u32 pa, .int .u8 pn, .int .u16 ms, .int .u16 mm]) (ok := fun _ => True) (okp := fun _ => True) ?hr ?hp (fun _ hk => hk) trivial (Below.refl _ _) (Nat.le_refl _) (by simp) ?_; (case hd => rfl); (case hg => rfl); (case hr => first | (go_simp; done) | (go_simp; rfl)); (case hp => exact (Reps.c4 (show Kd.M k71 _ _ _ (⟨⟨pa, pn⟩, ⟨ms, mm⟩⟩ : S71) [.int .u32 pa, .int .u8 pn, .int .u16 ms, .int .u16 mm] from k71_mkM _ _ _ (⟨⟨pa, pn⟩, ⟨ms, mm⟩⟩ : S71)) (Reps.none _ _)))
      intro v8 w8 HO8 hb hg8 hat8
      obtain ⟨A8, c8, e8, hl8, hC8⟩ := Kd.R_reads HO8
      subst e8
      have HX : Aside0 (Kd.C k71 w8 A8 1 [(⟨⟨pa, pn⟩, ⟨ms, mm⟩⟩ : S71)]) := Aside0.mk hC8
      have n0_ := Aside0.mk (blk_below BKD.out hb)
      have n1_ := Aside0.mk (blk_below BK4D.out hb)
      have n2_ := Aside0.mk (blk_below BK5D.out hb)
      have n3_ := Aside0.mk (source_Source_Lower.Fr_trans HFD.out (source_Source_Lower.Fr_below hb))
      have n4_ := Aside0.mk (Kd.R_below HRD.out hb)
      have n5_ := Aside0.mk (below_step HBD.out hb)
      clear BKD BK4D BK5D HFD HRD HBD
      have BKD := n0_
      have BK4D := n1_
      have BK5D := n2_
      have HFD := n3_
      have HRD := n4_
      have HBD := n5_
      clear n0_ n1_ n2_ n3_ n4_ n5_
      clear hb hC8 HO8 hg8 hat8
      refine hK.out _ _ ⟨(blk_cell BKD.out 0).trans rfl, (blk_cell BK4D.out 0).trans rfl, (blk_cell BK4D.out 1).trans rfl, (blk_cell BK5D.out 0).trans rfl, (blk_cell BK5D.out 1).trans rfl⟩ (fun hHeld => ?_)
      clear hK K
      refine norm_ (a' := ?_) ?_ ?_
      rotate_left
      · show Act.put _ (some 36) _ = _
        simp only [Act.put, List.setIfInBounds_toArray, List.set_cons_zero, List.set_cons_succ, i64_w, i32_w]
        rfl
      refine one_ (i := 10) (N := some 37) #[true, true, true, true, true, true, true, true, true, true, true, false, false, false] rfl rfl (by kernel_rfl) (by decide) (fun K hK => ?_)
      refine goes_ Try.func25 (by kernel_rfl) rfl #[.slice A l.length c, .int .i64 l.length, .slice A8 1 c8] (by rfl) rfl rfl (by simp only [List.map_toArray, List.map_cons, List.map_nil]; rfl) ?_
      with_reducible refine (source_Source_Lower.ins (.slice A l.length c) l (⟨⟨pa, pn⟩, ⟨ms, mm⟩⟩ : S71) A8 c8 b w0 _ HRD.out HX.out hlen (below_then HB0.out hbw HBD.out) (Nat.le_trans hbw HBD.out.size)).mono ?_
      rintro e w9 ⟨v9, rfl, hR9, hB9, hG9⟩
      obtain ⟨A9, c9, rfl, hl9, hC9⟩ := Kd.R_reads hR9
      clear hC9
      refine ⟨_, rfl, ?_⟩
      have hgl := Nat.lt_of_not_le fun h => (show False by have := BKD.out; rw [Array.getElem?_eq_none h] at this; cases this)
      have fr9 := source_Source_Lower.Fr_grown HRD.out hG9
      have n0_ := Aside0.mk ((hG9.block g hgl (Kd.R_ne HRD.out BKD.out (by decide))).trans BKD.out)
      have n1_ := Aside0.mk ((fr9.2 g4 31 _ BK4D.out (by decide) (by decide)).trans BK4D.out)
      have n2_ := Aside0.mk ((fr9.2 g5 36 _ BK5D.out (by decide) (by decide)).trans BK5D.out)
      have n3_ := Aside0.mk (source_Source_Lower.Fr_trans HFD.out fr9)
      clear BKD BK4D BK5D HFD
      have BKD := n0_
      have BK4D := n1_
      have BK5D := n2_
      have HFD := n3_
      clear n0_ n1_ n2_ n3_
      clear hgl fr9
      refine hK.out _ _ ⟨(blk_cell BKD.out 0).trans rfl, (blk_cell BK4D.out 0).trans rfl, (blk_cell BK4D.out 1).trans rfl, (blk_cell BK5D.out 0).trans rfl, (blk_cell BK5D.out 1).trans rfl⟩ (fun hHeld => ?_)
      clear hK K
      refine norm_ (a' := ?_) ?_ ?_
      rotate_left
      · show Act.put _ (some 37) _ = _
        simp only [Act.put, List.setIfInBounds_toArray, List.set_cons_zero, List.set_cons_succ, i64_w, i32_w]
        rfl
      refine pure_ (i := 11) (N := some 38) (v := ?_) (a' := ?_) #[true, true, true, true, true, true, true, true, true, true, true, true, false, false] rfl rfl (by kernel_rfl) (fun _ _ _ h => h) (Or.inl ⟨by rfl, ?_⟩) ?_ ?_
      rotate_left
      · intro w'
        go_simp
        with_reducible rfl
      rotate_left
      · simp only [Act.put, List.setIfInBounds_toArray, List.set_cons_zero, List.set_cons_succ, i64_w, i32_w]
        rfl
      refine pure_ (i := 12) (N := some 39) (v := ?_) (a' := ?_) #[true, true, true, true, true, true, true, true, true, true, true, true, true, false] rfl rfl (by kernel_rfl) (fun _ _ _ h => h) (Or.inl ⟨by rfl, ?_⟩) ?_ ?_
      rotate_left
      · intro w'
        go_simp
        with_reducible rfl
      rotate_left
      · simp only [Act.put, List.setIfInBounds_toArray, List.set_cons_zero, List.set_cons_succ, i64_w, i32_w]
        rfl
      refine last_ (i := 13) (N := none) #[true, true, true, true, true, true, true, true, true, true, true, true, true, true] rfl rfl (by kernel_rfl) (by decide) (fun K hK => ?_)
      have y0 := blk_frozen BKD.out 0
      have hg0 : w9.cell? ⟨g, 0, none⟩ = some (.slice A l.length c) := (blk_cell BKD.out 0).trans rfl
      refine skip_ (w1 := ?_) (by rfl) rfl ?_ ?_
      rotate_left
      · go_simp
        rfl
      refine hK.out _ _ ?_
      clear hK K
      refine done_ (by kernel_rfl) ?_
      have hgl : g < w9.heap.size := Nat.lt_of_not_le fun h => by have := BKD.out; rw [Array.getElem?_eq_none h] at this; cases this
      have hfin : (∃ v', (w9.setCell ⟨g, 0, none⟩ (.slice A9 (l ++ [(⟨⟨pa, pn⟩, ⟨ms, mm⟩⟩ : S71)]).length c9)).heap[g]? = some (.cells #[v'] 64 (0, 0)) ∧ k71.R 71 (w9.setCell ⟨g, 0, none⟩ (.slice A9 (l ++ [(⟨⟨pa, pn⟩, ⟨ms, mm⟩⟩ : S71)]).length c9)) b (fun _ => True) v' (source_Source_Lower.lowL true mm (decide (l.length < l.length) && (cv l.length == 0)) l l.length ⟨(rd_T71 l (l.length : Int)).f0, ⟨b0, b1⟩⟩ ⟨⟨pa, pn⟩, ⟨ms, mm⟩⟩)) ∧ Below b w0 (w9.setCell ⟨g, 0, none⟩ (.slice A9 (l ++ [(⟨⟨pa, pn⟩, ⟨ms, mm⟩⟩ : S71)]).length c9)) ∧ source_Source_Lower.Fr w (w9.setCell ⟨g, 0, none⟩ (.slice A9 (l ++ [(⟨⟨pa, pn⟩, ⟨ms, mm⟩⟩ : S71)]).length c9)) := by
        refine ⟨⟨_, blk_put (cs := #[.slice A l.length c]) BKD.out 0 (.slice A9 (l ++ [(⟨⟨pa, pn⟩, ⟨ms, mm⟩⟩ : S71)]).length c9) rfl, ?_⟩, hB9.setCell hbg _, source_Source_Lower.Fr_trans HFD.out (source_Source_Lower.Fr_set BKD.out (.slice A9 (l ++ [(⟨⟨pa, pn⟩, ⟨ms, mm⟩⟩ : S71)]).length c9))⟩
        rw [hL, List.take_length, List.drop_length]
        exact Kd.R_set hR9 BKD.out (by decide) 0 _
      rw [show (l ++ [(⟨⟨pa, pn⟩, ⟨ms, mm⟩⟩ : S71)]).length = l.length + 1 from by simp] at hfin
      go_wp2_with (fail)
      go_ret
      exact ⟨Eq.trans (b := Ending.returned (.int .i64 0)) rfl (congrArg (fun n => Ending.returned (Value.int IntKind.i64 n)) hE.symm), hfin⟩
theorem source_Source_Lower.new (w : World) : Calls Try.prog 7 #[] w fun e w' => ∃ g, e = .returned (.pointer (some ⟨g, 0, none⟩)) ∧ w'.heap[g]? = some (.cells #[.slice none 0 0] 64 (0, 0)) ∧ w.heap.size ≤ g ∧ Below w.heap.size w w' := by
  have hu64 := Try.underlying64
  go_enter Try.func7, Try.ntmps7
  go_wp2_with (((with_reducible refine gate_dst (N := 2) rfl ?_); (try (refine gate_guard (by rfl) ?_; dsimp only)); refine box_event ?hg (N := 2) ?hd (cs := #[.slice none 0 0]) (t := 64) ?hr ?_; (case hd => rfl); (case hg => rfl); (case hr => first | (go_simp; done) | (go_simp; rfl)); intro g2 hg w2 hbox hb; have BK2 := Aside0.mk hbox; have HB2 := Aside0.mk hb; have GE2 := Aside0.mk hg; clear hb hbox hg))
  go_ret
  exact ⟨g2, rfl, BK2.out, by rw [GE2.out]; exact Nat.le_refl _, HB2.out⟩
def source_Source_Lower.St (w : World) (b g : Nat) (pa pn : Int) (cur : Option (Int × Int)) : Prop := ∃ v, w.heap[g]? = some (.cells #[v] 64 (0, 0)) ∧ b ≤ g ∧ k71.R 71 w b (fun _ => True) v (match cur with | none => [] | some m => [⟨⟨pa, pn⟩, ⟨m.1, m.2⟩⟩])
theorem source_Source_Lower.St_fr {w w' : World} {b g : Nat} {pa pn : Int} {cur : Option (Int × Int)} (h : source_Source_Lower.St w b g pa pn cur) (hb : Below w.heap.size w w') : source_Source_Lower.St w' b g pa pn cur := by
  obtain ⟨v, h1, h2, h3⟩ := h
  exact ⟨v, blk_below h1 hb, h2, Kd.R_below h3 hb⟩
def source_Source_Lower.nextF (cur : Option (Int × Int)) (ms mm b0 b1 : Int) : Option (Int × Int) := if mm = 65535 then cur else match cur with | none => some (ms, mm) | some _ => some (b0, b1)
theorem source_Source_Lower.one (k g b : Nat) (pa pn ms mm : Int) (cur : Option (Int × Int)) (b0 b1 : Int) (w0 w : World) (hs : source_Source_Lower.St w b g pa pn cur) (hbw : b ≤ w.heap.size) (hB : Below b w0 w) (hrt : prefix_Right.f pa pn = some true) (hcp : prefix_Compare.f k pa pn pa pn = some 0) (hbest : ∀ m, cur = some m → serial_Best.f m.1 m.2 ms mm = some (b0, b1)) :
    Calls Try.prog 9 #[.pointer (some ⟨g, 0, none⟩), .agg #[.int .u32 pa, .int .u8 pn], .agg #[.int .u16 ms, .int .u16 mm]] w fun e w' => e = .returned (.int .i64 (if mm = 65535 then 1 else 0)) ∧ source_Source_Lower.St w' b g pa pn (source_Source_Lower.nextF cur ms mm b0 b1) ∧ Below b w0 w' ∧ source_Source_Lower.Fr w w' := by
  obtain ⟨v, hg, hbg, hR⟩ := hs
  cases cur with
  | none =>
    refine (source_Source_Lower.calls k g b v [] pa pn ms mm 0 (fun _ => 1) true b0 b1 w0 w hg hR hbg hbw hB (by simp) (Nat.le_refl _) hrt (fun _ j hj => by simp at hj) (fun _ hj => by simp at hj) (fun _ _ => rfl)).mono ?_
    rintro e w' ⟨rfl, ⟨v', h1, h2⟩, h3, h4⟩
    by_cases hm : mm = 65535
    · refine ⟨by simp [source_Source_Lower.lowE, hm], ⟨v', h1, hbg, ?_⟩, h3, h4⟩
      simpa [source_Source_Lower.lowL, source_Source_Lower.nextF, hm] using h2
    · refine ⟨by simp [source_Source_Lower.lowE, hm], ⟨v', h1, hbg, ?_⟩, h3, h4⟩
      simpa [source_Source_Lower.lowL, source_Source_Lower.nextF, hm] using h2
  | some m =>
    refine (source_Source_Lower.calls k g b v [⟨⟨pa, pn⟩, ⟨m.1, m.2⟩⟩] pa pn ms mm 0 (fun _ => 0) true b0 b1 w0 w hg hR hbg hbw hB (by simp) (Nat.zero_le _) hrt (fun _ j hj => by
      obtain rfl : j = 0 := by simpa using hj
      exact ⟨hcp, by simp⟩) (fun _ _ _ => hbest m rfl) (fun _ h => by simp at h)).mono ?_
    rintro e w' ⟨rfl, ⟨v', h1, h2⟩, h3, h4⟩
    by_cases hm : mm = 65535
    · refine ⟨by simp [source_Source_Lower.lowE, hm], ⟨v', h1, hbg, ?_⟩, h3, h4⟩
      simpa [source_Source_Lower.lowL, source_Source_Lower.nextF, hm] using h2
    · refine ⟨by simp [source_Source_Lower.lowE, hm], ⟨v', h1, hbg, ?_⟩, h3, h4⟩
      simpa [source_Source_Lower.lowL, source_Source_Lower.nextF, hm, rd_T71] using h2

end Go.Proofs.Ytkngncckidlniaa.QSourceSinks
