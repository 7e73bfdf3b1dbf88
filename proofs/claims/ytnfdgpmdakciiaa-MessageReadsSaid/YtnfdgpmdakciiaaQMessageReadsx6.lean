-- Lines by a program of this session, for this claim.
import Derived.Test.YtnfdgpmdakciiaaQMessageReadsx0
import Derived.Test.YtnfdgpmdakciiaaQMessageReadsx5
namespace Go.Proofs.Ytnfdgpmdakciiaa.QMessageReads
open Go.RowKit Go.Proofs.YtnfdgpmdakciiaaW.PrintWords Go.Proofs.YtnfdgpmdakciiaaW.PrintLast Go.Proofs.YtnfdgpmdakciiaaW.PrintMore
attribute [local go_sem] max2_int min2_int max_two min_two max_three min_three max_four min_four   -- for this text's walks alone
set_option linter.unusedVariables false
set_option linter.unusedSimpArgs false

/-! ### milestonelaw13_bytes: function 11 -/
def milestonelaw13_bytes.f (k : Nat) (a0_0 : Int) (a0_1 : Int) (a0_2 : Int) (a0_3 : Int) (a0_4 : Int) (a0_5 : Int) (a0_6 : Int) : Option (List Int) := if a0_0 = 1 then ((milestoneref01_Coins.f k (([a0_1] : List Int))).bind fun t182 => ((some (([a0_0] : List Int) : List Int)).bind fun y185 => ((milestoneref01_Coin.f k (IntKind.u64.wrap ((t182.length : Int)))).bind fun t188 => (if y185.length + t188.length < 140737488355328 then ((some (y185 ++ t188 : List Int)).bind fun y191 => (if y191.length + t182.length < 140737488355328 then (some (y191 ++ t182)) else (none))) else (none))))) else (if a0_0 = 2 then ((milestoneref01_Coins.f k (([IntKind.u64.wrap (a0_2), IntKind.u64.wrap (a0_6)] : List Int))).bind fun t200 => ((some (([a0_0] : List Int) : List Int)).bind fun y203 => ((milestoneref01_Coin.f k (IntKind.u64.wrap ((t200.length : Int)))).bind fun t206 => (if y203.length + t206.length < 140737488355328 then ((some (y203 ++ t206 : List Int)).bind fun y209 => (if y209.length + t200.length < 140737488355328 then (some (y209 ++ t200)) else (none))) else (none))))) else (if a0_0 = 3 then ((milestoneref01_Coins.f k (([IntKind.u64.wrap (a0_2), IntKind.u64.wrap (a0_3), IntKind.u64.wrap (a0_4), IntKind.u64.wrap (a0_5), IntKind.u64.wrap (a0_6)] : List Int))).bind fun t218 => ((some (([a0_0] : List Int) : List Int)).bind fun y221 => ((milestoneref01_Coin.f k (IntKind.u64.wrap ((t218.length : Int)))).bind fun t224 => (if y221.length + t224.length < 140737488355328 then ((some (y221 ++ t224 : List Int)).bind fun y227 => (if y227.length + t218.length < 140737488355328 then (some (y227 ++ t218)) else (none))) else (none))))) else ((milestoneref01_Coins.f k (([IntKind.u64.wrap (a0_3), IntKind.u64.wrap (a0_4), IntKind.u64.wrap (a0_5), a0_1] : List Int))).bind fun t236 => ((some (([a0_0] : List Int) : List Int)).bind fun y239 => ((milestoneref01_Coin.f k (IntKind.u64.wrap ((t236.length : Int)))).bind fun t242 => (if y239.length + t242.length < 140737488355328 then ((some (y239 ++ t242 : List Int)).bind fun y245 => (if y245.length + t236.length < 140737488355328 then (some (y245 ++ t236)) else (none))) else (none)))))))
theorem milestonelaw13_bytes.mono : ∀ a0 a1 a2 a3 a4 a5 a6 k, LeO (milestonelaw13_bytes.f k a0 a1 a2 a3 a4 a5 a6) (milestonelaw13_bytes.f (k + 1) a0 a1 a2 a3 a4 a5 a6) := by
  intro a0 a1 a2 a3 a4 a5 a6 k
  unfold milestonelaw13_bytes.f
  repeat' first
      | (with_reducible exact milestoneref01_Coin.mono _ _)
      | (with_reducible exact milestoneref01_Coins.mono _ _)
      | (with_reducible exact LeO.refl _)
      | (with_reducible exact LeO.none _)
      | (with_reducible refine LeO.ite ?_ ?_)
      | (with_reducible refine LeO.bind ?_ (fun _ => ?_))
      | exact milestoneref01_Coin.mono _ _
      | exact milestoneref01_Coins.mono _ _
      | exact LeO.none _
      | refine LeO.ite ?_ ?_
      | refine LeO.bind ?_ (fun _ => ?_)
def milestonelaw13_bytes.T10 : Bool × List (List Nat × List Nat) := (true, [([], []), ([0], [0]), ([1], [1]), ([], []), ([3], [3]), ([4], [4]), ([5], [5]), ([2, 6, 6], [2, 6]), ([], []), ([7, 8, 7], [7, 8]), ([9, 9, 0, 1, 2, 3, 4, 5, 6, 7, 8, 9], [9])])
def milestonelaw13_bytes.B10 : List Nat := [0, 1, 3, 0, 8, 24, 56, 127, 0, 511, 1023]
theorem milestonelaw13_bytes.tab10 : rtab .any (opsOf Try.f11 10) = milestonelaw13_bytes.T10 := by kernel_rfl
theorem milestonelaw13_bytes.bits10 : waitsOk milestonelaw13_bytes.T10.2 milestonelaw13_bytes.B10 = true := by kernel_rfl
set_option maxHeartbeats 8000000 in
set_option maxRecDepth 100000 in
theorem milestonelaw13_bytes.calls (k : Nat) (a0_0 : Int) (a0_1 : Int) (a0_2 : Int) (a0_3 : Int) (a0_4 : Int) (a0_5 : Int) (a0_6 : Int) (r : List Int) (w : World) (h : milestonelaw13_bytes.f k a0_0 a0_1 a0_2 a0_3 a0_4 a0_5 a0_6 = some r) :
    Calls Try.prog 11 #[.agg #[.int .u8 a0_0, .int .u64 a0_1, .int .i64 a0_2, .int .u32 a0_3, .int .u8 a0_4, .int .u16 a0_5, .int .u16 a0_6]] w fun e w' => ∃ v0_ : Value, e = .returned (v0_) ∧ Kd.R (Kd.int .u8) 5 w' w.heap.size (fun _ => True) v0_ r ∧ Below w.heap.size w w' := by
  have hu28 := Try.underlying28
  have HB := Aside0.mk (Below.refl w.heap.size w)
  have H : (if a0_0 = 1 then ((milestoneref01_Coins.f k (([a0_1] : List Int))).bind fun t182 => ((some (([a0_0] : List Int) : List Int)).bind fun y185 => ((milestoneref01_Coin.f k (IntKind.u64.wrap ((t182.length : Int)))).bind fun t188 => (if y185.length + t188.length < 140737488355328 then ((some (y185 ++ t188 : List Int)).bind fun y191 => (if y191.length + t182.length < 140737488355328 then (some (y191 ++ t182)) else (none))) else (none))))) else (if a0_0 = 2 then ((milestoneref01_Coins.f k (([IntKind.u64.wrap (a0_2), IntKind.u64.wrap (a0_6)] : List Int))).bind fun t200 => ((some (([a0_0] : List Int) : List Int)).bind fun y203 => ((milestoneref01_Coin.f k (IntKind.u64.wrap ((t200.length : Int)))).bind fun t206 => (if y203.length + t206.length < 140737488355328 then ((some (y203 ++ t206 : List Int)).bind fun y209 => (if y209.length + t200.length < 140737488355328 then (some (y209 ++ t200)) else (none))) else (none))))) else (if a0_0 = 3 then ((milestoneref01_Coins.f k (([IntKind.u64.wrap (a0_2), IntKind.u64.wrap (a0_3), IntKind.u64.wrap (a0_4), IntKind.u64.wrap (a0_5), IntKind.u64.wrap (a0_6)] : List Int))).bind fun t218 => ((some (([a0_0] : List Int) : List Int)).bind fun y221 => ((milestoneref01_Coin.f k (IntKind.u64.wrap ((t218.length : Int)))).bind fun t224 => (if y221.length + t224.length < 140737488355328 then ((some (y221 ++ t224 : List Int)).bind fun y227 => (if y227.length + t218.length < 140737488355328 then (some (y227 ++ t218)) else (none))) else (none))))) else ((milestoneref01_Coins.f k (([IntKind.u64.wrap (a0_3), IntKind.u64.wrap (a0_4), IntKind.u64.wrap (a0_5), a0_1] : List Int))).bind fun t236 => ((some (([a0_0] : List Int) : List Int)).bind fun y239 => ((milestoneref01_Coin.f k (IntKind.u64.wrap ((t236.length : Int)))).bind fun t242 => (if y239.length + t242.length < 140737488355328 then ((some (y239 ++ t242 : List Int)).bind fun y245 => (if y245.length + t236.length < 140737488355328 then (some (y245 ++ t236)) else (none))) else (none)))))))) = some r := h
  clear h
  by_cases c2 : a0_0 = 1
  · rw [if_pos c2] at H
    have c2b0 : (a0_0 == 1) = true := beq_iff_eq.mpr c2
    have c2b1 : (a0_0 != 1) = false := bne_eq_false_iff_eq.mpr c2
    clear c2
    obtain ⟨y179, hy179⟩ : ∃ y_ : List Int, y_ = (([a0_1] : List Int)) := ⟨_, rfl⟩
    replace H : ((milestoneref01_Coins.f k y179).bind fun t182 => ((some (([a0_0] : List Int) : List Int)).bind fun y185 => ((milestoneref01_Coin.f k (IntKind.u64.wrap ((t182.length : Int)))).bind fun t188 => (if y185.length + t188.length < 140737488355328 then ((some (y185 ++ t188 : List Int)).bind fun y191 => (if y191.length + t182.length < 140737488355328 then (some (y191 ++ t182)) else (none))) else (none))))) = some r := by first | (rw [hy179]; with_reducible exact H) | (have H2_ := (Option.bind_some _ _).symm.trans H; rw [hy179]; with_reducible exact H2_) | (have H2_ := (Option.bind_some _ _).symm.trans H; with_reducible exact H2_) | with_reducible exact H | (rw [hy179]; exact H) | exact H
    have Ny179 := Aside0.mk hy179
    clear hy179
    replace H := Option.bind_eq_some_iff.mp H
    obtain ⟨t182, A30, H⟩ := H
    replace H : ((some (([a0_0] : List Int) : List Int)).bind fun y185 => ((milestoneref01_Coin.f k (IntKind.u64.wrap ((t182.length : Int)))).bind fun t188 => (if y185.length + t188.length < 140737488355328 then ((some (y185 ++ t188 : List Int)).bind fun y191 => (if y191.length + t182.length < 140737488355328 then (some (y191 ++ t182)) else (none))) else (none)))) = some r := H
    have A3 := Aside0.mk A30
    clear A30
    obtain ⟨y185, hy185⟩ : ∃ y_ : List Int, y_ = (([a0_0] : List Int)) := ⟨_, rfl⟩
    replace H : ((milestoneref01_Coin.f k (IntKind.u64.wrap ((t182.length : Int)))).bind fun t188 => (if y185.length + t188.length < 140737488355328 then ((some (y185 ++ t188 : List Int)).bind fun y191 => (if y191.length + t182.length < 140737488355328 then (some (y191 ++ t182)) else (none))) else (none))) = some r := by first | (rw [hy185]; with_reducible exact H) | (have H2_ := (Option.bind_some _ _).symm.trans H; rw [hy185]; with_reducible exact H2_) | (have H2_ := (Option.bind_some _ _).symm.trans H; with_reducible exact H2_) | with_reducible exact H | (rw [hy185]; exact H) | exact H
    have Ny185 := Aside0.mk hy185
    clear hy185
    replace H := Option.bind_eq_some_iff.mp H
    obtain ⟨t188, A40, H⟩ := H
    replace H : (if y185.length + t188.length < 140737488355328 then ((some (y185 ++ t188 : List Int)).bind fun y191 => (if y191.length + t182.length < 140737488355328 then (some (y191 ++ t182)) else (none))) else (none)) = some r := H
    have A4 := Aside0.mk A40
    clear A40
    by_cases c5 : y185.length + t188.length < 140737488355328
    · rw [if_pos c5] at H
      have LMc5 := Aside0.mk c5
      clear c5
      obtain ⟨y191, hy191⟩ : ∃ y_ : List Int, y_ = (y185 ++ t188) := ⟨_, rfl⟩
      replace H : (if y191.length + t182.length < 140737488355328 then (some (y191 ++ t182)) else (none)) = some r := by first | (rw [hy191]; with_reducible exact H) | (have H2_ := (Option.bind_some _ _).symm.trans H; rw [hy191]; with_reducible exact H2_) | (have H2_ := (Option.bind_some _ _).symm.trans H; with_reducible exact H2_) | with_reducible exact H | (rw [hy191]; exact H) | exact H
      have Ny191 := Aside0.mk hy191
      clear hy191
      by_cases c6 : y191.length + t182.length < 140737488355328
      · rw [if_pos c6] at H
        have LMc6 := Aside0.mk c6
        clear c6
        obtain ⟨y194, hy194⟩ : ∃ y_ : List Int, y_ = (y191 ++ t182) := ⟨_, rfl⟩
        replace H : (some y194) = some r := by first | (rw [hy194]; with_reducible exact H) | (have H2_ := (Option.bind_some _ _).symm.trans H; rw [hy194]; with_reducible exact H2_) | (have H2_ := (Option.bind_some _ _).symm.trans H; with_reducible exact H2_) | with_reducible exact H | (rw [hy194]; exact H) | exact H
        have Ny194 := Aside0.mk hy194
        clear hy194
        obtain rfl := Option.some.inj H
        simp only [Option.some.injEq, Prod.mk.injEq] at H
        obtain ⟨rfl⟩ := H
        go_enter Try.func11, Try.ntmps11
        try go_wp2_with (first | ((with_reducible refine gate_dst (N := 1) rfl ?_); refine box_event ?hg (N := 1) ?hd (cs := #[.int .u8 a0_0, .int .u64 a0_1, .int .i64 a0_2, .int .u32 a0_3, .int .u8 a0_4, .int .u16 a0_5, .int .u16 a0_6]) (t := 28) ?hr ?_; (case hd => rfl); (case hg => rfl); (case hr => first | (go_simp; done) | (go_simp; rfl)); intro gb178 hg w7 hbox hb; have n0_ := Aside0.mk (below_step (by repeat (first | (with_reducible first | exact HB.out | apply below_alloc | apply pw_below_drewN | apply below_drew1) | exact HB.out)) hb); have n1_ := Aside0.mk (hbox); have n2_ := Aside0.mk ((by rw [hg]; exact (below_size (by repeat (first | (with_reducible first | exact HB.out | apply below_alloc | apply pw_below_drewN | apply below_drew1) | exact HB.out))) : w.heap.size ≤ gb178)); have n3_ := Aside0.mk ((by rw [hg]; exact (below_size (by repeat (first | (with_reducible first | exact HB.out | apply below_alloc | apply pw_below_drewN | apply below_drew1) | exact HB.out))) : w.heap.size ≤ gb178)); clear HB; have HB := n0_; have BK178 := n1_; have GW178 := n2_; have GE178 := n3_; clear n0_ n1_ n2_ n3_; clear hb hbox hg; have hcz8_0 : w7.cell? ⟨gb178, 0, none⟩ = some (.int .u8 a0_0) := (blk_cell BK178.out 0).trans rfl; have hcz8_1 : w7.cell? ⟨gb178, 1, none⟩ = some (.int .u64 a0_1) := (blk_cell BK178.out 1).trans rfl; have hcz8_2 : w7.cell? ⟨gb178, 2, none⟩ = some (.int .i64 a0_2) := (blk_cell BK178.out 2).trans rfl; have hcz8_3 : w7.cell? ⟨gb178, 3, none⟩ = some (.int .u32 a0_3) := (blk_cell BK178.out 3).trans rfl; have hcz8_4 : w7.cell? ⟨gb178, 4, none⟩ = some (.int .u8 a0_4) := (blk_cell BK178.out 4).trans rfl; have hcz8_5 : w7.cell? ⟨gb178, 5, none⟩ = some (.int .u16 a0_5) := (blk_cell BK178.out 5).trans rfl; have hcz8_6 : w7.cell? ⟨gb178, 6, none⟩ = some (.int .u16 a0_6) := (blk_cell BK178.out 6).trans rfl; have hfz8_0 := blk_frozen BK178.out 0; have hfz8_1 := blk_frozen BK178.out 1; have hfz8_2 := blk_frozen BK178.out 2; have hfz8_3 := blk_frozen BK178.out 3; have hfz8_4 := blk_frozen BK178.out 4; have hfz8_5 := blk_frozen BK178.out 5; have hfz8_6 := blk_frozen BK178.out 6) | ((with_reducible refine gate_dst (N := 25) rfl ?_); refine Kd.R_lit (Kd.int .u64) _ 22 ?hg (N := 25) ?hd (xs := ([a0_1] : List Int)) (inner := [.int .u64 a0_1]) (ok := fun _ => True) (okp := fun _ => True) ?hr ?hp (fun _ hk => hk) trivial (Below.refl _ _) (Nat.le_refl _) (by simp) ?_; (case hd => rfl); (case hg => rfl); (case hr => first | (go_simp; done) | (go_simp; rfl)); (case hp => exact (Reps.one (show Kd.M (Kd.int .u64) _ _ _ a0_1 [.int .u64 a0_1] from rfl) (Reps.none _ _))); intro v180 w9 ho10 hb hg_ hnew_; clear hg_ hnew_; (first | rw [← Ny179.out] at ho10 | (simp only [Int.reduceToNat] at ho10; rw [← Ny179.out] at ho10)); have n0_ := Aside0.mk (Kd.R_lower ho10 (below_size (by repeat (first | (with_reducible first | exact HB.out | apply below_alloc | apply pw_below_drewN | apply below_drew1 | refine below_set ?_ GE178.out) | exact HB.out)))); have n1_ := Aside0.mk (blk_below (g := gb178) (o := .cells #[.int .u8 a0_0, .int .u64 a0_1, .int .i64 a0_2, .int .u32 a0_3, .int .u8 a0_4, .int .u16 a0_5, .int .u16 a0_6] 28 (0, 0)) (by (with_reducible repeat (first | refine blk_drewN ?_ _ | refine blk_drew ?_ | refine blk_alloc ?_ _)); exact BK178.out) hb); have n2_ := Aside0.mk (below_step (by repeat (first | (with_reducible first | exact HB.out | apply below_alloc | apply pw_below_drewN | apply below_drew1 | refine below_set ?_ GE178.out) | exact HB.out)) hb); clear BK178; clear HB; have HO181 := n0_; have BK178 := n1_; have HB := n2_; clear n0_ n1_ n2_; clear hb ho10; obtain ⟨Ao11, co11, eo11⟩ := Kd.R_slice HO181.out; subst eo11) | ((with_reducible refine gate_callee (f := 24) rfl ?_); refine goesL_ (some 26) rfl rfl Try.func24 (by kernel_rfl) rfl #[.slice Ao11 y179.length co11] rfl (by (try simp only [List.map_toArray, List.map_cons, List.map_nil]); first | done | rfl | (simp only [List.length_drop, List.length_take]; rfl) | (simp; done) | (refine qa_arr ?_; (repeat' (first | rfl | refine qa_cons ?_ ?_ | refine qa_int ?_ | refine qa_agg ?_ | refine qa_arr ?_ | omega)); done)) ?_; (with_reducible refine (milestoneref01_Coins.calls k _ _ y179 t182 _ ?side1 ?side2 A3.out).mono ?_); (case side1 => repeat (first | exact (Kd.R_reads' HO181.out).2.2 | (with_reducible refine Kd.C_alloc ?_ _) | (with_reducible refine Kd.C_drewN ?_ _) | (with_reducible refine Kd.C_drew ?_))); (case side2 => exact (Kd.R_reads' HO181.out).2.1); rintro e w12 ⟨v183, rfl, ho0, hb⟩; refine ⟨_, rfl, ?_⟩; have n0_ := Aside0.mk (Kd.R_below (by (with_reducible repeat (first | apply Kd.R_alloc | apply Kd.R_drewN | apply Kd.R_drew)); exact HO181.out) hb); have n1_ := Aside0.mk (Kd.R_lower ho0 (below_size (by repeat (first | (with_reducible first | exact HB.out | apply below_alloc | apply pw_below_drewN | apply below_drew1 | refine below_set ?_ GE178.out) | exact HB.out)))); have n2_ := Aside0.mk (blk_below (g := gb178) (o := .cells #[.int .u8 a0_0, .int .u64 a0_1, .int .i64 a0_2, .int .u32 a0_3, .int .u8 a0_4, .int .u16 a0_5, .int .u16 a0_6] 28 (0, 0)) (by (with_reducible repeat (first | refine blk_drewN ?_ _ | refine blk_drew ?_ | refine blk_alloc ?_ _)); exact BK178.out) hb); have n3_ := Aside0.mk (below_step (by repeat (first | (with_reducible first | exact HB.out | apply below_alloc | apply pw_below_drewN | apply below_drew1 | refine below_set ?_ GE178.out) | exact HB.out)) hb); clear HO181; clear BK178; clear HB; have HO181 := n0_; have HO184 := n1_; have BK178 := n2_; have HB := n3_; clear n0_ n1_ n2_ n3_; (try clear hb); (try clear hb2); (try clear hk); (try clear hi); (try clear ho0); obtain ⟨Ao13, co13, eo13⟩ := Kd.R_slice HO184.out; subst eo13))
        have n0_ := Aside0.mk (Kd.R_drew HO181.out)
        have n1_ := Aside0.mk (Kd.R_drew HO184.out)
        have n2_ := Aside0.mk (blk_drew BK178.out)
        have n3_ := Aside0.mk (below_drew1 HB.out)
        clear HO181
        clear HO184
        clear BK178
        clear HB
        have HO181 := n0_
        have HO184 := n1_
        have BK178 := n2_
        have HB := n3_
        clear n0_ n1_ n2_ n3_
        refine start_ (n := 11) (S := fun w' => w'.cell? ⟨gb178, 0, none⟩ = some (.int .u8 a0_0) ∧ w'.cell? ⟨gb178, 1, none⟩ = some (.int .u64 a0_1) ∧ w'.cell? ⟨gb178, 2, none⟩ = some (.int .i64 a0_2) ∧ w'.cell? ⟨gb178, 3, none⟩ = some (.int .u32 a0_3) ∧ w'.cell? ⟨gb178, 4, none⟩ = some (.int .u8 a0_4) ∧ w'.cell? ⟨gb178, 5, none⟩ = some (.int .u16 a0_5) ∧ w'.cell? ⟨gb178, 6, none⟩ = some (.int .u16 a0_6)) (ds := []) #[false, false, false, false, false, false, false, false, false, false, false] (by kernel_rfl) rfl rfl ⟨(blk_cell BK178.out 0).trans rfl, (blk_cell BK178.out 1).trans rfl, (blk_cell BK178.out 2).trans rfl, (blk_cell BK178.out 3).trans rfl, (blk_cell BK178.out 4).trans rfl, (blk_cell BK178.out 5).trans rfl, (blk_cell BK178.out 6).trans rfl⟩ (fun hHeld => ?_); refine with_tabW milestonelaw13_bytes.tab10 milestonelaw13_bytes.bits10 (fun HT_ HW_ => ?_)
        generalize w12.drew = w14 at HO181 HO184 BK178 HB hHeld ⊢
        refine pure_ (i := 0) (N := some 58) (v := ?_) (a' := ?_) #[true, false, false, false, false, false, false, false, false, false, false] rfl rfl (any_of HT_.out (by kernel_rfl)) (fun _ _ _ h => h) (Or.inl ⟨by rfl, ?_⟩) ?_ ?_
        rotate_left
        · intro w'
          go_simp
          with_reducible rfl
        rotate_left
        · simp only [Act.put, List.setIfInBounds_toArray, List.set_cons_zero, List.set_cons_succ, i64_w, i32_w]
          rfl
        refine pure_ (i := 3) (N := some 61) (v := ?_) (a' := ?_) #[true, false, false, true, false, false, false, false, false, false, false] rfl rfl (any_of HT_.out (by kernel_rfl)) (fun _ _ _ h => h) (Or.inl ⟨by rfl, ?_⟩) ?_ ?_
        rotate_left
        · intro w'
          go_simp
          with_reducible rfl
        rotate_left
        · simp only [Act.put, List.setIfInBounds_toArray, List.set_cons_zero, List.set_cons_succ, i64_w, i32_w]
          rfl
        refine pure_ (i := 4) (N := some 62) (v := ?_) (a' := ?_) #[true, false, false, true, true, false, false, false, false, false, false] rfl rfl (any_of HT_.out (by kernel_rfl)) (fun _ _ _ h => h) (Or.inl ⟨by rfl, ?_⟩) ?_ ?_
        rotate_left
        · intro w'
          go_simp
          with_reducible rfl
        rotate_left
        · simp only [Act.put, List.setIfInBounds_toArray, List.set_cons_zero, List.set_cons_succ, i64_w, i32_w]
          rfl
        refine pure_ (i := 5) (N := some 63) (v := ?_) (a' := ?_) #[true, false, false, true, true, true, false, false, false, false, false] rfl rfl (any_of HT_.out (by kernel_rfl)) (fun _ _ _ h => h) (Or.inl ⟨by rfl, ?_⟩) ?_ ?_
        rotate_left
        · intro w'
          go_simp
          with_reducible rfl
        rotate_left
        · simp only [Act.put, List.setIfInBounds_toArray, List.set_cons_zero, List.set_cons_succ, i64_w, i32_w]
          rfl
        refine pure_ (i := 8) (N := some 66) (v := ?_) (a' := ?_) #[true, false, false, true, true, true, false, false, true, false, false] rfl rfl (any_of HT_.out (by kernel_rfl)) (fun _ _ _ h => h) (Or.inl ⟨by rfl, ?_⟩) ?_ ?_
        rotate_left
        · intro w'
          go_simp
          with_reducible rfl
        rotate_left
        · simp only [Act.put, List.setIfInBounds_toArray, List.set_cons_zero, List.set_cons_succ, i64_w, i32_w]
          rfl
        refine take_ (i := 1) (N := some 59) (v := ?_) (a' := ?_) #[true, true, false, true, true, true, false, false, true, false, false] rfl rfl (take_ofW HT_.out HW_.out (by kernel_rfl)) (fun _ _ _ h => h) (Or.inl ⟨by rfl, ?_⟩) hHeld ?_ ?_
        rotate_left
        · rintro w' ⟨s0, s1, s2, s3, s4, s5, s6⟩
          go_simp
          with_reducible rfl
        rotate_left
        · simp only [Act.put, List.setIfInBounds_toArray, List.set_cons_zero, List.set_cons_succ, i64_w, i32_w]
          rfl
        refine join_ (σ := Value × Value) 3 #[true, true, true, true, true, true, true, false, true, false, false] (fun s_ => [(60, s_.1), (64, s_.2)]) (fun s_ w' => (w'.cell? ⟨gb178, 0, none⟩ = some (.int .u8 a0_0) ∧ w'.cell? ⟨gb178, 1, none⟩ = some (.int .u64 a0_1) ∧ w'.cell? ⟨gb178, 2, none⟩ = some (.int .i64 a0_2) ∧ w'.cell? ⟨gb178, 3, none⟩ = some (.int .u32 a0_3) ∧ w'.cell? ⟨gb178, 4, none⟩ = some (.int .u8 a0_4) ∧ w'.cell? ⟨gb178, 5, none⟩ = some (.int .u16 a0_5) ∧ w'.cell? ⟨gb178, 6, none⟩ = some (.int .u16 a0_6)) ∧ (Kd.R (Kd.int .u64) 22 w' w.heap.size (fun _ => True) (.slice Ao11 y179.length co11) y179) ∧ (Kd.R (Kd.int .u8) 5 w' w.heap.size (fun k_ => some k_ ≠ (s_.1 : Value).ownBlock ∧ some k_ ≠ (s_.2 : Value).ownBlock) (.slice Ao13 t182.length co13) t182) ∧ (Kd.R (Kd.int .u8) 5 w' w.heap.size (fun k_ => some k_ ≠ (.slice Ao13 t182.length co13 : Value).ownBlock ∧ some k_ ≠ (s_.2 : Value).ownBlock) s_.1 y185) ∧ (Kd.R (Kd.int .u8) 5 w' w.heap.size (fun k_ => some k_ ≠ (.slice Ao13 t182.length co13 : Value).ownBlock ∧ some k_ ≠ (s_.1 : Value).ownBlock) s_.2 t188) ∧ (w'.heap[gb178]? = some (.cells #[.int .u8 a0_0, .int .u64 a0_1, .int .i64 a0_2, .int .u32 a0_3, .int .u8 a0_4, .int .u16 a0_5, .int .u16 a0_6] 28 (0, 0))) ∧ (Below w.heap.size w w')) ?_ ?_
        rotate_left
        · intro hCont
          refine two_ (i := 2) (j := 6) (Ni := some 60) (Nj := some 64) #[true, true, true, true, true, true, false, false, true, false, false] #[true, true, false, true, true, true, true, false, true, false, false] rfl rfl rfl rfl (two_of HT_.out (by kernel_rfl)) (by decide) (by decide) (fun K hK => ?_) (fun K hK => ?_)
          · skip
            refine Kd.R_lit_step (Kd.int .u8) _ 5 ?hg (N := 60) ?hd (xs := ([a0_0] : List Int)) (inner := [.int .u8 a0_0]) (ok := fun _ => True) (okp := fun _ => True) ?hr ?hp (fun _ hk => hk) trivial (Below.refl _ _) (Nat.le_refl _) (by simp) ?_; (case hd => rfl); (case hg => rfl); (case hr => first | (go_simp; done) | (go_simp; rfl)); (case hp => exact (Reps.one (show Kd.M (Kd.int .u8) _ _ _ a0_0 [.int .u8 a0_0] from rfl) (Reps.none _ _)))
            intro v186 w15 ho16 hb hg_ hnew_
            clear hg_ hnew_
            (first | rw [← Ny185.out] at ho16 | (simp only [Int.reduceToNat] at ho16; rw [← Ny185.out] at ho16))
            have n0_ := Aside0.mk (Kd.R_below (by (with_reducible repeat (first | apply Kd.R_alloc | apply Kd.R_drewN | apply Kd.R_drew)); exact HO181.out) hb)
            have n1_ := Aside0.mk (Kd.R_elder' (by (with_reducible repeat (first | apply Kd.R_alloc | apply Kd.R_drewN | apply Kd.R_drew)); exact HO184.out) (Kd.R_base ho16) hb)
            have n2_ := Aside0.mk (Kd.R_lower (Kd.R_new' ho16 (Kd.R_lt (by (with_reducible repeat (first | apply Kd.R_alloc | apply Kd.R_drewN | apply Kd.R_drew)); exact HO184.out))) (below_size (by repeat (first | (with_reducible first | exact HB.out | apply below_alloc | apply pw_below_drewN | apply below_drew1 | refine below_set ?_ GE178.out) | exact HB.out))))
            have n3_ := Aside0.mk (blk_below (g := gb178) (o := .cells #[.int .u8 a0_0, .int .u64 a0_1, .int .i64 a0_2, .int .u32 a0_3, .int .u8 a0_4, .int .u16 a0_5, .int .u16 a0_6] 28 (0, 0)) (by (with_reducible repeat (first | refine blk_drewN ?_ _ | refine blk_drew ?_ | refine blk_alloc ?_ _)); exact BK178.out) hb)
            have n4_ := Aside0.mk (below_step (by repeat (first | (with_reducible first | exact HB.out | apply below_alloc | apply pw_below_drewN | apply below_drew1 | refine below_set ?_ GE178.out) | exact HB.out)) hb)
            clear HO181
            clear HO184
            clear BK178
            clear HB
            have HO181 := n0_
            have HO184 := n1_
            have HO187 := n2_
            have BK178 := n3_
            have HB := n4_
            clear n0_ n1_ n2_ n3_ n4_
            clear hb ho16
            refine hK.out _ _ ⟨(blk_cell BK178.out 0).trans rfl, (blk_cell BK178.out 1).trans rfl, (blk_cell BK178.out 2).trans rfl, (blk_cell BK178.out 3).trans rfl, (blk_cell BK178.out 4).trans rfl, (blk_cell BK178.out 5).trans rfl, (blk_cell BK178.out 6).trans rfl⟩ (fun hHeld => ?_)
            clear hK K
            refine norm_ (a' := ?_) ?_ ?_
            rotate_left
            · show Act.put _ (some 60) _ = _
              simp only [Act.put, List.setIfInBounds_toArray, List.set_cons_zero, List.set_cons_succ, i64_w, i32_w]
              rfl
            refine one_ (i := 6) (N := some 64) #[true, true, true, true, true, true, true, false, true, false, false] rfl rfl (one_of HT_.out (by kernel_rfl)) (by decide) (fun K hK => ?_)
            refine goes_ Try.func15 (by kernel_rfl) rfl #[.int .u64 (IntKind.u64.wrap ((t182.length : Int)))] (by rfl) rfl rfl (by (try simp only [List.map_toArray, List.map_cons, List.map_nil]); first | done | rfl | (simp only [List.length_drop, List.length_take]; rfl)) ?_
            with_reducible refine (milestoneref01_Coin.calls k (IntKind.u64.wrap ((t182.length : Int))) t188 _ A4.out).mono ?_
            rintro e w17 ⟨v189, rfl, ho0, hb⟩
            refine ⟨_, rfl, ?_⟩
            have n0_ := Aside0.mk (Kd.R_below (by (with_reducible repeat (first | apply Kd.R_alloc | apply Kd.R_drewN | apply Kd.R_drew)); exact HO181.out) hb)
            have n1_ := Aside0.mk (Kd.R_elder' (by (with_reducible repeat (first | apply Kd.R_alloc | apply Kd.R_drewN | apply Kd.R_drew)); exact HO184.out) (Kd.R_base ho0) hb)
            have n2_ := Aside0.mk (Kd.R_elder' (by (with_reducible repeat (first | apply Kd.R_alloc | apply Kd.R_drewN | apply Kd.R_drew)); exact HO187.out) (Kd.R_base ho0) hb)
            have n3_ := Aside0.mk (Kd.R_lower (Kd.R_new' (Kd.R_new' ho0 (Kd.R_lt (by (with_reducible repeat (first | apply Kd.R_alloc | apply Kd.R_drewN | apply Kd.R_drew)); exact HO184.out))) (Kd.R_lt (by (with_reducible repeat (first | apply Kd.R_alloc | apply Kd.R_drewN | apply Kd.R_drew)); exact HO187.out))) (below_size (by repeat (first | (with_reducible first | exact HB.out | apply below_alloc | apply pw_below_drewN | apply below_drew1 | refine below_set ?_ GE178.out) | exact HB.out))))
            have n4_ := Aside0.mk (blk_below (g := gb178) (o := .cells #[.int .u8 a0_0, .int .u64 a0_1, .int .i64 a0_2, .int .u32 a0_3, .int .u8 a0_4, .int .u16 a0_5, .int .u16 a0_6] 28 (0, 0)) (by (with_reducible repeat (first | refine blk_drewN ?_ _ | refine blk_drew ?_ | refine blk_alloc ?_ _)); exact BK178.out) hb)
            have n5_ := Aside0.mk (below_step (by repeat (first | (with_reducible first | exact HB.out | apply below_alloc | apply pw_below_drewN | apply below_drew1 | refine below_set ?_ GE178.out) | exact HB.out)) hb)
            clear HO181
            clear HO184
            clear HO187
            clear BK178
            clear HB
            have HO181 := n0_
            have HO184 := n1_
            have HO187 := n2_
            have HO190 := n3_
            have BK178 := n4_
            have HB := n5_
            clear n0_ n1_ n2_ n3_ n4_ n5_
            (try clear hb)
            (try clear hb2)
            (try clear hk)
            (try clear hi)
            (try clear ho0)
            refine hK.out _ _ ⟨(blk_cell BK178.out 0).trans rfl, (blk_cell BK178.out 1).trans rfl, (blk_cell BK178.out 2).trans rfl, (blk_cell BK178.out 3).trans rfl, (blk_cell BK178.out 4).trans rfl, (blk_cell BK178.out 5).trans rfl, (blk_cell BK178.out 6).trans rfl⟩ (fun hHeld => ?_)
            clear hK K
            refine norm_ (a' := ?_) ?_ ?_
            rotate_left
            · show Act.put _ (some 64) _ = _
              simp only [Act.put, List.setIfInBounds_toArray, List.set_cons_zero, List.set_cons_succ, i64_w, i32_w]
              rfl
            exact norm_ (by simp only [putAll, Act.put, List.setIfInBounds_toArray, List.set_cons_zero, List.set_cons_succ]) (hCont (v186, v189) _ ⟨hHeld, (by (with_reducible repeat (first | apply Kd.R_alloc | apply Kd.R_drewN | apply Kd.R_drew)); exact HO181.out), (by (with_reducible repeat (first | apply Kd.R_alloc | apply Kd.R_drewN | apply Kd.R_drew)); exact Kd.R_mono HO184.out (fun _ hk => ⟨hk.1.2, hk.2⟩)), (by (with_reducible repeat (first | apply Kd.R_alloc | apply Kd.R_drewN | apply Kd.R_drew)); exact Kd.R_mono HO187.out (fun _ hk => ⟨hk.1.2, hk.2⟩)), (by (with_reducible repeat (first | apply Kd.R_alloc | apply Kd.R_drewN | apply Kd.R_drew)); exact Kd.R_mono HO190.out (fun _ hk => ⟨hk.1.2, hk.2⟩)), (by (with_reducible repeat (first | refine blk_drewN ?_ _ | refine blk_drew ?_ | refine blk_alloc ?_ _)); exact BK178.out), (by repeat (first | (with_reducible first | exact HB.out | apply below_alloc | apply pw_below_drewN | apply below_drew1 | refine below_set ?_ GE178.out) | exact HB.out))⟩)
          · skip
            refine goes_ Try.func15 (by kernel_rfl) rfl #[.int .u64 (IntKind.u64.wrap ((t182.length : Int)))] (by rfl) rfl rfl (by (try simp only [List.map_toArray, List.map_cons, List.map_nil]); first | done | rfl | (simp only [List.length_drop, List.length_take]; rfl)) ?_
            with_reducible refine (milestoneref01_Coin.calls k (IntKind.u64.wrap ((t182.length : Int))) t188 _ A4.out).mono ?_
            rintro e w15 ⟨v189, rfl, ho0, hb⟩
            refine ⟨_, rfl, ?_⟩
            have n0_ := Aside0.mk (Kd.R_below (by (with_reducible repeat (first | apply Kd.R_alloc | apply Kd.R_drewN | apply Kd.R_drew)); exact HO181.out) hb)
            have n1_ := Aside0.mk (Kd.R_elder' (by (with_reducible repeat (first | apply Kd.R_alloc | apply Kd.R_drewN | apply Kd.R_drew)); exact HO184.out) (Kd.R_base ho0) hb)
            have n2_ := Aside0.mk (Kd.R_lower (Kd.R_new' ho0 (Kd.R_lt (by (with_reducible repeat (first | apply Kd.R_alloc | apply Kd.R_drewN | apply Kd.R_drew)); exact HO184.out))) (below_size (by repeat (first | (with_reducible first | exact HB.out | apply below_alloc | apply pw_below_drewN | apply below_drew1 | refine below_set ?_ GE178.out) | exact HB.out))))
            have n3_ := Aside0.mk (blk_below (g := gb178) (o := .cells #[.int .u8 a0_0, .int .u64 a0_1, .int .i64 a0_2, .int .u32 a0_3, .int .u8 a0_4, .int .u16 a0_5, .int .u16 a0_6] 28 (0, 0)) (by (with_reducible repeat (first | refine blk_drewN ?_ _ | refine blk_drew ?_ | refine blk_alloc ?_ _)); exact BK178.out) hb)
            have n4_ := Aside0.mk (below_step (by repeat (first | (with_reducible first | exact HB.out | apply below_alloc | apply pw_below_drewN | apply below_drew1 | refine below_set ?_ GE178.out) | exact HB.out)) hb)
            clear HO181
            clear HO184
            clear BK178
            clear HB
            have HO181 := n0_
            have HO184 := n1_
            have HO190 := n2_
            have BK178 := n3_
            have HB := n4_
            clear n0_ n1_ n2_ n3_ n4_
            (try clear hb)
            (try clear hb2)
            (try clear hk)
            (try clear hi)
            (try clear ho0)
            refine hK.out _ _ ⟨(blk_cell BK178.out 0).trans rfl, (blk_cell BK178.out 1).trans rfl, (blk_cell BK178.out 2).trans rfl, (blk_cell BK178.out 3).trans rfl, (blk_cell BK178.out 4).trans rfl, (blk_cell BK178.out 5).trans rfl, (blk_cell BK178.out 6).trans rfl⟩ (fun hHeld => ?_)
            clear hK K
            refine norm_ (a' := ?_) ?_ ?_
            rotate_left
            · show Act.put _ (some 64) _ = _
              simp only [Act.put, List.setIfInBounds_toArray, List.set_cons_zero, List.set_cons_succ, i64_w, i32_w]
              rfl
            refine one_ (i := 2) (N := some 60) #[true, true, true, true, true, true, true, false, true, false, false] rfl rfl (one_of HT_.out (by kernel_rfl)) (by decide) (fun K hK => ?_)
            refine Kd.R_lit_step (Kd.int .u8) _ 5 ?hg (N := 60) ?hd (xs := ([a0_0] : List Int)) (inner := [.int .u8 a0_0]) (ok := fun _ => True) (okp := fun _ => True) ?hr ?hp (fun _ hk => hk) trivial (Below.refl _ _) (Nat.le_refl _) (by simp) ?_; (case hd => rfl); (case hg => rfl); (case hr => first | (go_simp; done) | (go_simp; rfl)); (case hp => exact (Reps.one (show Kd.M (Kd.int .u8) _ _ _ a0_0 [.int .u8 a0_0] from rfl) (Reps.none _ _)))
            intro v186 w16 ho17 hb hg_ hnew_
            clear hg_ hnew_
            (first | rw [← Ny185.out] at ho17 | (simp only [Int.reduceToNat] at ho17; rw [← Ny185.out] at ho17))
            have n0_ := Aside0.mk (Kd.R_below (by (with_reducible repeat (first | apply Kd.R_alloc | apply Kd.R_drewN | apply Kd.R_drew)); exact HO181.out) hb)
            have n1_ := Aside0.mk (Kd.R_elder' (by (with_reducible repeat (first | apply Kd.R_alloc | apply Kd.R_drewN | apply Kd.R_drew)); exact HO184.out) (Kd.R_base ho17) hb)
            have n2_ := Aside0.mk (Kd.R_elder' (by (with_reducible repeat (first | apply Kd.R_alloc | apply Kd.R_drewN | apply Kd.R_drew)); exact HO190.out) (Kd.R_base ho17) hb)
            have n3_ := Aside0.mk (Kd.R_lower (Kd.R_new' (Kd.R_new' ho17 (Kd.R_lt (by (with_reducible repeat (first | apply Kd.R_alloc | apply Kd.R_drewN | apply Kd.R_drew)); exact HO184.out))) (Kd.R_lt (by (with_reducible repeat (first | apply Kd.R_alloc | apply Kd.R_drewN | apply Kd.R_drew)); exact HO190.out))) (below_size (by repeat (first | (with_reducible first | exact HB.out | apply below_alloc | apply pw_below_drewN | apply below_drew1 | refine below_set ?_ GE178.out) | exact HB.out))))
            have n4_ := Aside0.mk (blk_below (g := gb178) (o := .cells #[.int .u8 a0_0, .int .u64 a0_1, .int .i64 a0_2, .int .u32 a0_3, .int .u8 a0_4, .int .u16 a0_5, .int .u16 a0_6] 28 (0, 0)) (by (with_reducible repeat (first | refine blk_drewN ?_ _ | refine blk_drew ?_ | refine blk_alloc ?_ _)); exact BK178.out) hb)
            have n5_ := Aside0.mk (below_step (by repeat (first | (with_reducible first | exact HB.out | apply below_alloc | apply pw_below_drewN | apply below_drew1 | refine below_set ?_ GE178.out) | exact HB.out)) hb)
            clear HO181
            clear HO184
            clear HO190
            clear BK178
            clear HB
            have HO181 := n0_
            have HO184 := n1_
            have HO190 := n2_
            have HO187 := n3_
            have BK178 := n4_
            have HB := n5_
            clear n0_ n1_ n2_ n3_ n4_ n5_
            clear hb ho17
            refine hK.out _ _ ⟨(blk_cell BK178.out 0).trans rfl, (blk_cell BK178.out 1).trans rfl, (blk_cell BK178.out 2).trans rfl, (blk_cell BK178.out 3).trans rfl, (blk_cell BK178.out 4).trans rfl, (blk_cell BK178.out 5).trans rfl, (blk_cell BK178.out 6).trans rfl⟩ (fun hHeld => ?_)
            clear hK K
            refine norm_ (a' := ?_) ?_ ?_
            rotate_left
            · show Act.put _ (some 60) _ = _
              simp only [Act.put, List.setIfInBounds_toArray, List.set_cons_zero, List.set_cons_succ, i64_w, i32_w]
              rfl
            exact norm_ (by simp only [putAll, Act.put, List.setIfInBounds_toArray, List.set_cons_zero, List.set_cons_succ]) (hCont (v186, v189) _ ⟨hHeld, (by (with_reducible repeat (first | apply Kd.R_alloc | apply Kd.R_drewN | apply Kd.R_drew)); exact HO181.out), (by (with_reducible repeat (first | apply Kd.R_alloc | apply Kd.R_drewN | apply Kd.R_drew)); exact Kd.R_mono HO184.out (fun _ hk => ⟨hk.2, hk.1.2⟩)), (by (with_reducible repeat (first | apply Kd.R_alloc | apply Kd.R_drewN | apply Kd.R_drew)); exact Kd.R_mono HO187.out (fun _ hk => ⟨hk.1.2, hk.2⟩)), (by (with_reducible repeat (first | apply Kd.R_alloc | apply Kd.R_drewN | apply Kd.R_drew)); exact Kd.R_mono HO190.out (fun _ hk => ⟨hk.1.2, hk.2⟩)), (by (with_reducible repeat (first | refine blk_drewN ?_ _ | refine blk_drew ?_ | refine blk_alloc ?_ _)); exact BK178.out), (by repeat (first | (with_reducible first | exact HB.out | apply below_alloc | apply pw_below_drewN | apply below_drew1 | refine below_set ?_ GE178.out) | exact HB.out))⟩)
        rintro ⟨v186, v189⟩ w18 ⟨hS_, h0_, h1_, h2_, h3_, h4_, h5_⟩
        have n0_ : Aside0 (Kd.R (Kd.int .u64) 22 w18 w.heap.size (fun _ => True) (.slice Ao11 y179.length co11) y179) := ⟨h0_⟩
        have n1_ : Aside0 (Kd.R (Kd.int .u8) 5 w18 w.heap.size (fun k_ => some k_ ≠ (v186 : Value).ownBlock ∧ some k_ ≠ (v189 : Value).ownBlock) (.slice Ao13 t182.length co13) t182) := ⟨h1_⟩
        have n2_ : Aside0 (Kd.R (Kd.int .u8) 5 w18 w.heap.size (fun k_ => some k_ ≠ (.slice Ao13 t182.length co13 : Value).ownBlock ∧ some k_ ≠ (v189 : Value).ownBlock) v186 y185) := ⟨h2_⟩
        have n3_ : Aside0 (Kd.R (Kd.int .u8) 5 w18 w.heap.size (fun k_ => some k_ ≠ (.slice Ao13 t182.length co13 : Value).ownBlock ∧ some k_ ≠ (v186 : Value).ownBlock) v189 t188) := ⟨h3_⟩
        have n4_ : Aside0 (w18.heap[gb178]? = some (.cells #[.int .u8 a0_0, .int .u64 a0_1, .int .i64 a0_2, .int .u32 a0_3, .int .u8 a0_4, .int .u16 a0_5, .int .u16 a0_6] 28 (0, 0))) := ⟨h4_⟩
        have n5_ : Aside0 (Below w.heap.size w w18) := ⟨h5_⟩
        clear HO181
        clear HO184
        clear BK178
        clear HB
        clear h0_ h1_ h2_ h3_ h4_ h5_
        have HO181 := n0_
        have HO184 := n1_
        have HO187 := n2_
        have HO190 := n3_
        have BK178 := n4_
        have HB := n5_
        clear n0_ n1_ n2_ n3_ n4_ n5_
        have hHeld : w18.cell? ⟨gb178, 0, none⟩ = some (.int .u8 a0_0) ∧ w18.cell? ⟨gb178, 1, none⟩ = some (.int .u64 a0_1) ∧ w18.cell? ⟨gb178, 2, none⟩ = some (.int .i64 a0_2) ∧ w18.cell? ⟨gb178, 3, none⟩ = some (.int .u32 a0_3) ∧ w18.cell? ⟨gb178, 4, none⟩ = some (.int .u8 a0_4) ∧ w18.cell? ⟨gb178, 5, none⟩ = some (.int .u16 a0_5) ∧ w18.cell? ⟨gb178, 6, none⟩ = some (.int .u16 a0_6) := hS_
        obtain ⟨Ao20, co20, eo20⟩ := Kd.R_slice HO190.out
        (first | subst eo20 | (injection eo20 with f1_ f2_ f3_; have f4_ := f1_.symm; have f5_ := f3_.symm; clear f1_ f2_ f3_; subst f4_; subst f5_))
        refine norm_ (a' := ?_) ?_ ?_
        rotate_left
        · simp only [putAll, Act.put, List.setIfInBounds_toArray, List.set_cons_zero, List.set_cons_succ]
          rfl
        refine one_ (i := 7) (N := some 65) #[true, true, true, true, true, true, true, true, true, false, false] rfl rfl (one_of HT_.out (by kernel_rfl)) (by decide) (fun K hK => ?_)
        refine Kd.R_append_rows_step (Kd.int .u8) (w0 := w) w.heap.size (by rfl) (.tmp 60) (.tmp 64) 30 5 (.int .u8 0) 1 rfl Try.underlying30 info5 rfl (by decide) (by omega) v186 y185 t188 _ _ _ (fun k_ => some k_ ≠ (.slice Ao13 t182.length co13 : Value).ownBlock ∧ some k_ ≠ (.slice Ao20 t188.length co20 : Value).ownBlock) (fun _ => False) rfl rfl ?aO ?aR (fun _ _ h => h) (fun _ h => h.elim) ?aF ?aB ?aS ?aL ?_
        (case aR => repeat (first | exact (Kd.R_reads' HO190.out).2.2 | (with_reducible refine Kd.C_alloc ?_ _) | (with_reducible refine Kd.C_drewN ?_ _) | (with_reducible refine Kd.C_drew ?_)))
        (case aB => exact (by repeat (first | (with_reducible first | exact HB.out | apply below_alloc | apply pw_below_drewN | apply below_drew1 | refine below_set ?_ GE178.out) | exact HB.out)))
        (case aF => exact (fun k_ hk => ⟨Kd.fresh' (Kd.R_lt (by (with_reducible repeat (first | apply Kd.R_alloc | apply Kd.R_drewN | apply Kd.R_drew)); exact HO184.out)) k_ hk, Kd.fresh' (Kd.R_lt (by (with_reducible repeat (first | apply Kd.R_alloc | apply Kd.R_drewN | apply Kd.R_drew)); exact HO190.out)) k_ hk⟩))
        (case aO => exact (by (with_reducible repeat (first | apply Kd.R_alloc | apply Kd.R_drewN | apply Kd.R_drew)); exact HO187.out))
        (case aS => exact (below_size (by repeat (first | (with_reducible first | exact HB.out | apply below_alloc | apply pw_below_drewN | apply below_drew1 | refine below_set ?_ GE178.out) | exact HB.out))))
        (case aL => have := LMc5.out; omega)
        intro v192 w19 ho hb hg hat
        rw [← Ny191.out] at ho
        have n0_ := Aside0.mk (blk_grown (g := gb178) (o := .cells #[.int .u8 a0_0, .int .u64 a0_1, .int .i64 a0_2, .int .u32 a0_3, .int .u8 a0_4, .int .u16 a0_5, .int .u16 a0_6] 28 (0, 0)) (by (with_reducible repeat (first | refine blk_drewN ?_ _ | refine blk_drew ?_ | refine blk_alloc ?_ _)); exact BK178.out) hg (Kd.R_ne HO187.out BK178.out (by decide)))
        have n1_ := Aside0.mk (Kd.R_over' (by (with_reducible repeat (first | apply Kd.R_alloc | apply Kd.R_drewN | apply Kd.R_drew)); exact HO181.out) (Kd.R_typed (by (with_reducible repeat (first | apply Kd.R_alloc | apply Kd.R_drewN | apply Kd.R_drew)); exact HO187.out)) (by decide) hg)
        have n2_ := Aside0.mk (Kd.R_after (ok := (fun k_ => some k_ ≠ (.slice Ao20 t188.length co20 : Value).ownBlock)) (by (with_reducible repeat (first | apply Kd.R_alloc | apply Kd.R_drewN | apply Kd.R_drew)); exact Kd.R_mono HO184.out (fun _ hk => ⟨hk.2, hk.1⟩)) hg hat)
        have n3_ := Aside0.mk (Kd.R_after (ok := (fun k_ => some k_ ≠ (.slice Ao13 t182.length co13 : Value).ownBlock)) (by (with_reducible repeat (first | apply Kd.R_alloc | apply Kd.R_drewN | apply Kd.R_drew)); exact HO190.out) hg hat)
        have n4_ := Aside0.mk (hb)
        have n5_ := Aside0.mk (ho)
        clear BK178
        clear HO181
        clear HO184
        clear HO190
        clear HB
        clear HO187
        have BK178 := n0_
        have HO181 := n1_
        have HO184 := n2_
        have HO190 := n3_
        have HB := n4_
        have HO193 := n5_
        clear n0_ n1_ n2_ n3_ n4_ n5_
        clear ho hb hg hat
        refine hK.out _ _ ⟨(blk_cell BK178.out 0).trans rfl, (blk_cell BK178.out 1).trans rfl, (blk_cell BK178.out 2).trans rfl, (blk_cell BK178.out 3).trans rfl, (blk_cell BK178.out 4).trans rfl, (blk_cell BK178.out 5).trans rfl, (blk_cell BK178.out 6).trans rfl⟩ (fun hHeld => ?_)
        clear hK K
        refine norm_ (a' := ?_) ?_ ?_
        rotate_left
        · show Act.put _ (some 65) _ = _
          simp only [Act.put, List.setIfInBounds_toArray, List.set_cons_zero, List.set_cons_succ, i64_w, i32_w]
          rfl
        refine one_ (i := 9) (N := some 67) #[true, true, true, true, true, true, true, true, true, true, false] rfl rfl (one_of HT_.out (by kernel_rfl)) (by decide) (fun K hK => ?_)
        refine Kd.R_append_rows_step (Kd.int .u8) (w0 := w) w.heap.size (by rfl) (.tmp 65) (.tmp 66) 30 5 (.int .u8 0) 1 rfl Try.underlying30 info5 rfl (by decide) (by omega) v192 y191 t182 _ _ _ (fun k_ => some k_ ≠ (.slice Ao13 t182.length co13 : Value).ownBlock ∧ some k_ ≠ (.slice Ao20 t188.length co20 : Value).ownBlock) (fun _ => False) rfl rfl ?aO ?aR (fun _ _ h => h) (fun _ h => h.elim) ?aF ?aB ?aS ?aL ?_
        (case aR => repeat (first | exact (Kd.R_reads' HO184.out).2.2 | (with_reducible refine Kd.C_alloc ?_ _) | (with_reducible refine Kd.C_drewN ?_ _) | (with_reducible refine Kd.C_drew ?_)))
        (case aB => exact (by repeat (first | (with_reducible first | exact HB.out | apply below_alloc | apply pw_below_drewN | apply below_drew1 | refine below_set ?_ GE178.out) | exact HB.out)))
        (case aF => exact (fun k_ hk => ⟨Kd.fresh' (Kd.R_lt (by (with_reducible repeat (first | apply Kd.R_alloc | apply Kd.R_drewN | apply Kd.R_drew)); exact HO184.out)) k_ hk, Kd.fresh' (Kd.R_lt (by (with_reducible repeat (first | apply Kd.R_alloc | apply Kd.R_drewN | apply Kd.R_drew)); exact HO190.out)) k_ hk⟩))
        (case aO => exact (by (with_reducible repeat (first | apply Kd.R_alloc | apply Kd.R_drewN | apply Kd.R_drew)); exact HO193.out))
        (case aS => exact (below_size (by repeat (first | (with_reducible first | exact HB.out | apply below_alloc | apply pw_below_drewN | apply below_drew1 | refine below_set ?_ GE178.out) | exact HB.out))))
        (case aL => have := LMc6.out; omega)
        intro v195 w21 ho hb hg hat
        rw [← Ny194.out] at ho
        have n0_ := Aside0.mk (blk_grown (g := gb178) (o := .cells #[.int .u8 a0_0, .int .u64 a0_1, .int .i64 a0_2, .int .u32 a0_3, .int .u8 a0_4, .int .u16 a0_5, .int .u16 a0_6] 28 (0, 0)) (by (with_reducible repeat (first | refine blk_drewN ?_ _ | refine blk_drew ?_ | refine blk_alloc ?_ _)); exact BK178.out) hg (Kd.R_ne HO193.out BK178.out (by decide)))
        have n1_ := Aside0.mk (Kd.R_over' (by (with_reducible repeat (first | apply Kd.R_alloc | apply Kd.R_drewN | apply Kd.R_drew)); exact HO181.out) (Kd.R_typed (by (with_reducible repeat (first | apply Kd.R_alloc | apply Kd.R_drewN | apply Kd.R_drew)); exact HO193.out)) (by decide) hg)
        have n2_ := Aside0.mk (Kd.R_after (ok := (fun k_ => some k_ ≠ (.slice Ao20 t188.length co20 : Value).ownBlock)) (by (with_reducible repeat (first | apply Kd.R_alloc | apply Kd.R_drewN | apply Kd.R_drew)); exact HO184.out) hg hat)
        have n3_ := Aside0.mk (Kd.R_after (ok := (fun k_ => some k_ ≠ (.slice Ao13 t182.length co13 : Value).ownBlock)) (by (with_reducible repeat (first | apply Kd.R_alloc | apply Kd.R_drewN | apply Kd.R_drew)); exact HO190.out) hg hat)
        have n4_ := Aside0.mk (hb)
        have n5_ := Aside0.mk (ho)
        clear BK178
        clear HO181
        clear HO184
        clear HO190
        clear HB
        clear HO193
        have BK178 := n0_
        have HO181 := n1_
        have HO184 := n2_
        have HO190 := n3_
        have HB := n4_
        have HO196 := n5_
        clear n0_ n1_ n2_ n3_ n4_ n5_
        clear ho hb hg hat
        refine hK.out _ _ ⟨(blk_cell BK178.out 0).trans rfl, (blk_cell BK178.out 1).trans rfl, (blk_cell BK178.out 2).trans rfl, (blk_cell BK178.out 3).trans rfl, (blk_cell BK178.out 4).trans rfl, (blk_cell BK178.out 5).trans rfl, (blk_cell BK178.out 6).trans rfl⟩ (fun hHeld => ?_)
        clear hK K
        refine norm_ (a' := ?_) ?_ ?_
        rotate_left
        · show Act.put _ (some 67) _ = _
          simp only [Act.put, List.setIfInBounds_toArray, List.set_cons_zero, List.set_cons_succ, i64_w, i32_w]
          rfl
        refine pure_ (i := 10) (N := some 2) (v := ?_) (a' := ?_) #[true, true, true, true, true, true, true, true, true, true, true] rfl rfl (any_of HT_.out (by kernel_rfl)) (fun _ _ _ h => h) (Or.inl ⟨by rfl, ?_⟩) ?_ ?_
        rotate_left
        · intro w'
          go_simp
          with_reducible rfl
        rotate_left
        · simp only [Act.put, List.setIfInBounds_toArray, List.set_cons_zero, List.set_cons_succ, i64_w, i32_w]
          rfl
        refine done_ (done_of HT_.out (by kernel_rfl)) ?_
        try go_wp2
        go_ret
        exact ⟨_, by first | rfl | (simp [errW_none, errW_some] <;> rfl) | (simp [*, errW_none, errW_some] <;> rfl), by (with_reducible repeat (first | apply Kd.R_alloc | apply Kd.R_drewN | apply Kd.R_drew)); exact Kd.R_mono HO196.out (fun _ hk => trivial), by repeat (first | (with_reducible first | exact HB.out | apply below_alloc | apply pw_below_drewN | apply below_drew1 | refine below_set ?_ GE178.out) | exact HB.out)⟩
      · rw [if_neg c6] at H
        exact absurd H (by simp)
    · rw [if_neg c5] at H
      exact absurd H (by simp)
  · rw [if_neg c2] at H
    have c2b0 : (a0_0 == 1) = false := beq_eq_false_iff_ne.mpr c2
    have c2b1 : (a0_0 != 1) = true := bne_iff_ne.mpr c2
    by_cases c22 : a0_0 = 2
    · rw [if_pos c22] at H
      have c22b0 : (a0_0 == 2) = true := beq_iff_eq.mpr c22
      have c22b1 : (a0_0 != 2) = false := bne_eq_false_iff_eq.mpr c22
      clear c22
      obtain ⟨y197, hy197⟩ : ∃ y_ : List Int, y_ = (([IntKind.u64.wrap (a0_2), IntKind.u64.wrap (a0_6)] : List Int)) := ⟨_, rfl⟩
      replace H : ((milestoneref01_Coins.f k y197).bind fun t200 => ((some (([a0_0] : List Int) : List Int)).bind fun y203 => ((milestoneref01_Coin.f k (IntKind.u64.wrap ((t200.length : Int)))).bind fun t206 => (if y203.length + t206.length < 140737488355328 then ((some (y203 ++ t206 : List Int)).bind fun y209 => (if y209.length + t200.length < 140737488355328 then (some (y209 ++ t200)) else (none))) else (none))))) = some r := by first | (rw [hy197]; with_reducible exact H) | (have H2_ := (Option.bind_some _ _).symm.trans H; rw [hy197]; with_reducible exact H2_) | (have H2_ := (Option.bind_some _ _).symm.trans H; with_reducible exact H2_) | with_reducible exact H | (rw [hy197]; exact H) | exact H
      have Ny197 := Aside0.mk hy197
      clear hy197
      replace H := Option.bind_eq_some_iff.mp H
      obtain ⟨t200, A230, H⟩ := H
      replace H : ((some (([a0_0] : List Int) : List Int)).bind fun y203 => ((milestoneref01_Coin.f k (IntKind.u64.wrap ((t200.length : Int)))).bind fun t206 => (if y203.length + t206.length < 140737488355328 then ((some (y203 ++ t206 : List Int)).bind fun y209 => (if y209.length + t200.length < 140737488355328 then (some (y209 ++ t200)) else (none))) else (none)))) = some r := H
      have A23 := Aside0.mk A230
      clear A230
      obtain ⟨y203, hy203⟩ : ∃ y_ : List Int, y_ = (([a0_0] : List Int)) := ⟨_, rfl⟩
      replace H : ((milestoneref01_Coin.f k (IntKind.u64.wrap ((t200.length : Int)))).bind fun t206 => (if y203.length + t206.length < 140737488355328 then ((some (y203 ++ t206 : List Int)).bind fun y209 => (if y209.length + t200.length < 140737488355328 then (some (y209 ++ t200)) else (none))) else (none))) = some r := by first | (rw [hy203]; with_reducible exact H) | (have H2_ := (Option.bind_some _ _).symm.trans H; rw [hy203]; with_reducible exact H2_) | (have H2_ := (Option.bind_some _ _).symm.trans H; with_reducible exact H2_) | with_reducible exact H | (rw [hy203]; exact H) | exact H
      have Ny203 := Aside0.mk hy203
      clear hy203
      replace H := Option.bind_eq_some_iff.mp H
      obtain ⟨t206, A240, H⟩ := H
      replace H : (if y203.length + t206.length < 140737488355328 then ((some (y203 ++ t206 : List Int)).bind fun y209 => (if y209.length + t200.length < 140737488355328 then (some (y209 ++ t200)) else (none))) else (none)) = some r := H
      have A24 := Aside0.mk A240
      clear A240
      by_cases c25 : y203.length + t206.length < 140737488355328
      · rw [if_pos c25] at H
        have LMc25 := Aside0.mk c25
        clear c25
        obtain ⟨y209, hy209⟩ : ∃ y_ : List Int, y_ = (y203 ++ t206) := ⟨_, rfl⟩
        replace H : (if y209.length + t200.length < 140737488355328 then (some (y209 ++ t200)) else (none)) = some r := by first | (rw [hy209]; with_reducible exact H) | (have H2_ := (Option.bind_some _ _).symm.trans H; rw [hy209]; with_reducible exact H2_) | (have H2_ := (Option.bind_some _ _).symm.trans H; with_reducible exact H2_) | with_reducible exact H | (rw [hy209]; exact H) | exact H
        have Ny209 := Aside0.mk hy209
        clear hy209
        by_cases c26 : y209.length + t200.length < 140737488355328
        · rw [if_pos c26] at H
          have LMc26 := Aside0.mk c26
          clear c26
          obtain ⟨y212, hy212⟩ : ∃ y_ : List Int, y_ = (y209 ++ t200) := ⟨_, rfl⟩
          replace H : (some y212) = some r := by first | (rw [hy212]; with_reducible exact H) | (have H2_ := (Option.bind_some _ _).symm.trans H; rw [hy212]; with_reducible exact H2_) | (have H2_ := (Option.bind_some _ _).symm.trans H; with_reducible exact H2_) | with_reducible exact H | (rw [hy212]; exact H) | exact H
          have Ny212 := Aside0.mk hy212
          clear hy212
          obtain rfl := Option.some.inj H
          simp only [Option.some.injEq, Prod.mk.injEq] at H
          obtain ⟨rfl⟩ := H
          go_enter Try.func11, Try.ntmps11
          try go_wp2_with (first | ((with_reducible refine gate_dst (N := 1) rfl ?_); refine box_event ?hg (N := 1) ?hd (cs := #[.int .u8 a0_0, .int .u64 a0_1, .int .i64 a0_2, .int .u32 a0_3, .int .u8 a0_4, .int .u16 a0_5, .int .u16 a0_6]) (t := 28) ?hr ?_; (case hd => rfl); (case hg => rfl); (case hr => first | (go_simp; done) | (go_simp; rfl)); intro gb178 hg w27 hbox hb; have n0_ := Aside0.mk (below_step (by repeat (first | (with_reducible first | exact HB.out | apply below_alloc | apply pw_below_drewN | apply below_drew1) | exact HB.out)) hb); have n1_ := Aside0.mk (hbox); have n2_ := Aside0.mk ((by rw [hg]; exact (below_size (by repeat (first | (with_reducible first | exact HB.out | apply below_alloc | apply pw_below_drewN | apply below_drew1) | exact HB.out))) : w.heap.size ≤ gb178)); have n3_ := Aside0.mk ((by rw [hg]; exact (below_size (by repeat (first | (with_reducible first | exact HB.out | apply below_alloc | apply pw_below_drewN | apply below_drew1) | exact HB.out))) : w.heap.size ≤ gb178)); clear HB; have HB := n0_; have BK178 := n1_; have GW178 := n2_; have GE178 := n3_; clear n0_ n1_ n2_ n3_; clear hb hbox hg; have hcz28_0 : w27.cell? ⟨gb178, 0, none⟩ = some (.int .u8 a0_0) := (blk_cell BK178.out 0).trans rfl; have hcz28_1 : w27.cell? ⟨gb178, 1, none⟩ = some (.int .u64 a0_1) := (blk_cell BK178.out 1).trans rfl; have hcz28_2 : w27.cell? ⟨gb178, 2, none⟩ = some (.int .i64 a0_2) := (blk_cell BK178.out 2).trans rfl; have hcz28_3 : w27.cell? ⟨gb178, 3, none⟩ = some (.int .u32 a0_3) := (blk_cell BK178.out 3).trans rfl; have hcz28_4 : w27.cell? ⟨gb178, 4, none⟩ = some (.int .u8 a0_4) := (blk_cell BK178.out 4).trans rfl; have hcz28_5 : w27.cell? ⟨gb178, 5, none⟩ = some (.int .u16 a0_5) := (blk_cell BK178.out 5).trans rfl; have hcz28_6 : w27.cell? ⟨gb178, 6, none⟩ = some (.int .u16 a0_6) := (blk_cell BK178.out 6).trans rfl; have hfz28_0 := blk_frozen BK178.out 0; have hfz28_1 := blk_frozen BK178.out 1; have hfz28_2 := blk_frozen BK178.out 2; have hfz28_3 := blk_frozen BK178.out 3; have hfz28_4 := blk_frozen BK178.out 4; have hfz28_5 := blk_frozen BK178.out 5; have hfz28_6 := blk_frozen BK178.out 6) | ((with_reducible refine gate_dst (N := 35) rfl ?_); refine Kd.R_lit (Kd.int .u64) _ 22 ?hg (N := 35) ?hd (xs := ([IntKind.u64.wrap (a0_2), IntKind.u64.wrap (a0_6)] : List Int)) (inner := [.int .u64 (IntKind.u64.wrap (a0_2)), .int .u64 (IntKind.u64.wrap (a0_6))]) (ok := fun _ => True) (okp := fun _ => True) ?hr ?hp (fun _ hk => hk) trivial (Below.refl _ _) (Nat.le_refl _) (by simp) ?_; (case hd => rfl); (case hg => rfl); (case hr => first | (go_simp; done) | (go_simp; rfl)); (case hp => exact (Reps.one (show Kd.M (Kd.int .u64) _ _ _ (IntKind.u64.wrap (a0_2)) [.int .u64 (IntKind.u64.wrap (a0_2))] from rfl) (Reps.one (show Kd.M (Kd.int .u64) _ _ _ (IntKind.u64.wrap (a0_6)) [.int .u64 (IntKind.u64.wrap (a0_6))] from rfl) (Reps.none _ _)))); intro v198 w29 ho30 hb hg_ hnew_; clear hg_ hnew_; (first | rw [← Ny197.out] at ho30 | (simp only [Int.reduceToNat] at ho30; rw [← Ny197.out] at ho30)); have n0_ := Aside0.mk (Kd.R_lower ho30 (below_size (by repeat (first | (with_reducible first | exact HB.out | apply below_alloc | apply pw_below_drewN | apply below_drew1 | refine below_set ?_ GE178.out) | exact HB.out)))); have n1_ := Aside0.mk (blk_below (g := gb178) (o := .cells #[.int .u8 a0_0, .int .u64 a0_1, .int .i64 a0_2, .int .u32 a0_3, .int .u8 a0_4, .int .u16 a0_5, .int .u16 a0_6] 28 (0, 0)) (by (with_reducible repeat (first | refine blk_drewN ?_ _ | refine blk_drew ?_ | refine blk_alloc ?_ _)); exact BK178.out) hb); have n2_ := Aside0.mk (below_step (by repeat (first | (with_reducible first | exact HB.out | apply below_alloc | apply pw_below_drewN | apply below_drew1 | refine below_set ?_ GE178.out) | exact HB.out)) hb); clear BK178; clear HB; have HO199 := n0_; have BK178 := n1_; have HB := n2_; clear n0_ n1_ n2_; clear hb ho30; obtain ⟨Ao31, co31, eo31⟩ := Kd.R_slice HO199.out; subst eo31) | ((with_reducible refine gate_callee (f := 24) rfl ?_); refine goesL_ (some 36) rfl rfl Try.func24 (by kernel_rfl) rfl #[.slice Ao31 y197.length co31] rfl (by (try simp only [List.map_toArray, List.map_cons, List.map_nil]); first | done | rfl | (simp only [List.length_drop, List.length_take]; rfl) | (simp; done) | (refine qa_arr ?_; (repeat' (first | rfl | refine qa_cons ?_ ?_ | refine qa_int ?_ | refine qa_agg ?_ | refine qa_arr ?_ | omega)); done)) ?_; (with_reducible refine (milestoneref01_Coins.calls k _ _ y197 t200 _ ?side1 ?side2 A23.out).mono ?_); (case side1 => repeat (first | exact (Kd.R_reads' HO199.out).2.2 | (with_reducible refine Kd.C_alloc ?_ _) | (with_reducible refine Kd.C_drewN ?_ _) | (with_reducible refine Kd.C_drew ?_))); (case side2 => exact (Kd.R_reads' HO199.out).2.1); rintro e w32 ⟨v201, rfl, ho0, hb⟩; refine ⟨_, rfl, ?_⟩; have n0_ := Aside0.mk (Kd.R_below (by (with_reducible repeat (first | apply Kd.R_alloc | apply Kd.R_drewN | apply Kd.R_drew)); exact HO199.out) hb); have n1_ := Aside0.mk (Kd.R_lower ho0 (below_size (by repeat (first | (with_reducible first | exact HB.out | apply below_alloc | apply pw_below_drewN | apply below_drew1 | refine below_set ?_ GE178.out) | exact HB.out)))); have n2_ := Aside0.mk (blk_below (g := gb178) (o := .cells #[.int .u8 a0_0, .int .u64 a0_1, .int .i64 a0_2, .int .u32 a0_3, .int .u8 a0_4, .int .u16 a0_5, .int .u16 a0_6] 28 (0, 0)) (by (with_reducible repeat (first | refine blk_drewN ?_ _ | refine blk_drew ?_ | refine blk_alloc ?_ _)); exact BK178.out) hb); have n3_ := Aside0.mk (below_step (by repeat (first | (with_reducible first | exact HB.out | apply below_alloc | apply pw_below_drewN | apply below_drew1 | refine below_set ?_ GE178.out) | exact HB.out)) hb); clear HO199; clear BK178; clear HB; have HO199 := n0_; have HO202 := n1_; have BK178 := n2_; have HB := n3_; clear n0_ n1_ n2_ n3_; (try clear hb); (try clear hb2); (try clear hk); (try clear hi); (try clear ho0); obtain ⟨Ao33, co33, eo33⟩ := Kd.R_slice HO202.out; subst eo33))
          have n0_ := Aside0.mk (Kd.R_drew HO199.out)
          have n1_ := Aside0.mk (Kd.R_drew HO202.out)
          have n2_ := Aside0.mk (blk_drew BK178.out)
          have n3_ := Aside0.mk (below_drew1 HB.out)
          clear HO199
          clear HO202
          clear BK178
          clear HB
          have HO199 := n0_
          have HO202 := n1_
          have BK178 := n2_
          have HB := n3_
          clear n0_ n1_ n2_ n3_
          refine start_ (n := 11) (S := fun w' => w'.cell? ⟨gb178, 0, none⟩ = some (.int .u8 a0_0) ∧ w'.cell? ⟨gb178, 1, none⟩ = some (.int .u64 a0_1) ∧ w'.cell? ⟨gb178, 2, none⟩ = some (.int .i64 a0_2) ∧ w'.cell? ⟨gb178, 3, none⟩ = some (.int .u32 a0_3) ∧ w'.cell? ⟨gb178, 4, none⟩ = some (.int .u8 a0_4) ∧ w'.cell? ⟨gb178, 5, none⟩ = some (.int .u16 a0_5) ∧ w'.cell? ⟨gb178, 6, none⟩ = some (.int .u16 a0_6)) (ds := []) #[false, false, false, false, false, false, false, false, false, false, false] (by kernel_rfl) rfl rfl ⟨(blk_cell BK178.out 0).trans rfl, (blk_cell BK178.out 1).trans rfl, (blk_cell BK178.out 2).trans rfl, (blk_cell BK178.out 3).trans rfl, (blk_cell BK178.out 4).trans rfl, (blk_cell BK178.out 5).trans rfl, (blk_cell BK178.out 6).trans rfl⟩ (fun hHeld => ?_); refine with_tabW milestonelaw13_bytes.tab10 milestonelaw13_bytes.bits10 (fun HT_ HW_ => ?_)
          generalize w32.drew = w34 at HO199 HO202 BK178 HB hHeld ⊢
          refine pure_ (i := 0) (N := some 58) (v := ?_) (a' := ?_) #[true, false, false, false, false, false, false, false, false, false, false] rfl rfl (any_of HT_.out (by kernel_rfl)) (fun _ _ _ h => h) (Or.inl ⟨by rfl, ?_⟩) ?_ ?_
          rotate_left
          · intro w'
            go_simp
            with_reducible rfl
          rotate_left
          · simp only [Act.put, List.setIfInBounds_toArray, List.set_cons_zero, List.set_cons_succ, i64_w, i32_w]
            rfl
          refine pure_ (i := 3) (N := some 61) (v := ?_) (a' := ?_) #[true, false, false, true, false, false, false, false, false, false, false] rfl rfl (any_of HT_.out (by kernel_rfl)) (fun _ _ _ h => h) (Or.inl ⟨by rfl, ?_⟩) ?_ ?_
          rotate_left
          · intro w'
            go_simp
            with_reducible rfl
          rotate_left
          · simp only [Act.put, List.setIfInBounds_toArray, List.set_cons_zero, List.set_cons_succ, i64_w, i32_w]
            rfl
          refine pure_ (i := 4) (N := some 62) (v := ?_) (a' := ?_) #[true, false, false, true, true, false, false, false, false, false, false] rfl rfl (any_of HT_.out (by kernel_rfl)) (fun _ _ _ h => h) (Or.inl ⟨by rfl, ?_⟩) ?_ ?_
          rotate_left
          · intro w'
            go_simp
            with_reducible rfl
          rotate_left
          · simp only [Act.put, List.setIfInBounds_toArray, List.set_cons_zero, List.set_cons_succ, i64_w, i32_w]
            rfl
          refine pure_ (i := 5) (N := some 63) (v := ?_) (a' := ?_) #[true, false, false, true, true, true, false, false, false, false, false] rfl rfl (any_of HT_.out (by kernel_rfl)) (fun _ _ _ h => h) (Or.inl ⟨by rfl, ?_⟩) ?_ ?_
          rotate_left
          · intro w'
            go_simp
            with_reducible rfl
          rotate_left
          · simp only [Act.put, List.setIfInBounds_toArray, List.set_cons_zero, List.set_cons_succ, i64_w, i32_w]
            rfl
          refine pure_ (i := 8) (N := some 66) (v := ?_) (a' := ?_) #[true, false, false, true, true, true, false, false, true, false, false] rfl rfl (any_of HT_.out (by kernel_rfl)) (fun _ _ _ h => h) (Or.inl ⟨by rfl, ?_⟩) ?_ ?_
          rotate_left
          · intro w'
            go_simp
            with_reducible rfl
          rotate_left
          · simp only [Act.put, List.setIfInBounds_toArray, List.set_cons_zero, List.set_cons_succ, i64_w, i32_w]
            rfl
          refine take_ (i := 1) (N := some 59) (v := ?_) (a' := ?_) #[true, true, false, true, true, true, false, false, true, false, false] rfl rfl (take_ofW HT_.out HW_.out (by kernel_rfl)) (fun _ _ _ h => h) (Or.inl ⟨by rfl, ?_⟩) hHeld ?_ ?_
          rotate_left
          · rintro w' ⟨s0, s1, s2, s3, s4, s5, s6⟩
            go_simp
            with_reducible rfl
          rotate_left
          · simp only [Act.put, List.setIfInBounds_toArray, List.set_cons_zero, List.set_cons_succ, i64_w, i32_w]
            rfl
          refine join_ (σ := Value × Value) 3 #[true, true, true, true, true, true, true, false, true, false, false] (fun s_ => [(60, s_.1), (64, s_.2)]) (fun s_ w' => (w'.cell? ⟨gb178, 0, none⟩ = some (.int .u8 a0_0) ∧ w'.cell? ⟨gb178, 1, none⟩ = some (.int .u64 a0_1) ∧ w'.cell? ⟨gb178, 2, none⟩ = some (.int .i64 a0_2) ∧ w'.cell? ⟨gb178, 3, none⟩ = some (.int .u32 a0_3) ∧ w'.cell? ⟨gb178, 4, none⟩ = some (.int .u8 a0_4) ∧ w'.cell? ⟨gb178, 5, none⟩ = some (.int .u16 a0_5) ∧ w'.cell? ⟨gb178, 6, none⟩ = some (.int .u16 a0_6)) ∧ (Kd.R (Kd.int .u64) 22 w' w.heap.size (fun _ => True) (.slice Ao31 y197.length co31) y197) ∧ (Kd.R (Kd.int .u8) 5 w' w.heap.size (fun k_ => some k_ ≠ (s_.1 : Value).ownBlock ∧ some k_ ≠ (s_.2 : Value).ownBlock) (.slice Ao33 t200.length co33) t200) ∧ (Kd.R (Kd.int .u8) 5 w' w.heap.size (fun k_ => some k_ ≠ (.slice Ao33 t200.length co33 : Value).ownBlock ∧ some k_ ≠ (s_.2 : Value).ownBlock) s_.1 y203) ∧ (Kd.R (Kd.int .u8) 5 w' w.heap.size (fun k_ => some k_ ≠ (.slice Ao33 t200.length co33 : Value).ownBlock ∧ some k_ ≠ (s_.1 : Value).ownBlock) s_.2 t206) ∧ (w'.heap[gb178]? = some (.cells #[.int .u8 a0_0, .int .u64 a0_1, .int .i64 a0_2, .int .u32 a0_3, .int .u8 a0_4, .int .u16 a0_5, .int .u16 a0_6] 28 (0, 0))) ∧ (Below w.heap.size w w')) ?_ ?_
          rotate_left
          · intro hCont
            refine two_ (i := 2) (j := 6) (Ni := some 60) (Nj := some 64) #[true, true, true, true, true, true, false, false, true, false, false] #[true, true, false, true, true, true, true, false, true, false, false] rfl rfl rfl rfl (two_of HT_.out (by kernel_rfl)) (by decide) (by decide) (fun K hK => ?_) (fun K hK => ?_)
            · skip
              refine Kd.R_lit_step (Kd.int .u8) _ 5 ?hg (N := 60) ?hd (xs := ([a0_0] : List Int)) (inner := [.int .u8 a0_0]) (ok := fun _ => True) (okp := fun _ => True) ?hr ?hp (fun _ hk => hk) trivial (Below.refl _ _) (Nat.le_refl _) (by simp) ?_; (case hd => rfl); (case hg => rfl); (case hr => first | (go_simp; done) | (go_simp; rfl)); (case hp => exact (Reps.one (show Kd.M (Kd.int .u8) _ _ _ a0_0 [.int .u8 a0_0] from rfl) (Reps.none _ _)))
              intro v204 w35 ho36 hb hg_ hnew_
              clear hg_ hnew_
              (first | rw [← Ny203.out] at ho36 | (simp only [Int.reduceToNat] at ho36; rw [← Ny203.out] at ho36))
              have n0_ := Aside0.mk (Kd.R_below (by (with_reducible repeat (first | apply Kd.R_alloc | apply Kd.R_drewN | apply Kd.R_drew)); exact HO199.out) hb)
              have n1_ := Aside0.mk (Kd.R_elder' (by (with_reducible repeat (first | apply Kd.R_alloc | apply Kd.R_drewN | apply Kd.R_drew)); exact HO202.out) (Kd.R_base ho36) hb)
              have n2_ := Aside0.mk (Kd.R_lower (Kd.R_new' ho36 (Kd.R_lt (by (with_reducible repeat (first | apply Kd.R_alloc | apply Kd.R_drewN | apply Kd.R_drew)); exact HO202.out))) (below_size (by repeat (first | (with_reducible first | exact HB.out | apply below_alloc | apply pw_below_drewN | apply below_drew1 | refine below_set ?_ GE178.out) | exact HB.out))))
              have n3_ := Aside0.mk (blk_below (g := gb178) (o := .cells #[.int .u8 a0_0, .int .u64 a0_1, .int .i64 a0_2, .int .u32 a0_3, .int .u8 a0_4, .int .u16 a0_5, .int .u16 a0_6] 28 (0, 0)) (by (with_reducible repeat (first | refine blk_drewN ?_ _ | refine blk_drew ?_ | refine blk_alloc ?_ _)); exact BK178.out) hb)
              have n4_ := Aside0.mk (below_step (by repeat (first | (with_reducible first | exact HB.out | apply below_alloc | apply pw_below_drewN | apply below_drew1 | refine below_set ?_ GE178.out) | exact HB.out)) hb)
              clear HO199
              clear HO202
              clear BK178
              clear HB
              have HO199 := n0_
              have HO202 := n1_
              have HO205 := n2_
              have BK178 := n3_
              have HB := n4_
              clear n0_ n1_ n2_ n3_ n4_
              clear hb ho36
              refine hK.out _ _ ⟨(blk_cell BK178.out 0).trans rfl, (blk_cell BK178.out 1).trans rfl, (blk_cell BK178.out 2).trans rfl, (blk_cell BK178.out 3).trans rfl, (blk_cell BK178.out 4).trans rfl, (blk_cell BK178.out 5).trans rfl, (blk_cell BK178.out 6).trans rfl⟩ (fun hHeld => ?_)
              clear hK K
              refine norm_ (a' := ?_) ?_ ?_
              rotate_left
              · show Act.put _ (some 60) _ = _
                simp only [Act.put, List.setIfInBounds_toArray, List.set_cons_zero, List.set_cons_succ, i64_w, i32_w]
                rfl
              refine one_ (i := 6) (N := some 64) #[true, true, true, true, true, true, true, false, true, false, false] rfl rfl (one_of HT_.out (by kernel_rfl)) (by decide) (fun K hK => ?_)
              refine goes_ Try.func15 (by kernel_rfl) rfl #[.int .u64 (IntKind.u64.wrap ((t200.length : Int)))] (by rfl) rfl rfl (by (try simp only [List.map_toArray, List.map_cons, List.map_nil]); first | done | rfl | (simp only [List.length_drop, List.length_take]; rfl)) ?_
              with_reducible refine (milestoneref01_Coin.calls k (IntKind.u64.wrap ((t200.length : Int))) t206 _ A24.out).mono ?_
              rintro e w37 ⟨v207, rfl, ho0, hb⟩
              refine ⟨_, rfl, ?_⟩
              have n0_ := Aside0.mk (Kd.R_below (by (with_reducible repeat (first | apply Kd.R_alloc | apply Kd.R_drewN | apply Kd.R_drew)); exact HO199.out) hb)
              have n1_ := Aside0.mk (Kd.R_elder' (by (with_reducible repeat (first | apply Kd.R_alloc | apply Kd.R_drewN | apply Kd.R_drew)); exact HO202.out) (Kd.R_base ho0) hb)
              have n2_ := Aside0.mk (Kd.R_elder' (by (with_reducible repeat (first | apply Kd.R_alloc | apply Kd.R_drewN | apply Kd.R_drew)); exact HO205.out) (Kd.R_base ho0) hb)
              have n3_ := Aside0.mk (Kd.R_lower (Kd.R_new' (Kd.R_new' ho0 (Kd.R_lt (by (with_reducible repeat (first | apply Kd.R_alloc | apply Kd.R_drewN | apply Kd.R_drew)); exact HO202.out))) (Kd.R_lt (by (with_reducible repeat (first | apply Kd.R_alloc | apply Kd.R_drewN | apply Kd.R_drew)); exact HO205.out))) (below_size (by repeat (first | (with_reducible first | exact HB.out | apply below_alloc | apply pw_below_drewN | apply below_drew1 | refine below_set ?_ GE178.out) | exact HB.out))))
              have n4_ := Aside0.mk (blk_below (g := gb178) (o := .cells #[.int .u8 a0_0, .int .u64 a0_1, .int .i64 a0_2, .int .u32 a0_3, .int .u8 a0_4, .int .u16 a0_5, .int .u16 a0_6] 28 (0, 0)) (by (with_reducible repeat (first | refine blk_drewN ?_ _ | refine blk_drew ?_ | refine blk_alloc ?_ _)); exact BK178.out) hb)
              have n5_ := Aside0.mk (below_step (by repeat (first | (with_reducible first | exact HB.out | apply below_alloc | apply pw_below_drewN | apply below_drew1 | refine below_set ?_ GE178.out) | exact HB.out)) hb)
              clear HO199
              clear HO202
              clear HO205
              clear BK178
              clear HB
              have HO199 := n0_
              have HO202 := n1_
              have HO205 := n2_
              have HO208 := n3_
              have BK178 := n4_
              have HB := n5_
              clear n0_ n1_ n2_ n3_ n4_ n5_
              (try clear hb)
              (try clear hb2)
              (try clear hk)
              (try clear hi)
              (try clear ho0)
              refine hK.out _ _ ⟨(blk_cell BK178.out 0).trans rfl, (blk_cell BK178.out 1).trans rfl, (blk_cell BK178.out 2).trans rfl, (blk_cell BK178.out 3).trans rfl, (blk_cell BK178.out 4).trans rfl, (blk_cell BK178.out 5).trans rfl, (blk_cell BK178.out 6).trans rfl⟩ (fun hHeld => ?_)
              clear hK K
              refine norm_ (a' := ?_) ?_ ?_
              rotate_left
              · show Act.put _ (some 64) _ = _
                simp only [Act.put, List.setIfInBounds_toArray, List.set_cons_zero, List.set_cons_succ, i64_w, i32_w]
                rfl
              exact norm_ (by simp only [putAll, Act.put, List.setIfInBounds_toArray, List.set_cons_zero, List.set_cons_succ]) (hCont (v204, v207) _ ⟨hHeld, (by (with_reducible repeat (first | apply Kd.R_alloc | apply Kd.R_drewN | apply Kd.R_drew)); exact HO199.out), (by (with_reducible repeat (first | apply Kd.R_alloc | apply Kd.R_drewN | apply Kd.R_drew)); exact Kd.R_mono HO202.out (fun _ hk => ⟨hk.1.2, hk.2⟩)), (by (with_reducible repeat (first | apply Kd.R_alloc | apply Kd.R_drewN | apply Kd.R_drew)); exact Kd.R_mono HO205.out (fun _ hk => ⟨hk.1.2, hk.2⟩)), (by (with_reducible repeat (first | apply Kd.R_alloc | apply Kd.R_drewN | apply Kd.R_drew)); exact Kd.R_mono HO208.out (fun _ hk => ⟨hk.1.2, hk.2⟩)), (by (with_reducible repeat (first | refine blk_drewN ?_ _ | refine blk_drew ?_ | refine blk_alloc ?_ _)); exact BK178.out), (by repeat (first | (with_reducible first | exact HB.out | apply below_alloc | apply pw_below_drewN | apply below_drew1 | refine below_set ?_ GE178.out) | exact HB.out))⟩)
            · skip
              refine goes_ Try.func15 (by kernel_rfl) rfl #[.int .u64 (IntKind.u64.wrap ((t200.length : Int)))] (by rfl) rfl rfl (by (try simp only [List.map_toArray, List.map_cons, List.map_nil]); first | done | rfl | (simp only [List.length_drop, List.length_take]; rfl)) ?_
              with_reducible refine (milestoneref01_Coin.calls k (IntKind.u64.wrap ((t200.length : Int))) t206 _ A24.out).mono ?_
              rintro e w35 ⟨v207, rfl, ho0, hb⟩
              refine ⟨_, rfl, ?_⟩
              have n0_ := Aside0.mk (Kd.R_below (by (with_reducible repeat (first | apply Kd.R_alloc | apply Kd.R_drewN | apply Kd.R_drew)); exact HO199.out) hb)
              have n1_ := Aside0.mk (Kd.R_elder' (by (with_reducible repeat (first | apply Kd.R_alloc | apply Kd.R_drewN | apply Kd.R_drew)); exact HO202.out) (Kd.R_base ho0) hb)
              have n2_ := Aside0.mk (Kd.R_lower (Kd.R_new' ho0 (Kd.R_lt (by (with_reducible repeat (first | apply Kd.R_alloc | apply Kd.R_drewN | apply Kd.R_drew)); exact HO202.out))) (below_size (by repeat (first | (with_reducible first | exact HB.out | apply below_alloc | apply pw_below_drewN | apply below_drew1 | refine below_set ?_ GE178.out) | exact HB.out))))
              have n3_ := Aside0.mk (blk_below (g := gb178) (o := .cells #[.int .u8 a0_0, .int .u64 a0_1, .int .i64 a0_2, .int .u32 a0_3, .int .u8 a0_4, .int .u16 a0_5, .int .u16 a0_6] 28 (0, 0)) (by (with_reducible repeat (first | refine blk_drewN ?_ _ | refine blk_drew ?_ | refine blk_alloc ?_ _)); exact BK178.out) hb)
              have n4_ := Aside0.mk (below_step (by repeat (first | (with_reducible first | exact HB.out | apply below_alloc | apply pw_below_drewN | apply below_drew1 | refine below_set ?_ GE178.out) | exact HB.out)) hb)
              clear HO199
              clear HO202
              clear BK178
              clear HB
              have HO199 := n0_
              have HO202 := n1_
              have HO208 := n2_
              have BK178 := n3_
              have HB := n4_
              clear n0_ n1_ n2_ n3_ n4_
              (try clear hb)
              (try clear hb2)
              (try clear hk)
              (try clear hi)
              (try clear ho0)
              refine hK.out _ _ ⟨(blk_cell BK178.out 0).trans rfl, (blk_cell BK178.out 1).trans rfl, (blk_cell BK178.out 2).trans rfl, (blk_cell BK178.out 3).trans rfl, (blk_cell BK178.out 4).trans rfl, (blk_cell BK178.out 5).trans rfl, (blk_cell BK178.out 6).trans rfl⟩ (fun hHeld => ?_)
              clear hK K
              refine norm_ (a' := ?_) ?_ ?_
              rotate_left
              · show Act.put _ (some 64) _ = _
                simp only [Act.put, List.setIfInBounds_toArray, List.set_cons_zero, List.set_cons_succ, i64_w, i32_w]
                rfl
              refine one_ (i := 2) (N := some 60) #[true, true, true, true, true, true, true, false, true, false, false] rfl rfl (one_of HT_.out (by kernel_rfl)) (by decide) (fun K hK => ?_)
              refine Kd.R_lit_step (Kd.int .u8) _ 5 ?hg (N := 60) ?hd (xs := ([a0_0] : List Int)) (inner := [.int .u8 a0_0]) (ok := fun _ => True) (okp := fun _ => True) ?hr ?hp (fun _ hk => hk) trivial (Below.refl _ _) (Nat.le_refl _) (by simp) ?_; (case hd => rfl); (case hg => rfl); (case hr => first | (go_simp; done) | (go_simp; rfl)); (case hp => exact (Reps.one (show Kd.M (Kd.int .u8) _ _ _ a0_0 [.int .u8 a0_0] from rfl) (Reps.none _ _)))
              intro v204 w36 ho37 hb hg_ hnew_
              clear hg_ hnew_
              (first | rw [← Ny203.out] at ho37 | (simp only [Int.reduceToNat] at ho37; rw [← Ny203.out] at ho37))
              have n0_ := Aside0.mk (Kd.R_below (by (with_reducible repeat (first | apply Kd.R_alloc | apply Kd.R_drewN | apply Kd.R_drew)); exact HO199.out) hb)
              have n1_ := Aside0.mk (Kd.R_elder' (by (with_reducible repeat (first | apply Kd.R_alloc | apply Kd.R_drewN | apply Kd.R_drew)); exact HO202.out) (Kd.R_base ho37) hb)
              have n2_ := Aside0.mk (Kd.R_elder' (by (with_reducible repeat (first | apply Kd.R_alloc | apply Kd.R_drewN | apply Kd.R_drew)); exact HO208.out) (Kd.R_base ho37) hb)
              have n3_ := Aside0.mk (Kd.R_lower (Kd.R_new' (Kd.R_new' ho37 (Kd.R_lt (by (with_reducible repeat (first | apply Kd.R_alloc | apply Kd.R_drewN | apply Kd.R_drew)); exact HO202.out))) (Kd.R_lt (by (with_reducible repeat (first | apply Kd.R_alloc | apply Kd.R_drewN | apply Kd.R_drew)); exact HO208.out))) (below_size (by repeat (first | (with_reducible first | exact HB.out | apply below_alloc | apply pw_below_drewN | apply below_drew1 | refine below_set ?_ GE178.out) | exact HB.out))))
              have n4_ := Aside0.mk (blk_below (g := gb178) (o := .cells #[.int .u8 a0_0, .int .u64 a0_1, .int .i64 a0_2, .int .u32 a0_3, .int .u8 a0_4, .int .u16 a0_5, .int .u16 a0_6] 28 (0, 0)) (by (with_reducible repeat (first | refine blk_drewN ?_ _ | refine blk_drew ?_ | refine blk_alloc ?_ _)); exact BK178.out) hb)
              have n5_ := Aside0.mk (below_step (by repeat (first | (with_reducible first | exact HB.out | apply below_alloc | apply pw_below_drewN | apply below_drew1 | refine below_set ?_ GE178.out) | exact HB.out)) hb)
              clear HO199
              clear HO202
              clear HO208
              clear BK178
              clear HB
              have HO199 := n0_
              have HO202 := n1_
              have HO208 := n2_
              have HO205 := n3_
              have BK178 := n4_
              have HB := n5_
              clear n0_ n1_ n2_ n3_ n4_ n5_
              clear hb ho37
              refine hK.out _ _ ⟨(blk_cell BK178.out 0).trans rfl, (blk_cell BK178.out 1).trans rfl, (blk_cell BK178.out 2).trans rfl, (blk_cell BK178.out 3).trans rfl, (blk_cell BK178.out 4).trans rfl, (blk_cell BK178.out 5).trans rfl, (blk_cell BK178.out 6).trans rfl⟩ (fun hHeld => ?_)
              clear hK K
              refine norm_ (a' := ?_) ?_ ?_
              rotate_left
              · show Act.put _ (some 60) _ = _
                simp only [Act.put, List.setIfInBounds_toArray, List.set_cons_zero, List.set_cons_succ, i64_w, i32_w]
                rfl
              exact norm_ (by simp only [putAll, Act.put, List.setIfInBounds_toArray, List.set_cons_zero, List.set_cons_succ]) (hCont (v204, v207) _ ⟨hHeld, (by (with_reducible repeat (first | apply Kd.R_alloc | apply Kd.R_drewN | apply Kd.R_drew)); exact HO199.out), (by (with_reducible repeat (first | apply Kd.R_alloc | apply Kd.R_drewN | apply Kd.R_drew)); exact Kd.R_mono HO202.out (fun _ hk => ⟨hk.2, hk.1.2⟩)), (by (with_reducible repeat (first | apply Kd.R_alloc | apply Kd.R_drewN | apply Kd.R_drew)); exact Kd.R_mono HO205.out (fun _ hk => ⟨hk.1.2, hk.2⟩)), (by (with_reducible repeat (first | apply Kd.R_alloc | apply Kd.R_drewN | apply Kd.R_drew)); exact Kd.R_mono HO208.out (fun _ hk => ⟨hk.1.2, hk.2⟩)), (by (with_reducible repeat (first | refine blk_drewN ?_ _ | refine blk_drew ?_ | refine blk_alloc ?_ _)); exact BK178.out), (by repeat (first | (with_reducible first | exact HB.out | apply below_alloc | apply pw_below_drewN | apply below_drew1 | refine below_set ?_ GE178.out) | exact HB.out))⟩)
          rintro ⟨v204, v207⟩ w38 ⟨hS_, h0_, h1_, h2_, h3_, h4_, h5_⟩
          have n0_ : Aside0 (Kd.R (Kd.int .u64) 22 w38 w.heap.size (fun _ => True) (.slice Ao31 y197.length co31) y197) := ⟨h0_⟩
          have n1_ : Aside0 (Kd.R (Kd.int .u8) 5 w38 w.heap.size (fun k_ => some k_ ≠ (v204 : Value).ownBlock ∧ some k_ ≠ (v207 : Value).ownBlock) (.slice Ao33 t200.length co33) t200) := ⟨h1_⟩
          have n2_ : Aside0 (Kd.R (Kd.int .u8) 5 w38 w.heap.size (fun k_ => some k_ ≠ (.slice Ao33 t200.length co33 : Value).ownBlock ∧ some k_ ≠ (v207 : Value).ownBlock) v204 y203) := ⟨h2_⟩
          have n3_ : Aside0 (Kd.R (Kd.int .u8) 5 w38 w.heap.size (fun k_ => some k_ ≠ (.slice Ao33 t200.length co33 : Value).ownBlock ∧ some k_ ≠ (v204 : Value).ownBlock) v207 t206) := ⟨h3_⟩
          have n4_ : Aside0 (w38.heap[gb178]? = some (.cells #[.int .u8 a0_0, .int .u64 a0_1, .int .i64 a0_2, .int .u32 a0_3, .int .u8 a0_4, .int .u16 a0_5, .int .u16 a0_6] 28 (0, 0))) := ⟨h4_⟩
          have n5_ : Aside0 (Below w.heap.size w w38) := ⟨h5_⟩
          clear HO199
          clear HO202
          clear BK178
          clear HB
          clear h0_ h1_ h2_ h3_ h4_ h5_
          have HO199 := n0_
          have HO202 := n1_
          have HO205 := n2_
          have HO208 := n3_
          have BK178 := n4_
          have HB := n5_
          clear n0_ n1_ n2_ n3_ n4_ n5_
          have hHeld : w38.cell? ⟨gb178, 0, none⟩ = some (.int .u8 a0_0) ∧ w38.cell? ⟨gb178, 1, none⟩ = some (.int .u64 a0_1) ∧ w38.cell? ⟨gb178, 2, none⟩ = some (.int .i64 a0_2) ∧ w38.cell? ⟨gb178, 3, none⟩ = some (.int .u32 a0_3) ∧ w38.cell? ⟨gb178, 4, none⟩ = some (.int .u8 a0_4) ∧ w38.cell? ⟨gb178, 5, none⟩ = some (.int .u16 a0_5) ∧ w38.cell? ⟨gb178, 6, none⟩ = some (.int .u16 a0_6) := hS_
          obtain ⟨Ao40, co40, eo40⟩ := Kd.R_slice HO208.out
          (first | subst eo40 | (injection eo40 with f1_ f2_ f3_; have f4_ := f1_.symm; have f5_ := f3_.symm; clear f1_ f2_ f3_; subst f4_; subst f5_))
          refine norm_ (a' := ?_) ?_ ?_
          rotate_left
          · simp only [putAll, Act.put, List.setIfInBounds_toArray, List.set_cons_zero, List.set_cons_succ]
            rfl
          refine one_ (i := 7) (N := some 65) #[true, true, true, true, true, true, true, true, true, false, false] rfl rfl (one_of HT_.out (by kernel_rfl)) (by decide) (fun K hK => ?_)
          refine Kd.R_append_rows_step (Kd.int .u8) (w0 := w) w.heap.size (by rfl) (.tmp 60) (.tmp 64) 30 5 (.int .u8 0) 1 rfl Try.underlying30 info5 rfl (by decide) (by omega) v204 y203 t206 _ _ _ (fun k_ => some k_ ≠ (.slice Ao33 t200.length co33 : Value).ownBlock ∧ some k_ ≠ (.slice Ao40 t206.length co40 : Value).ownBlock) (fun _ => False) rfl rfl ?aO ?aR (fun _ _ h => h) (fun _ h => h.elim) ?aF ?aB ?aS ?aL ?_
          (case aR => repeat (first | exact (Kd.R_reads' HO208.out).2.2 | (with_reducible refine Kd.C_alloc ?_ _) | (with_reducible refine Kd.C_drewN ?_ _) | (with_reducible refine Kd.C_drew ?_)))
          (case aB => exact (by repeat (first | (with_reducible first | exact HB.out | apply below_alloc | apply pw_below_drewN | apply below_drew1 | refine below_set ?_ GE178.out) | exact HB.out)))
          (case aF => exact (fun k_ hk => ⟨Kd.fresh' (Kd.R_lt (by (with_reducible repeat (first | apply Kd.R_alloc | apply Kd.R_drewN | apply Kd.R_drew)); exact HO202.out)) k_ hk, Kd.fresh' (Kd.R_lt (by (with_reducible repeat (first | apply Kd.R_alloc | apply Kd.R_drewN | apply Kd.R_drew)); exact HO208.out)) k_ hk⟩))
          (case aO => exact (by (with_reducible repeat (first | apply Kd.R_alloc | apply Kd.R_drewN | apply Kd.R_drew)); exact HO205.out))
          (case aS => exact (below_size (by repeat (first | (with_reducible first | exact HB.out | apply below_alloc | apply pw_below_drewN | apply below_drew1 | refine below_set ?_ GE178.out) | exact HB.out))))
          (case aL => have := LMc25.out; omega)
          intro v210 w39 ho hb hg hat
          rw [← Ny209.out] at ho
          have n0_ := Aside0.mk (blk_grown (g := gb178) (o := .cells #[.int .u8 a0_0, .int .u64 a0_1, .int .i64 a0_2, .int .u32 a0_3, .int .u8 a0_4, .int .u16 a0_5, .int .u16 a0_6] 28 (0, 0)) (by (with_reducible repeat (first | refine blk_drewN ?_ _ | refine blk_drew ?_ | refine blk_alloc ?_ _)); exact BK178.out) hg (Kd.R_ne HO205.out BK178.out (by decide)))
          have n1_ := Aside0.mk (Kd.R_over' (by (with_reducible repeat (first | apply Kd.R_alloc | apply Kd.R_drewN | apply Kd.R_drew)); exact HO199.out) (Kd.R_typed (by (with_reducible repeat (first | apply Kd.R_alloc | apply Kd.R_drewN | apply Kd.R_drew)); exact HO205.out)) (by decide) hg)
          have n2_ := Aside0.mk (Kd.R_after (ok := (fun k_ => some k_ ≠ (.slice Ao40 t206.length co40 : Value).ownBlock)) (by (with_reducible repeat (first | apply Kd.R_alloc | apply Kd.R_drewN | apply Kd.R_drew)); exact Kd.R_mono HO202.out (fun _ hk => ⟨hk.2, hk.1⟩)) hg hat)
          have n3_ := Aside0.mk (Kd.R_after (ok := (fun k_ => some k_ ≠ (.slice Ao33 t200.length co33 : Value).ownBlock)) (by (with_reducible repeat (first | apply Kd.R_alloc | apply Kd.R_drewN | apply Kd.R_drew)); exact HO208.out) hg hat)
          have n4_ := Aside0.mk (hb)
          have n5_ := Aside0.mk (ho)
          clear BK178
          clear HO199
          clear HO202
          clear HO208
          clear HB
          clear HO205
          have BK178 := n0_
          have HO199 := n1_
          have HO202 := n2_
          have HO208 := n3_
          have HB := n4_
          have HO211 := n5_
          clear n0_ n1_ n2_ n3_ n4_ n5_
          clear ho hb hg hat
          refine hK.out _ _ ⟨(blk_cell BK178.out 0).trans rfl, (blk_cell BK178.out 1).trans rfl, (blk_cell BK178.out 2).trans rfl, (blk_cell BK178.out 3).trans rfl, (blk_cell BK178.out 4).trans rfl, (blk_cell BK178.out 5).trans rfl, (blk_cell BK178.out 6).trans rfl⟩ (fun hHeld => ?_)
          clear hK K
          refine norm_ (a' := ?_) ?_ ?_
          rotate_left
          · show Act.put _ (some 65) _ = _
            simp only [Act.put, List.setIfInBounds_toArray, List.set_cons_zero, List.set_cons_succ, i64_w, i32_w]
            rfl
          refine one_ (i := 9) (N := some 67) #[true, true, true, true, true, true, true, true, true, true, false] rfl rfl (one_of HT_.out (by kernel_rfl)) (by decide) (fun K hK => ?_)
          refine Kd.R_append_rows_step (Kd.int .u8) (w0 := w) w.heap.size (by rfl) (.tmp 65) (.tmp 66) 30 5 (.int .u8 0) 1 rfl Try.underlying30 info5 rfl (by decide) (by omega) v210 y209 t200 _ _ _ (fun k_ => some k_ ≠ (.slice Ao33 t200.length co33 : Value).ownBlock ∧ some k_ ≠ (.slice Ao40 t206.length co40 : Value).ownBlock) (fun _ => False) rfl rfl ?aO ?aR (fun _ _ h => h) (fun _ h => h.elim) ?aF ?aB ?aS ?aL ?_
          (case aR => repeat (first | exact (Kd.R_reads' HO202.out).2.2 | (with_reducible refine Kd.C_alloc ?_ _) | (with_reducible refine Kd.C_drewN ?_ _) | (with_reducible refine Kd.C_drew ?_)))
          (case aB => exact (by repeat (first | (with_reducible first | exact HB.out | apply below_alloc | apply pw_below_drewN | apply below_drew1 | refine below_set ?_ GE178.out) | exact HB.out)))
          (case aF => exact (fun k_ hk => ⟨Kd.fresh' (Kd.R_lt (by (with_reducible repeat (first | apply Kd.R_alloc | apply Kd.R_drewN | apply Kd.R_drew)); exact HO202.out)) k_ hk, Kd.fresh' (Kd.R_lt (by (with_reducible repeat (first | apply Kd.R_alloc | apply Kd.R_drewN | apply Kd.R_drew)); exact HO208.out)) k_ hk⟩))
          (case aO => exact (by (with_reducible repeat (first | apply Kd.R_alloc | apply Kd.R_drewN | apply Kd.R_drew)); exact HO211.out))
          (case aS => exact (below_size (by repeat (first | (with_reducible first | exact HB.out | apply below_alloc | apply pw_below_drewN | apply below_drew1 | refine below_set ?_ GE178.out) | exact HB.out))))
          (case aL => have := LMc26.out; omega)
          intro v213 w41 ho hb hg hat
          rw [← Ny212.out] at ho
          have n0_ := Aside0.mk (blk_grown (g := gb178) (o := .cells #[.int .u8 a0_0, .int .u64 a0_1, .int .i64 a0_2, .int .u32 a0_3, .int .u8 a0_4, .int .u16 a0_5, .int .u16 a0_6] 28 (0, 0)) (by (with_reducible repeat (first | refine blk_drewN ?_ _ | refine blk_drew ?_ | refine blk_alloc ?_ _)); exact BK178.out) hg (Kd.R_ne HO211.out BK178.out (by decide)))
          have n1_ := Aside0.mk (Kd.R_over' (by (with_reducible repeat (first | apply Kd.R_alloc | apply Kd.R_drewN | apply Kd.R_drew)); exact HO199.out) (Kd.R_typed (by (with_reducible repeat (first | apply Kd.R_alloc | apply Kd.R_drewN | apply Kd.R_drew)); exact HO211.out)) (by decide) hg)
          have n2_ := Aside0.mk (Kd.R_after (ok := (fun k_ => some k_ ≠ (.slice Ao40 t206.length co40 : Value).ownBlock)) (by (with_reducible repeat (first | apply Kd.R_alloc | apply Kd.R_drewN | apply Kd.R_drew)); exact HO202.out) hg hat)
          have n3_ := Aside0.mk (Kd.R_after (ok := (fun k_ => some k_ ≠ (.slice Ao33 t200.length co33 : Value).ownBlock)) (by (with_reducible repeat (first | apply Kd.R_alloc | apply Kd.R_drewN | apply Kd.R_drew)); exact HO208.out) hg hat)
          have n4_ := Aside0.mk (hb)
          have n5_ := Aside0.mk (ho)
          clear BK178
          clear HO199
          clear HO202
          clear HO208
          clear HB
          clear HO211
          have BK178 := n0_
          have HO199 := n1_
          have HO202 := n2_
          have HO208 := n3_
          have HB := n4_
          have HO214 := n5_
          clear n0_ n1_ n2_ n3_ n4_ n5_
          clear ho hb hg hat
          refine hK.out _ _ ⟨(blk_cell BK178.out 0).trans rfl, (blk_cell BK178.out 1).trans rfl, (blk_cell BK178.out 2).trans rfl, (blk_cell BK178.out 3).trans rfl, (blk_cell BK178.out 4).trans rfl, (blk_cell BK178.out 5).trans rfl, (blk_cell BK178.out 6).trans rfl⟩ (fun hHeld => ?_)
          clear hK K
          refine norm_ (a' := ?_) ?_ ?_
          rotate_left
          · show Act.put _ (some 67) _ = _
            simp only [Act.put, List.setIfInBounds_toArray, List.set_cons_zero, List.set_cons_succ, i64_w, i32_w]
            rfl
          refine pure_ (i := 10) (N := some 2) (v := ?_) (a' := ?_) #[true, true, true, true, true, true, true, true, true, true, true] rfl rfl (any_of HT_.out (by kernel_rfl)) (fun _ _ _ h => h) (Or.inl ⟨by rfl, ?_⟩) ?_ ?_
          rotate_left
          · intro w'
            go_simp
            with_reducible rfl
          rotate_left
          · simp only [Act.put, List.setIfInBounds_toArray, List.set_cons_zero, List.set_cons_succ, i64_w, i32_w]
            rfl
          refine done_ (done_of HT_.out (by kernel_rfl)) ?_
          try go_wp2
          go_ret
          exact ⟨_, by first | rfl | (simp [errW_none, errW_some] <;> rfl) | (simp [*, errW_none, errW_some] <;> rfl), by (with_reducible repeat (first | apply Kd.R_alloc | apply Kd.R_drewN | apply Kd.R_drew)); exact Kd.R_mono HO214.out (fun _ hk => trivial), by repeat (first | (with_reducible first | exact HB.out | apply below_alloc | apply pw_below_drewN | apply below_drew1 | refine below_set ?_ GE178.out) | exact HB.out)⟩
        · rw [if_neg c26] at H
          exact absurd H (by simp)
      · rw [if_neg c25] at H
        exact absurd H (by simp)
    · rw [if_neg c22] at H
      have c22b0 : (a0_0 == 2) = false := beq_eq_false_iff_ne.mpr c22
      have c22b1 : (a0_0 != 2) = true := bne_iff_ne.mpr c22
      by_cases c42 : a0_0 = 3
      · rw [if_pos c42] at H
        have c42b0 : (a0_0 == 3) = true := beq_iff_eq.mpr c42
        have c42b1 : (a0_0 != 3) = false := bne_eq_false_iff_eq.mpr c42
        clear c42
        obtain ⟨y215, hy215⟩ : ∃ y_ : List Int, y_ = (([IntKind.u64.wrap (a0_2), IntKind.u64.wrap (a0_3), IntKind.u64.wrap (a0_4), IntKind.u64.wrap (a0_5), IntKind.u64.wrap (a0_6)] : List Int)) := ⟨_, rfl⟩
        replace H : ((milestoneref01_Coins.f k y215).bind fun t218 => ((some (([a0_0] : List Int) : List Int)).bind fun y221 => ((milestoneref01_Coin.f k (IntKind.u64.wrap ((t218.length : Int)))).bind fun t224 => (if y221.length + t224.length < 140737488355328 then ((some (y221 ++ t224 : List Int)).bind fun y227 => (if y227.length + t218.length < 140737488355328 then (some (y227 ++ t218)) else (none))) else (none))))) = some r := by first | (rw [hy215]; with_reducible exact H) | (have H2_ := (Option.bind_some _ _).symm.trans H; rw [hy215]; with_reducible exact H2_) | (have H2_ := (Option.bind_some _ _).symm.trans H; with_reducible exact H2_) | with_reducible exact H | (rw [hy215]; exact H) | exact H
        have Ny215 := Aside0.mk hy215
        clear hy215
        replace H := Option.bind_eq_some_iff.mp H
        obtain ⟨t218, A430, H⟩ := H
        replace H : ((some (([a0_0] : List Int) : List Int)).bind fun y221 => ((milestoneref01_Coin.f k (IntKind.u64.wrap ((t218.length : Int)))).bind fun t224 => (if y221.length + t224.length < 140737488355328 then ((some (y221 ++ t224 : List Int)).bind fun y227 => (if y227.length + t218.length < 140737488355328 then (some (y227 ++ t218)) else (none))) else (none)))) = some r := H
        have A43 := Aside0.mk A430
        clear A430
        obtain ⟨y221, hy221⟩ : ∃ y_ : List Int, y_ = (([a0_0] : List Int)) := ⟨_, rfl⟩
        replace H : ((milestoneref01_Coin.f k (IntKind.u64.wrap ((t218.length : Int)))).bind fun t224 => (if y221.length + t224.length < 140737488355328 then ((some (y221 ++ t224 : List Int)).bind fun y227 => (if y227.length + t218.length < 140737488355328 then (some (y227 ++ t218)) else (none))) else (none))) = some r := by first | (rw [hy221]; with_reducible exact H) | (have H2_ := (Option.bind_some _ _).symm.trans H; rw [hy221]; with_reducible exact H2_) | (have H2_ := (Option.bind_some _ _).symm.trans H; with_reducible exact H2_) | with_reducible exact H | (rw [hy221]; exact H) | exact H
        have Ny221 := Aside0.mk hy221
        clear hy221
        replace H := Option.bind_eq_some_iff.mp H
        obtain ⟨t224, A440, H⟩ := H
        replace H : (if y221.length + t224.length < 140737488355328 then ((some (y221 ++ t224 : List Int)).bind fun y227 => (if y227.length + t218.length < 140737488355328 then (some (y227 ++ t218)) else (none))) else (none)) = some r := H
        have A44 := Aside0.mk A440
        clear A440
        by_cases c45 : y221.length + t224.length < 140737488355328
        · rw [if_pos c45] at H
          have LMc45 := Aside0.mk c45
          clear c45
          obtain ⟨y227, hy227⟩ : ∃ y_ : List Int, y_ = (y221 ++ t224) := ⟨_, rfl⟩
          replace H : (if y227.length + t218.length < 140737488355328 then (some (y227 ++ t218)) else (none)) = some r := by first | (rw [hy227]; with_reducible exact H) | (have H2_ := (Option.bind_some _ _).symm.trans H; rw [hy227]; with_reducible exact H2_) | (have H2_ := (Option.bind_some _ _).symm.trans H; with_reducible exact H2_) | with_reducible exact H | (rw [hy227]; exact H) | exact H
          have Ny227 := Aside0.mk hy227
          clear hy227
          by_cases c46 : y227.length + t218.length < 140737488355328
          · rw [if_pos c46] at H
            have LMc46 := Aside0.mk c46
            clear c46
            obtain ⟨y230, hy230⟩ : ∃ y_ : List Int, y_ = (y227 ++ t218) := ⟨_, rfl⟩
            replace H : (some y230) = some r := by first | (rw [hy230]; with_reducible exact H) | (have H2_ := (Option.bind_some _ _).symm.trans H; rw [hy230]; with_reducible exact H2_) | (have H2_ := (Option.bind_some _ _).symm.trans H; with_reducible exact H2_) | with_reducible exact H | (rw [hy230]; exact H) | exact H
            have Ny230 := Aside0.mk hy230
            clear hy230
            obtain rfl := Option.some.inj H
            simp only [Option.some.injEq, Prod.mk.injEq] at H
            obtain ⟨rfl⟩ := H
            go_enter Try.func11, Try.ntmps11
            try go_wp2_with (first | ((with_reducible refine gate_dst (N := 1) rfl ?_); refine box_event ?hg (N := 1) ?hd (cs := #[.int .u8 a0_0, .int .u64 a0_1, .int .i64 a0_2, .int .u32 a0_3, .int .u8 a0_4, .int .u16 a0_5, .int .u16 a0_6]) (t := 28) ?hr ?_; (case hd => rfl); (case hg => rfl); (case hr => first | (go_simp; done) | (go_simp; rfl)); intro gb178 hg w47 hbox hb; have n0_ := Aside0.mk (below_step (by repeat (first | (with_reducible first | exact HB.out | apply below_alloc | apply pw_below_drewN | apply below_drew1) | exact HB.out)) hb); have n1_ := Aside0.mk (hbox); have n2_ := Aside0.mk ((by rw [hg]; exact (below_size (by repeat (first | (with_reducible first | exact HB.out | apply below_alloc | apply pw_below_drewN | apply below_drew1) | exact HB.out))) : w.heap.size ≤ gb178)); have n3_ := Aside0.mk ((by rw [hg]; exact (below_size (by repeat (first | (with_reducible first | exact HB.out | apply below_alloc | apply pw_below_drewN | apply below_drew1) | exact HB.out))) : w.heap.size ≤ gb178)); clear HB; have HB := n0_; have BK178 := n1_; have GW178 := n2_; have GE178 := n3_; clear n0_ n1_ n2_ n3_; clear hb hbox hg; have hcz48_0 : w47.cell? ⟨gb178, 0, none⟩ = some (.int .u8 a0_0) := (blk_cell BK178.out 0).trans rfl; have hcz48_1 : w47.cell? ⟨gb178, 1, none⟩ = some (.int .u64 a0_1) := (blk_cell BK178.out 1).trans rfl; have hcz48_2 : w47.cell? ⟨gb178, 2, none⟩ = some (.int .i64 a0_2) := (blk_cell BK178.out 2).trans rfl; have hcz48_3 : w47.cell? ⟨gb178, 3, none⟩ = some (.int .u32 a0_3) := (blk_cell BK178.out 3).trans rfl; have hcz48_4 : w47.cell? ⟨gb178, 4, none⟩ = some (.int .u8 a0_4) := (blk_cell BK178.out 4).trans rfl; have hcz48_5 : w47.cell? ⟨gb178, 5, none⟩ = some (.int .u16 a0_5) := (blk_cell BK178.out 5).trans rfl; have hcz48_6 : w47.cell? ⟨gb178, 6, none⟩ = some (.int .u16 a0_6) := (blk_cell BK178.out 6).trans rfl; have hfz48_0 := blk_frozen BK178.out 0; have hfz48_1 := blk_frozen BK178.out 1; have hfz48_2 := blk_frozen BK178.out 2; have hfz48_3 := blk_frozen BK178.out 3; have hfz48_4 := blk_frozen BK178.out 4; have hfz48_5 := blk_frozen BK178.out 5; have hfz48_6 := blk_frozen BK178.out 6) | ((with_reducible refine gate_dst (N := 56) rfl ?_); refine Kd.R_lit (Kd.int .u64) _ 22 ?hg (N := 56) ?hd (xs := ([IntKind.u64.wrap (a0_2), IntKind.u64.wrap (a0_3), IntKind.u64.wrap (a0_4), IntKind.u64.wrap (a0_5), IntKind.u64.wrap (a0_6)] : List Int)) (inner := [.int .u64 (IntKind.u64.wrap (a0_2)), .int .u64 (IntKind.u64.wrap (a0_3)), .int .u64 (IntKind.u64.wrap (a0_4)), .int .u64 (IntKind.u64.wrap (a0_5)), .int .u64 (IntKind.u64.wrap (a0_6))]) (ok := fun _ => True) (okp := fun _ => True) ?hr ?hp (fun _ hk => hk) trivial (Below.refl _ _) (Nat.le_refl _) (by simp) ?_; (case hd => rfl); (case hg => rfl); (case hr => first | (go_simp; done) | (go_simp; rfl)); (case hp => exact (Reps.one (show Kd.M (Kd.int .u64) _ _ _ (IntKind.u64.wrap (a0_2)) [.int .u64 (IntKind.u64.wrap (a0_2))] from rfl) (Reps.one (show Kd.M (Kd.int .u64) _ _ _ (IntKind.u64.wrap (a0_3)) [.int .u64 (IntKind.u64.wrap (a0_3))] from rfl) (Reps.one (show Kd.M (Kd.int .u64) _ _ _ (IntKind.u64.wrap (a0_4)) [.int .u64 (IntKind.u64.wrap (a0_4))] from rfl) (Reps.one (show Kd.M (Kd.int .u64) _ _ _ (IntKind.u64.wrap (a0_5)) [.int .u64 (IntKind.u64.wrap (a0_5))] from rfl) (Reps.one (show Kd.M (Kd.int .u64) _ _ _ (IntKind.u64.wrap (a0_6)) [.int .u64 (IntKind.u64.wrap (a0_6))] from rfl) (Reps.none _ _))))))); intro v216 w49 ho50 hb hg_ hnew_; clear hg_ hnew_; (first | rw [← Ny215.out] at ho50 | (simp only [Int.reduceToNat] at ho50; rw [← Ny215.out] at ho50)); have n0_ := Aside0.mk (Kd.R_lower ho50 (below_size (by repeat (first | (with_reducible first | exact HB.out | apply below_alloc | apply pw_below_drewN | apply below_drew1 | refine below_set ?_ GE178.out) | exact HB.out)))); have n1_ := Aside0.mk (blk_below (g := gb178) (o := .cells #[.int .u8 a0_0, .int .u64 a0_1, .int .i64 a0_2, .int .u32 a0_3, .int .u8 a0_4, .int .u16 a0_5, .int .u16 a0_6] 28 (0, 0)) (by (with_reducible repeat (first | refine blk_drewN ?_ _ | refine blk_drew ?_ | refine blk_alloc ?_ _)); exact BK178.out) hb); have n2_ := Aside0.mk (below_step (by repeat (first | (with_reducible first | exact HB.out | apply below_alloc | apply pw_below_drewN | apply below_drew1 | refine below_set ?_ GE178.out) | exact HB.out)) hb); clear BK178; clear HB; have HO217 := n0_; have BK178 := n1_; have HB := n2_; clear n0_ n1_ n2_; clear hb ho50; obtain ⟨Ao51, co51, eo51⟩ := Kd.R_slice HO217.out; subst eo51) | ((with_reducible refine gate_callee (f := 24) rfl ?_); refine goesL_ (some 57) rfl rfl Try.func24 (by kernel_rfl) rfl #[.slice Ao51 y215.length co51] rfl (by (try simp only [List.map_toArray, List.map_cons, List.map_nil]); first | done | rfl | (simp only [List.length_drop, List.length_take]; rfl) | (simp; done) | (refine qa_arr ?_; (repeat' (first | rfl | refine qa_cons ?_ ?_ | refine qa_int ?_ | refine qa_agg ?_ | refine qa_arr ?_ | omega)); done)) ?_; (with_reducible refine (milestoneref01_Coins.calls k _ _ y215 t218 _ ?side1 ?side2 A43.out).mono ?_); (case side1 => repeat (first | exact (Kd.R_reads' HO217.out).2.2 | (with_reducible refine Kd.C_alloc ?_ _) | (with_reducible refine Kd.C_drewN ?_ _) | (with_reducible refine Kd.C_drew ?_))); (case side2 => exact (Kd.R_reads' HO217.out).2.1); rintro e w52 ⟨v219, rfl, ho0, hb⟩; refine ⟨_, rfl, ?_⟩; have n0_ := Aside0.mk (Kd.R_below (by (with_reducible repeat (first | apply Kd.R_alloc | apply Kd.R_drewN | apply Kd.R_drew)); exact HO217.out) hb); have n1_ := Aside0.mk (Kd.R_lower ho0 (below_size (by repeat (first | (with_reducible first | exact HB.out | apply below_alloc | apply pw_below_drewN | apply below_drew1 | refine below_set ?_ GE178.out) | exact HB.out)))); have n2_ := Aside0.mk (blk_below (g := gb178) (o := .cells #[.int .u8 a0_0, .int .u64 a0_1, .int .i64 a0_2, .int .u32 a0_3, .int .u8 a0_4, .int .u16 a0_5, .int .u16 a0_6] 28 (0, 0)) (by (with_reducible repeat (first | refine blk_drewN ?_ _ | refine blk_drew ?_ | refine blk_alloc ?_ _)); exact BK178.out) hb); have n3_ := Aside0.mk (below_step (by repeat (first | (with_reducible first | exact HB.out | apply below_alloc | apply pw_below_drewN | apply below_drew1 | refine below_set ?_ GE178.out) | exact HB.out)) hb); clear HO217; clear BK178; clear HB; have HO217 := n0_; have HO220 := n1_; have BK178 := n2_; have HB := n3_; clear n0_ n1_ n2_ n3_; (try clear hb); (try clear hb2); (try clear hk); (try clear hi); (try clear ho0); obtain ⟨Ao53, co53, eo53⟩ := Kd.R_slice HO220.out; subst eo53))
            have n0_ := Aside0.mk (Kd.R_drew HO217.out)
            have n1_ := Aside0.mk (Kd.R_drew HO220.out)
            have n2_ := Aside0.mk (blk_drew BK178.out)
            have n3_ := Aside0.mk (below_drew1 HB.out)
            clear HO217
            clear HO220
            clear BK178
            clear HB
            have HO217 := n0_
            have HO220 := n1_
            have BK178 := n2_
            have HB := n3_
            clear n0_ n1_ n2_ n3_
            refine start_ (n := 11) (S := fun w' => w'.cell? ⟨gb178, 0, none⟩ = some (.int .u8 a0_0) ∧ w'.cell? ⟨gb178, 1, none⟩ = some (.int .u64 a0_1) ∧ w'.cell? ⟨gb178, 2, none⟩ = some (.int .i64 a0_2) ∧ w'.cell? ⟨gb178, 3, none⟩ = some (.int .u32 a0_3) ∧ w'.cell? ⟨gb178, 4, none⟩ = some (.int .u8 a0_4) ∧ w'.cell? ⟨gb178, 5, none⟩ = some (.int .u16 a0_5) ∧ w'.cell? ⟨gb178, 6, none⟩ = some (.int .u16 a0_6)) (ds := []) #[false, false, false, false, false, false, false, false, false, false, false] (by kernel_rfl) rfl rfl ⟨(blk_cell BK178.out 0).trans rfl, (blk_cell BK178.out 1).trans rfl, (blk_cell BK178.out 2).trans rfl, (blk_cell BK178.out 3).trans rfl, (blk_cell BK178.out 4).trans rfl, (blk_cell BK178.out 5).trans rfl, (blk_cell BK178.out 6).trans rfl⟩ (fun hHeld => ?_); refine with_tabW milestonelaw13_bytes.tab10 milestonelaw13_bytes.bits10 (fun HT_ HW_ => ?_)
            generalize w52.drew = w54 at HO217 HO220 BK178 HB hHeld ⊢
            refine pure_ (i := 0) (N := some 58) (v := ?_) (a' := ?_) #[true, false, false, false, false, false, false, false, false, false, false] rfl rfl (any_of HT_.out (by kernel_rfl)) (fun _ _ _ h => h) (Or.inl ⟨by rfl, ?_⟩) ?_ ?_
            rotate_left
            · intro w'
              go_simp
              with_reducible rfl
            rotate_left
            · simp only [Act.put, List.setIfInBounds_toArray, List.set_cons_zero, List.set_cons_succ, i64_w, i32_w]
              rfl
            refine pure_ (i := 3) (N := some 61) (v := ?_) (a' := ?_) #[true, false, false, true, false, false, false, false, false, false, false] rfl rfl (any_of HT_.out (by kernel_rfl)) (fun _ _ _ h => h) (Or.inl ⟨by rfl, ?_⟩) ?_ ?_
            rotate_left
            · intro w'
              go_simp
              with_reducible rfl
            rotate_left
            · simp only [Act.put, List.setIfInBounds_toArray, List.set_cons_zero, List.set_cons_succ, i64_w, i32_w]
              rfl
            refine pure_ (i := 4) (N := some 62) (v := ?_) (a' := ?_) #[true, false, false, true, true, false, false, false, false, false, false] rfl rfl (any_of HT_.out (by kernel_rfl)) (fun _ _ _ h => h) (Or.inl ⟨by rfl, ?_⟩) ?_ ?_
            rotate_left
            · intro w'
              go_simp
              with_reducible rfl
            rotate_left
            · simp only [Act.put, List.setIfInBounds_toArray, List.set_cons_zero, List.set_cons_succ, i64_w, i32_w]
              rfl
            refine pure_ (i := 5) (N := some 63) (v := ?_) (a' := ?_) #[true, false, false, true, true, true, false, false, false, false, false] rfl rfl (any_of HT_.out (by kernel_rfl)) (fun _ _ _ h => h) (Or.inl ⟨by rfl, ?_⟩) ?_ ?_
            rotate_left
            · intro w'
              go_simp
              with_reducible rfl
            rotate_left
            · simp only [Act.put, List.setIfInBounds_toArray, List.set_cons_zero, List.set_cons_succ, i64_w, i32_w]
              rfl
            refine pure_ (i := 8) (N := some 66) (v := ?_) (a' := ?_) #[true, false, false, true, true, true, false, false, true, false, false] rfl rfl (any_of HT_.out (by kernel_rfl)) (fun _ _ _ h => h) (Or.inl ⟨by rfl, ?_⟩) ?_ ?_
            rotate_left
            · intro w'
              go_simp
              with_reducible rfl
            rotate_left
            · simp only [Act.put, List.setIfInBounds_toArray, List.set_cons_zero, List.set_cons_succ, i64_w, i32_w]
              rfl
            refine take_ (i := 1) (N := some 59) (v := ?_) (a' := ?_) #[true, true, false, true, true, true, false, false, true, false, false] rfl rfl (take_ofW HT_.out HW_.out (by kernel_rfl)) (fun _ _ _ h => h) (Or.inl ⟨by rfl, ?_⟩) hHeld ?_ ?_
            rotate_left
            · rintro w' ⟨s0, s1, s2, s3, s4, s5, s6⟩
              go_simp
              with_reducible rfl
            rotate_left
            · simp only [Act.put, List.setIfInBounds_toArray, List.set_cons_zero, List.set_cons_succ, i64_w, i32_w]
              rfl
            refine join_ (σ := Value × Value) 3 #[true, true, true, true, true, true, true, false, true, false, false] (fun s_ => [(60, s_.1), (64, s_.2)]) (fun s_ w' => (w'.cell? ⟨gb178, 0, none⟩ = some (.int .u8 a0_0) ∧ w'.cell? ⟨gb178, 1, none⟩ = some (.int .u64 a0_1) ∧ w'.cell? ⟨gb178, 2, none⟩ = some (.int .i64 a0_2) ∧ w'.cell? ⟨gb178, 3, none⟩ = some (.int .u32 a0_3) ∧ w'.cell? ⟨gb178, 4, none⟩ = some (.int .u8 a0_4) ∧ w'.cell? ⟨gb178, 5, none⟩ = some (.int .u16 a0_5) ∧ w'.cell? ⟨gb178, 6, none⟩ = some (.int .u16 a0_6)) ∧ (Kd.R (Kd.int .u64) 22 w' w.heap.size (fun _ => True) (.slice Ao51 y215.length co51) y215) ∧ (Kd.R (Kd.int .u8) 5 w' w.heap.size (fun k_ => some k_ ≠ (s_.1 : Value).ownBlock ∧ some k_ ≠ (s_.2 : Value).ownBlock) (.slice Ao53 t218.length co53) t218) ∧ (Kd.R (Kd.int .u8) 5 w' w.heap.size (fun k_ => some k_ ≠ (.slice Ao53 t218.length co53 : Value).ownBlock ∧ some k_ ≠ (s_.2 : Value).ownBlock) s_.1 y221) ∧ (Kd.R (Kd.int .u8) 5 w' w.heap.size (fun k_ => some k_ ≠ (.slice Ao53 t218.length co53 : Value).ownBlock ∧ some k_ ≠ (s_.1 : Value).ownBlock) s_.2 t224) ∧ (w'.heap[gb178]? = some (.cells #[.int .u8 a0_0, .int .u64 a0_1, .int .i64 a0_2, .int .u32 a0_3, .int .u8 a0_4, .int .u16 a0_5, .int .u16 a0_6] 28 (0, 0))) ∧ (Below w.heap.size w w')) ?_ ?_
            rotate_left
            · intro hCont
              refine two_ (i := 2) (j := 6) (Ni := some 60) (Nj := some 64) #[true, true, true, true, true, true, false, false, true, false, false] #[true, true, false, true, true, true, true, false, true, false, false] rfl rfl rfl rfl (two_of HT_.out (by kernel_rfl)) (by decide) (by decide) (fun K hK => ?_) (fun K hK => ?_)
              · skip
                refine Kd.R_lit_step (Kd.int .u8) _ 5 ?hg (N := 60) ?hd (xs := ([a0_0] : List Int)) (inner := [.int .u8 a0_0]) (ok := fun _ => True) (okp := fun _ => True) ?hr ?hp (fun _ hk => hk) trivial (Below.refl _ _) (Nat.le_refl _) (by simp) ?_; (case hd => rfl); (case hg => rfl); (case hr => first | (go_simp; done) | (go_simp; rfl)); (case hp => exact (Reps.one (show Kd.M (Kd.int .u8) _ _ _ a0_0 [.int .u8 a0_0] from rfl) (Reps.none _ _)))
                intro v222 w55 ho56 hb hg_ hnew_
                clear hg_ hnew_
                (first | rw [← Ny221.out] at ho56 | (simp only [Int.reduceToNat] at ho56; rw [← Ny221.out] at ho56))
                have n0_ := Aside0.mk (Kd.R_below (by (with_reducible repeat (first | apply Kd.R_alloc | apply Kd.R_drewN | apply Kd.R_drew)); exact HO217.out) hb)
                have n1_ := Aside0.mk (Kd.R_elder' (by (with_reducible repeat (first | apply Kd.R_alloc | apply Kd.R_drewN | apply Kd.R_drew)); exact HO220.out) (Kd.R_base ho56) hb)
                have n2_ := Aside0.mk (Kd.R_lower (Kd.R_new' ho56 (Kd.R_lt (by (with_reducible repeat (first | apply Kd.R_alloc | apply Kd.R_drewN | apply Kd.R_drew)); exact HO220.out))) (below_size (by repeat (first | (with_reducible first | exact HB.out | apply below_alloc | apply pw_below_drewN | apply below_drew1 | refine below_set ?_ GE178.out) | exact HB.out))))
                have n3_ := Aside0.mk (blk_below (g := gb178) (o := .cells #[.int .u8 a0_0, .int .u64 a0_1, .int .i64 a0_2, .int .u32 a0_3, .int .u8 a0_4, .int .u16 a0_5, .int .u16 a0_6] 28 (0, 0)) (by (with_reducible repeat (first | refine blk_drewN ?_ _ | refine blk_drew ?_ | refine blk_alloc ?_ _)); exact BK178.out) hb)
                have n4_ := Aside0.mk (below_step (by repeat (first | (with_reducible first | exact HB.out | apply below_alloc | apply pw_below_drewN | apply below_drew1 | refine below_set ?_ GE178.out) | exact HB.out)) hb)
                clear HO217
                clear HO220
                clear BK178
                clear HB
                have HO217 := n0_
                have HO220 := n1_
                have HO223 := n2_
                have BK178 := n3_
                have HB := n4_
                clear n0_ n1_ n2_ n3_ n4_
                clear hb ho56
                refine hK.out _ _ ⟨(blk_cell BK178.out 0).trans rfl, (blk_cell BK178.out 1).trans rfl, (blk_cell BK178.out 2).trans rfl, (blk_cell BK178.out 3).trans rfl, (blk_cell BK178.out 4).trans rfl, (blk_cell BK178.out 5).trans rfl, (blk_cell BK178.out 6).trans rfl⟩ (fun hHeld => ?_)
                clear hK K
                refine norm_ (a' := ?_) ?_ ?_
                rotate_left
                · show Act.put _ (some 60) _ = _
                  simp only [Act.put, List.setIfInBounds_toArray, List.set_cons_zero, List.set_cons_succ, i64_w, i32_w]
                  rfl
                refine one_ (i := 6) (N := some 64) #[true, true, true, true, true, true, true, false, true, false, false] rfl rfl (one_of HT_.out (by kernel_rfl)) (by decide) (fun K hK => ?_)
                refine goes_ Try.func15 (by kernel_rfl) rfl #[.int .u64 (IntKind.u64.wrap ((t218.length : Int)))] (by rfl) rfl rfl (by (try simp only [List.map_toArray, List.map_cons, List.map_nil]); first | done | rfl | (simp only [List.length_drop, List.length_take]; rfl)) ?_
                with_reducible refine (milestoneref01_Coin.calls k (IntKind.u64.wrap ((t218.length : Int))) t224 _ A44.out).mono ?_
                rintro e w57 ⟨v225, rfl, ho0, hb⟩
                refine ⟨_, rfl, ?_⟩
                have n0_ := Aside0.mk (Kd.R_below (by (with_reducible repeat (first | apply Kd.R_alloc | apply Kd.R_drewN | apply Kd.R_drew)); exact HO217.out) hb)
                have n1_ := Aside0.mk (Kd.R_elder' (by (with_reducible repeat (first | apply Kd.R_alloc | apply Kd.R_drewN | apply Kd.R_drew)); exact HO220.out) (Kd.R_base ho0) hb)
                have n2_ := Aside0.mk (Kd.R_elder' (by (with_reducible repeat (first | apply Kd.R_alloc | apply Kd.R_drewN | apply Kd.R_drew)); exact HO223.out) (Kd.R_base ho0) hb)
                have n3_ := Aside0.mk (Kd.R_lower (Kd.R_new' (Kd.R_new' ho0 (Kd.R_lt (by (with_reducible repeat (first | apply Kd.R_alloc | apply Kd.R_drewN | apply Kd.R_drew)); exact HO220.out))) (Kd.R_lt (by (with_reducible repeat (first | apply Kd.R_alloc | apply Kd.R_drewN | apply Kd.R_drew)); exact HO223.out))) (below_size (by repeat (first | (with_reducible first | exact HB.out | apply below_alloc | apply pw_below_drewN | apply below_drew1 | refine below_set ?_ GE178.out) | exact HB.out))))
                have n4_ := Aside0.mk (blk_below (g := gb178) (o := .cells #[.int .u8 a0_0, .int .u64 a0_1, .int .i64 a0_2, .int .u32 a0_3, .int .u8 a0_4, .int .u16 a0_5, .int .u16 a0_6] 28 (0, 0)) (by (with_reducible repeat (first | refine blk_drewN ?_ _ | refine blk_drew ?_ | refine blk_alloc ?_ _)); exact BK178.out) hb)
                have n5_ := Aside0.mk (below_step (by repeat (first | (with_reducible first | exact HB.out | apply below_alloc | apply pw_below_drewN | apply below_drew1 | refine below_set ?_ GE178.out) | exact HB.out)) hb)
                clear HO217
                clear HO220
                clear HO223
                clear BK178
                clear HB
                have HO217 := n0_
                have HO220 := n1_
                have HO223 := n2_
                have HO226 := n3_
                have BK178 := n4_
                have HB := n5_
                clear n0_ n1_ n2_ n3_ n4_ n5_
                (try clear hb)
                (try clear hb2)
                (try clear hk)
                (try clear hi)
                (try clear ho0)
                refine hK.out _ _ ⟨(blk_cell BK178.out 0).trans rfl, (blk_cell BK178.out 1).trans rfl, (blk_cell BK178.out 2).trans rfl, (blk_cell BK178.out 3).trans rfl, (blk_cell BK178.out 4).trans rfl, (blk_cell BK178.out 5).trans rfl, (blk_cell BK178.out 6).trans rfl⟩ (fun hHeld => ?_)
                clear hK K
                refine norm_ (a' := ?_) ?_ ?_
                rotate_left
                · show Act.put _ (some 64) _ = _
                  simp only [Act.put, List.setIfInBounds_toArray, List.set_cons_zero, List.set_cons_succ, i64_w, i32_w]
                  rfl
                exact norm_ (by simp only [putAll, Act.put, List.setIfInBounds_toArray, List.set_cons_zero, List.set_cons_succ]) (hCont (v222, v225) _ ⟨hHeld, (by (with_reducible repeat (first | apply Kd.R_alloc | apply Kd.R_drewN | apply Kd.R_drew)); exact HO217.out), (by (with_reducible repeat (first | apply Kd.R_alloc | apply Kd.R_drewN | apply Kd.R_drew)); exact Kd.R_mono HO220.out (fun _ hk => ⟨hk.1.2, hk.2⟩)), (by (with_reducible repeat (first | apply Kd.R_alloc | apply Kd.R_drewN | apply Kd.R_drew)); exact Kd.R_mono HO223.out (fun _ hk => ⟨hk.1.2, hk.2⟩)), (by (with_reducible repeat (first | apply Kd.R_alloc | apply Kd.R_drewN | apply Kd.R_drew)); exact Kd.R_mono HO226.out (fun _ hk => ⟨hk.1.2, hk.2⟩)), (by (with_reducible repeat (first | refine blk_drewN ?_ _ | refine blk_drew ?_ | refine blk_alloc ?_ _)); exact BK178.out), (by repeat (first | (with_reducible first | exact HB.out | apply below_alloc | apply pw_below_drewN | apply below_drew1 | refine below_set ?_ GE178.out) | exact HB.out))⟩)
              · skip
                refine goes_ Try.func15 (by kernel_rfl) rfl #[.int .u64 (IntKind.u64.wrap ((t218.length : Int)))] (by rfl) rfl rfl (by (try simp only [List.map_toArray, List.map_cons, List.map_nil]); first | done | rfl | (simp only [List.length_drop, List.length_take]; rfl)) ?_
                with_reducible refine (milestoneref01_Coin.calls k (IntKind.u64.wrap ((t218.length : Int))) t224 _ A44.out).mono ?_
                rintro e w55 ⟨v225, rfl, ho0, hb⟩
                refine ⟨_, rfl, ?_⟩
                have n0_ := Aside0.mk (Kd.R_below (by (with_reducible repeat (first | apply Kd.R_alloc | apply Kd.R_drewN | apply Kd.R_drew)); exact HO217.out) hb)
                have n1_ := Aside0.mk (Kd.R_elder' (by (with_reducible repeat (first | apply Kd.R_alloc | apply Kd.R_drewN | apply Kd.R_drew)); exact HO220.out) (Kd.R_base ho0) hb)
                have n2_ := Aside0.mk (Kd.R_lower (Kd.R_new' ho0 (Kd.R_lt (by (with_reducible repeat (first | apply Kd.R_alloc | apply Kd.R_drewN | apply Kd.R_drew)); exact HO220.out))) (below_size (by repeat (first | (with_reducible first | exact HB.out | apply below_alloc | apply pw_below_drewN | apply below_drew1 | refine below_set ?_ GE178.out) | exact HB.out))))
                have n3_ := Aside0.mk (blk_below (g := gb178) (o := .cells #[.int .u8 a0_0, .int .u64 a0_1, .int .i64 a0_2, .int .u32 a0_3, .int .u8 a0_4, .int .u16 a0_5, .int .u16 a0_6] 28 (0, 0)) (by (with_reducible repeat (first | refine blk_drewN ?_ _ | refine blk_drew ?_ | refine blk_alloc ?_ _)); exact BK178.out) hb)
                have n4_ := Aside0.mk (below_step (by repeat (first | (with_reducible first | exact HB.out | apply below_alloc | apply pw_below_drewN | apply below_drew1 | refine below_set ?_ GE178.out) | exact HB.out)) hb)
                clear HO217
                clear HO220
                clear BK178
                clear HB
                have HO217 := n0_
                have HO220 := n1_
                have HO226 := n2_
                have BK178 := n3_
                have HB := n4_
                clear n0_ n1_ n2_ n3_ n4_
                (try clear hb)
                (try clear hb2)
                (try clear hk)
                (try clear hi)
                (try clear ho0)
                refine hK.out _ _ ⟨(blk_cell BK178.out 0).trans rfl, (blk_cell BK178.out 1).trans rfl, (blk_cell BK178.out 2).trans rfl, (blk_cell BK178.out 3).trans rfl, (blk_cell BK178.out 4).trans rfl, (blk_cell BK178.out 5).trans rfl, (blk_cell BK178.out 6).trans rfl⟩ (fun hHeld => ?_)
                clear hK K
                refine norm_ (a' := ?_) ?_ ?_
                rotate_left
                · show Act.put _ (some 64) _ = _
                  simp only [Act.put, List.setIfInBounds_toArray, List.set_cons_zero, List.set_cons_succ, i64_w, i32_w]
                  rfl
                refine one_ (i := 2) (N := some 60) #[true, true, true, true, true, true, true, false, true, false, false] rfl rfl (one_of HT_.out (by kernel_rfl)) (by decide) (fun K hK => ?_)
                refine Kd.R_lit_step (Kd.int .u8) _ 5 ?hg (N := 60) ?hd (xs := ([a0_0] : List Int)) (inner := [.int .u8 a0_0]) (ok := fun _ => True) (okp := fun _ => True) ?hr ?hp (fun _ hk => hk) trivial (Below.refl _ _) (Nat.le_refl _) (by simp) ?_; (case hd => rfl); (case hg => rfl); (case hr => first | (go_simp; done) | (go_simp; rfl)); (case hp => exact (Reps.one (show Kd.M (Kd.int .u8) _ _ _ a0_0 [.int .u8 a0_0] from rfl) (Reps.none _ _)))
                intro v222 w56 ho57 hb hg_ hnew_
                clear hg_ hnew_
                (first | rw [← Ny221.out] at ho57 | (simp only [Int.reduceToNat] at ho57; rw [← Ny221.out] at ho57))
                have n0_ := Aside0.mk (Kd.R_below (by (with_reducible repeat (first | apply Kd.R_alloc | apply Kd.R_drewN | apply Kd.R_drew)); exact HO217.out) hb)
                have n1_ := Aside0.mk (Kd.R_elder' (by (with_reducible repeat (first | apply Kd.R_alloc | apply Kd.R_drewN | apply Kd.R_drew)); exact HO220.out) (Kd.R_base ho57) hb)
                have n2_ := Aside0.mk (Kd.R_elder' (by (with_reducible repeat (first | apply Kd.R_alloc | apply Kd.R_drewN | apply Kd.R_drew)); exact HO226.out) (Kd.R_base ho57) hb)
                have n3_ := Aside0.mk (Kd.R_lower (Kd.R_new' (Kd.R_new' ho57 (Kd.R_lt (by (with_reducible repeat (first | apply Kd.R_alloc | apply Kd.R_drewN | apply Kd.R_drew)); exact HO220.out))) (Kd.R_lt (by (with_reducible repeat (first | apply Kd.R_alloc | apply Kd.R_drewN | apply Kd.R_drew)); exact HO226.out))) (below_size (by repeat (first | (with_reducible first | exact HB.out | apply below_alloc | apply pw_below_drewN | apply below_drew1 | refine below_set ?_ GE178.out) | exact HB.out))))
                have n4_ := Aside0.mk (blk_below (g := gb178) (o := .cells #[.int .u8 a0_0, .int .u64 a0_1, .int .i64 a0_2, .int .u32 a0_3, .int .u8 a0_4, .int .u16 a0_5, .int .u16 a0_6] 28 (0, 0)) (by (with_reducible repeat (first | refine blk_drewN ?_ _ | refine blk_drew ?_ | refine blk_alloc ?_ _)); exact BK178.out) hb)
                have n5_ := Aside0.mk (below_step (by repeat (first | (with_reducible first | exact HB.out | apply below_alloc | apply pw_below_drewN | apply below_drew1 | refine below_set ?_ GE178.out) | exact HB.out)) hb)
                clear HO217
                clear HO220
                clear HO226
                clear BK178
                clear HB
                have HO217 := n0_
                have HO220 := n1_
                have HO226 := n2_
                have HO223 := n3_
                have BK178 := n4_
                have HB := n5_
                clear n0_ n1_ n2_ n3_ n4_ n5_
                clear hb ho57
                refine hK.out _ _ ⟨(blk_cell BK178.out 0).trans rfl, (blk_cell BK178.out 1).trans rfl, (blk_cell BK178.out 2).trans rfl, (blk_cell BK178.out 3).trans rfl, (blk_cell BK178.out 4).trans rfl, (blk_cell BK178.out 5).trans rfl, (blk_cell BK178.out 6).trans rfl⟩ (fun hHeld => ?_)
                clear hK K
                refine norm_ (a' := ?_) ?_ ?_
                rotate_left
                · show Act.put _ (some 60) _ = _
                  simp only [Act.put, List.setIfInBounds_toArray, List.set_cons_zero, List.set_cons_succ, i64_w, i32_w]
                  rfl
                exact norm_ (by simp only [putAll, Act.put, List.setIfInBounds_toArray, List.set_cons_zero, List.set_cons_succ]) (hCont (v222, v225) _ ⟨hHeld, (by (with_reducible repeat (first | apply Kd.R_alloc | apply Kd.R_drewN | apply Kd.R_drew)); exact HO217.out), (by (with_reducible repeat (first | apply Kd.R_alloc | apply Kd.R_drewN | apply Kd.R_drew)); exact Kd.R_mono HO220.out (fun _ hk => ⟨hk.2, hk.1.2⟩)), (by (with_reducible repeat (first | apply Kd.R_alloc | apply Kd.R_drewN | apply Kd.R_drew)); exact Kd.R_mono HO223.out (fun _ hk => ⟨hk.1.2, hk.2⟩)), (by (with_reducible repeat (first | apply Kd.R_alloc | apply Kd.R_drewN | apply Kd.R_drew)); exact Kd.R_mono HO226.out (fun _ hk => ⟨hk.1.2, hk.2⟩)), (by (with_reducible repeat (first | refine blk_drewN ?_ _ | refine blk_drew ?_ | refine blk_alloc ?_ _)); exact BK178.out), (by repeat (first | (with_reducible first | exact HB.out | apply below_alloc | apply pw_below_drewN | apply below_drew1 | refine below_set ?_ GE178.out) | exact HB.out))⟩)
            rintro ⟨v222, v225⟩ w58 ⟨hS_, h0_, h1_, h2_, h3_, h4_, h5_⟩
            have n0_ : Aside0 (Kd.R (Kd.int .u64) 22 w58 w.heap.size (fun _ => True) (.slice Ao51 y215.length co51) y215) := ⟨h0_⟩
            have n1_ : Aside0 (Kd.R (Kd.int .u8) 5 w58 w.heap.size (fun k_ => some k_ ≠ (v222 : Value).ownBlock ∧ some k_ ≠ (v225 : Value).ownBlock) (.slice Ao53 t218.length co53) t218) := ⟨h1_⟩
            have n2_ : Aside0 (Kd.R (Kd.int .u8) 5 w58 w.heap.size (fun k_ => some k_ ≠ (.slice Ao53 t218.length co53 : Value).ownBlock ∧ some k_ ≠ (v225 : Value).ownBlock) v222 y221) := ⟨h2_⟩
            have n3_ : Aside0 (Kd.R (Kd.int .u8) 5 w58 w.heap.size (fun k_ => some k_ ≠ (.slice Ao53 t218.length co53 : Value).ownBlock ∧ some k_ ≠ (v222 : Value).ownBlock) v225 t224) := ⟨h3_⟩
            have n4_ : Aside0 (w58.heap[gb178]? = some (.cells #[.int .u8 a0_0, .int .u64 a0_1, .int .i64 a0_2, .int .u32 a0_3, .int .u8 a0_4, .int .u16 a0_5, .int .u16 a0_6] 28 (0, 0))) := ⟨h4_⟩
            have n5_ : Aside0 (Below w.heap.size w w58) := ⟨h5_⟩
            clear HO217
            clear HO220
            clear BK178
            clear HB
            clear h0_ h1_ h2_ h3_ h4_ h5_
            have HO217 := n0_
            have HO220 := n1_
            have HO223 := n2_
            have HO226 := n3_
            have BK178 := n4_
            have HB := n5_
            clear n0_ n1_ n2_ n3_ n4_ n5_
            have hHeld : w58.cell? ⟨gb178, 0, none⟩ = some (.int .u8 a0_0) ∧ w58.cell? ⟨gb178, 1, none⟩ = some (.int .u64 a0_1) ∧ w58.cell? ⟨gb178, 2, none⟩ = some (.int .i64 a0_2) ∧ w58.cell? ⟨gb178, 3, none⟩ = some (.int .u32 a0_3) ∧ w58.cell? ⟨gb178, 4, none⟩ = some (.int .u8 a0_4) ∧ w58.cell? ⟨gb178, 5, none⟩ = some (.int .u16 a0_5) ∧ w58.cell? ⟨gb178, 6, none⟩ = some (.int .u16 a0_6) := hS_
            obtain ⟨Ao60, co60, eo60⟩ := Kd.R_slice HO226.out
            (first | subst eo60 | (injection eo60 with f1_ f2_ f3_; have f4_ := f1_.symm; have f5_ := f3_.symm; clear f1_ f2_ f3_; subst f4_; subst f5_))
            refine norm_ (a' := ?_) ?_ ?_
            rotate_left
            · simp only [putAll, Act.put, List.setIfInBounds_toArray, List.set_cons_zero, List.set_cons_succ]
              rfl
            refine one_ (i := 7) (N := some 65) #[true, true, true, true, true, true, true, true, true, false, false] rfl rfl (one_of HT_.out (by kernel_rfl)) (by decide) (fun K hK => ?_)
            refine Kd.R_append_rows_step (Kd.int .u8) (w0 := w) w.heap.size (by rfl) (.tmp 60) (.tmp 64) 30 5 (.int .u8 0) 1 rfl Try.underlying30 info5 rfl (by decide) (by omega) v222 y221 t224 _ _ _ (fun k_ => some k_ ≠ (.slice Ao53 t218.length co53 : Value).ownBlock ∧ some k_ ≠ (.slice Ao60 t224.length co60 : Value).ownBlock) (fun _ => False) rfl rfl ?aO ?aR (fun _ _ h => h) (fun _ h => h.elim) ?aF ?aB ?aS ?aL ?_
            (case aR => repeat (first | exact (Kd.R_reads' HO226.out).2.2 | (with_reducible refine Kd.C_alloc ?_ _) | (with_reducible refine Kd.C_drewN ?_ _) | (with_reducible refine Kd.C_drew ?_)))
            (case aB => exact (by repeat (first | (with_reducible first | exact HB.out | apply below_alloc | apply pw_below_drewN | apply below_drew1 | refine below_set ?_ GE178.out) | exact HB.out)))
            (case aF => exact (fun k_ hk => ⟨Kd.fresh' (Kd.R_lt (by (with_reducible repeat (first | apply Kd.R_alloc | apply Kd.R_drewN | apply Kd.R_drew)); exact HO220.out)) k_ hk, Kd.fresh' (Kd.R_lt (by (with_reducible repeat (first | apply Kd.R_alloc | apply Kd.R_drewN | apply Kd.R_drew)); exact HO226.out)) k_ hk⟩))
            (case aO => exact (by (with_reducible repeat (first | apply Kd.R_alloc | apply Kd.R_drewN | apply Kd.R_drew)); exact HO223.out))
            (case aS => exact (below_size (by repeat (first | (with_reducible first | exact HB.out | apply below_alloc | apply pw_below_drewN | apply below_drew1 | refine below_set ?_ GE178.out) | exact HB.out))))
            (case aL => have := LMc45.out; omega)
            intro v228 w59 ho hb hg hat
            rw [← Ny227.out] at ho
            have n0_ := Aside0.mk (blk_grown (g := gb178) (o := .cells #[.int .u8 a0_0, .int .u64 a0_1, .int .i64 a0_2, .int .u32 a0_3, .int .u8 a0_4, .int .u16 a0_5, .int .u16 a0_6] 28 (0, 0)) (by (with_reducible repeat (first | refine blk_drewN ?_ _ | refine blk_drew ?_ | refine blk_alloc ?_ _)); exact BK178.out) hg (Kd.R_ne HO223.out BK178.out (by decide)))
            have n1_ := Aside0.mk (Kd.R_over' (by (with_reducible repeat (first | apply Kd.R_alloc | apply Kd.R_drewN | apply Kd.R_drew)); exact HO217.out) (Kd.R_typed (by (with_reducible repeat (first | apply Kd.R_alloc | apply Kd.R_drewN | apply Kd.R_drew)); exact HO223.out)) (by decide) hg)
            have n2_ := Aside0.mk (Kd.R_after (ok := (fun k_ => some k_ ≠ (.slice Ao60 t224.length co60 : Value).ownBlock)) (by (with_reducible repeat (first | apply Kd.R_alloc | apply Kd.R_drewN | apply Kd.R_drew)); exact Kd.R_mono HO220.out (fun _ hk => ⟨hk.2, hk.1⟩)) hg hat)
            have n3_ := Aside0.mk (Kd.R_after (ok := (fun k_ => some k_ ≠ (.slice Ao53 t218.length co53 : Value).ownBlock)) (by (with_reducible repeat (first | apply Kd.R_alloc | apply Kd.R_drewN | apply Kd.R_drew)); exact HO226.out) hg hat)
            have n4_ := Aside0.mk (hb)
            have n5_ := Aside0.mk (ho)
            clear BK178
            clear HO217
            clear HO220
            clear HO226
            clear HB
            clear HO223
            have BK178 := n0_
            have HO217 := n1_
            have HO220 := n2_
            have HO226 := n3_
            have HB := n4_
            have HO229 := n5_
            clear n0_ n1_ n2_ n3_ n4_ n5_
            clear ho hb hg hat
            refine hK.out _ _ ⟨(blk_cell BK178.out 0).trans rfl, (blk_cell BK178.out 1).trans rfl, (blk_cell BK178.out 2).trans rfl, (blk_cell BK178.out 3).trans rfl, (blk_cell BK178.out 4).trans rfl, (blk_cell BK178.out 5).trans rfl, (blk_cell BK178.out 6).trans rfl⟩ (fun hHeld => ?_)
            clear hK K
            refine norm_ (a' := ?_) ?_ ?_
            rotate_left
            · show Act.put _ (some 65) _ = _
              simp only [Act.put, List.setIfInBounds_toArray, List.set_cons_zero, List.set_cons_succ, i64_w, i32_w]
              rfl
            refine one_ (i := 9) (N := some 67) #[true, true, true, true, true, true, true, true, true, true, false] rfl rfl (one_of HT_.out (by kernel_rfl)) (by decide) (fun K hK => ?_)
            refine Kd.R_append_rows_step (Kd.int .u8) (w0 := w) w.heap.size (by rfl) (.tmp 65) (.tmp 66) 30 5 (.int .u8 0) 1 rfl Try.underlying30 info5 rfl (by decide) (by omega) v228 y227 t218 _ _ _ (fun k_ => some k_ ≠ (.slice Ao53 t218.length co53 : Value).ownBlock ∧ some k_ ≠ (.slice Ao60 t224.length co60 : Value).ownBlock) (fun _ => False) rfl rfl ?aO ?aR (fun _ _ h => h) (fun _ h => h.elim) ?aF ?aB ?aS ?aL ?_
            (case aR => repeat (first | exact (Kd.R_reads' HO220.out).2.2 | (with_reducible refine Kd.C_alloc ?_ _) | (with_reducible refine Kd.C_drewN ?_ _) | (with_reducible refine Kd.C_drew ?_)))
            (case aB => exact (by repeat (first | (with_reducible first | exact HB.out | apply below_alloc | apply pw_below_drewN | apply below_drew1 | refine below_set ?_ GE178.out) | exact HB.out)))
            (case aF => exact (fun k_ hk => ⟨Kd.fresh' (Kd.R_lt (by (with_reducible repeat (first | apply Kd.R_alloc | apply Kd.R_drewN | apply Kd.R_drew)); exact HO220.out)) k_ hk, Kd.fresh' (Kd.R_lt (by (with_reducible repeat (first | apply Kd.R_alloc | apply Kd.R_drewN | apply Kd.R_drew)); exact HO226.out)) k_ hk⟩))
            (case aO => exact (by (with_reducible repeat (first | apply Kd.R_alloc | apply Kd.R_drewN | apply Kd.R_drew)); exact HO229.out))
            (case aS => exact (below_size (by repeat (first | (with_reducible first | exact HB.out | apply below_alloc | apply pw_below_drewN | apply below_drew1 | refine below_set ?_ GE178.out) | exact HB.out))))
            (case aL => have := LMc46.out; omega)
            intro v231 w61 ho hb hg hat
            rw [← Ny230.out] at ho
            have n0_ := Aside0.mk (blk_grown (g := gb178) (o := .cells #[.int .u8 a0_0, .int .u64 a0_1, .int .i64 a0_2, .int .u32 a0_3, .int .u8 a0_4, .int .u16 a0_5, .int .u16 a0_6] 28 (0, 0)) (by (with_reducible repeat (first | refine blk_drewN ?_ _ | refine blk_drew ?_ | refine blk_alloc ?_ _)); exact BK178.out) hg (Kd.R_ne HO229.out BK178.out (by decide)))
            have n1_ := Aside0.mk (Kd.R_over' (by (with_reducible repeat (first | apply Kd.R_alloc | apply Kd.R_drewN | apply Kd.R_drew)); exact HO217.out) (Kd.R_typed (by (with_reducible repeat (first | apply Kd.R_alloc | apply Kd.R_drewN | apply Kd.R_drew)); exact HO229.out)) (by decide) hg)
            have n2_ := Aside0.mk (Kd.R_after (ok := (fun k_ => some k_ ≠ (.slice Ao60 t224.length co60 : Value).ownBlock)) (by (with_reducible repeat (first | apply Kd.R_alloc | apply Kd.R_drewN | apply Kd.R_drew)); exact HO220.out) hg hat)
            have n3_ := Aside0.mk (Kd.R_after (ok := (fun k_ => some k_ ≠ (.slice Ao53 t218.length co53 : Value).ownBlock)) (by (with_reducible repeat (first | apply Kd.R_alloc | apply Kd.R_drewN | apply Kd.R_drew)); exact HO226.out) hg hat)
            have n4_ := Aside0.mk (hb)
            have n5_ := Aside0.mk (ho)
            clear BK178
            clear HO217
            clear HO220
            clear HO226
            clear HB
            clear HO229
            have BK178 := n0_
            have HO217 := n1_
            have HO220 := n2_
            have HO226 := n3_
            have HB := n4_
            have HO232 := n5_
            clear n0_ n1_ n2_ n3_ n4_ n5_
            clear ho hb hg hat
            refine hK.out _ _ ⟨(blk_cell BK178.out 0).trans rfl, (blk_cell BK178.out 1).trans rfl, (blk_cell BK178.out 2).trans rfl, (blk_cell BK178.out 3).trans rfl, (blk_cell BK178.out 4).trans rfl, (blk_cell BK178.out 5).trans rfl, (blk_cell BK178.out 6).trans rfl⟩ (fun hHeld => ?_)
            clear hK K
            refine norm_ (a' := ?_) ?_ ?_
            rotate_left
            · show Act.put _ (some 67) _ = _
              simp only [Act.put, List.setIfInBounds_toArray, List.set_cons_zero, List.set_cons_succ, i64_w, i32_w]
              rfl
            refine pure_ (i := 10) (N := some 2) (v := ?_) (a' := ?_) #[true, true, true, true, true, true, true, true, true, true, true] rfl rfl (any_of HT_.out (by kernel_rfl)) (fun _ _ _ h => h) (Or.inl ⟨by rfl, ?_⟩) ?_ ?_
            rotate_left
            · intro w'
              go_simp
              with_reducible rfl
            rotate_left
            · simp only [Act.put, List.setIfInBounds_toArray, List.set_cons_zero, List.set_cons_succ, i64_w, i32_w]
              rfl
            refine done_ (done_of HT_.out (by kernel_rfl)) ?_
            try go_wp2
            go_ret
            exact ⟨_, by first | rfl | (simp [errW_none, errW_some] <;> rfl) | (simp [*, errW_none, errW_some] <;> rfl), by (with_reducible repeat (first | apply Kd.R_alloc | apply Kd.R_drewN | apply Kd.R_drew)); exact Kd.R_mono HO232.out (fun _ hk => trivial), by repeat (first | (with_reducible first | exact HB.out | apply below_alloc | apply pw_below_drewN | apply below_drew1 | refine below_set ?_ GE178.out) | exact HB.out)⟩
          · rw [if_neg c46] at H
            exact absurd H (by simp)
        · rw [if_neg c45] at H
          exact absurd H (by simp)
      · rw [if_neg c42] at H
        have c42b0 : (a0_0 == 3) = false := beq_eq_false_iff_ne.mpr c42
        have c42b1 : (a0_0 != 3) = true := bne_iff_ne.mpr c42
        obtain ⟨y233, hy233⟩ : ∃ y_ : List Int, y_ = (([IntKind.u64.wrap (a0_3), IntKind.u64.wrap (a0_4), IntKind.u64.wrap (a0_5), a0_1] : List Int)) := ⟨_, rfl⟩
        replace H : ((milestoneref01_Coins.f k y233).bind fun t236 => ((some (([a0_0] : List Int) : List Int)).bind fun y239 => ((milestoneref01_Coin.f k (IntKind.u64.wrap ((t236.length : Int)))).bind fun t242 => (if y239.length + t242.length < 140737488355328 then ((some (y239 ++ t242 : List Int)).bind fun y245 => (if y245.length + t236.length < 140737488355328 then (some (y245 ++ t236)) else (none))) else (none))))) = some r := by first | (rw [hy233]; with_reducible exact H) | (have H2_ := (Option.bind_some _ _).symm.trans H; rw [hy233]; with_reducible exact H2_) | (have H2_ := (Option.bind_some _ _).symm.trans H; with_reducible exact H2_) | with_reducible exact H | (rw [hy233]; exact H) | exact H
        have Ny233 := Aside0.mk hy233
        clear hy233
        replace H := Option.bind_eq_some_iff.mp H
        obtain ⟨t236, A620, H⟩ := H
        replace H : ((some (([a0_0] : List Int) : List Int)).bind fun y239 => ((milestoneref01_Coin.f k (IntKind.u64.wrap ((t236.length : Int)))).bind fun t242 => (if y239.length + t242.length < 140737488355328 then ((some (y239 ++ t242 : List Int)).bind fun y245 => (if y245.length + t236.length < 140737488355328 then (some (y245 ++ t236)) else (none))) else (none)))) = some r := H
        have A62 := Aside0.mk A620
        clear A620
        obtain ⟨y239, hy239⟩ : ∃ y_ : List Int, y_ = (([a0_0] : List Int)) := ⟨_, rfl⟩
        replace H : ((milestoneref01_Coin.f k (IntKind.u64.wrap ((t236.length : Int)))).bind fun t242 => (if y239.length + t242.length < 140737488355328 then ((some (y239 ++ t242 : List Int)).bind fun y245 => (if y245.length + t236.length < 140737488355328 then (some (y245 ++ t236)) else (none))) else (none))) = some r := by first | (rw [hy239]; with_reducible exact H) | (have H2_ := (Option.bind_some _ _).symm.trans H; rw [hy239]; with_reducible exact H2_) | (have H2_ := (Option.bind_some _ _).symm.trans H; with_reducible exact H2_) | with_reducible exact H | (rw [hy239]; exact H) | exact H
        have Ny239 := Aside0.mk hy239
        clear hy239
        replace H := Option.bind_eq_some_iff.mp H
        obtain ⟨t242, A630, H⟩ := H
        replace H : (if y239.length + t242.length < 140737488355328 then ((some (y239 ++ t242 : List Int)).bind fun y245 => (if y245.length + t236.length < 140737488355328 then (some (y245 ++ t236)) else (none))) else (none)) = some r := H
        have A63 := Aside0.mk A630
        clear A630
        by_cases c64 : y239.length + t242.length < 140737488355328
        · rw [if_pos c64] at H
          have LMc64 := Aside0.mk c64
          clear c64
          obtain ⟨y245, hy245⟩ : ∃ y_ : List Int, y_ = (y239 ++ t242) := ⟨_, rfl⟩
          replace H : (if y245.length + t236.length < 140737488355328 then (some (y245 ++ t236)) else (none)) = some r := by first | (rw [hy245]; with_reducible exact H) | (have H2_ := (Option.bind_some _ _).symm.trans H; rw [hy245]; with_reducible exact H2_) | (have H2_ := (Option.bind_some _ _).symm.trans H; with_reducible exact H2_) | with_reducible exact H | (rw [hy245]; exact H) | exact H
          have Ny245 := Aside0.mk hy245
          clear hy245
          by_cases c65 : y245.length + t236.length < 140737488355328
          · rw [if_pos c65] at H
            have LMc65 := Aside0.mk c65
            clear c65
            obtain ⟨y248, hy248⟩ : ∃ y_ : List Int, y_ = (y245 ++ t236) := ⟨_, rfl⟩
            replace H : (some y248) = some r := by first | (rw [hy248]; with_reducible exact H) | (have H2_ := (Option.bind_some _ _).symm.trans H; rw [hy248]; with_reducible exact H2_) | (have H2_ := (Option.bind_some _ _).symm.trans H; with_reducible exact H2_) | with_reducible exact H | (rw [hy248]; exact H) | exact H
            have Ny248 := Aside0.mk hy248
            clear hy248
            obtain rfl := Option.some.inj H
            simp only [Option.some.injEq, Prod.mk.injEq] at H
            obtain ⟨rfl⟩ := H
            go_enter Try.func11, Try.ntmps11
            try go_wp2_with (first | ((with_reducible refine gate_dst (N := 1) rfl ?_); refine box_event ?hg (N := 1) ?hd (cs := #[.int .u8 a0_0, .int .u64 a0_1, .int .i64 a0_2, .int .u32 a0_3, .int .u8 a0_4, .int .u16 a0_5, .int .u16 a0_6]) (t := 28) ?hr ?_; (case hd => rfl); (case hg => rfl); (case hr => first | (go_simp; done) | (go_simp; rfl)); intro gb178 hg w66 hbox hb; have n0_ := Aside0.mk (below_step (by repeat (first | (with_reducible first | exact HB.out | apply below_alloc | apply pw_below_drewN | apply below_drew1) | exact HB.out)) hb); have n1_ := Aside0.mk (hbox); have n2_ := Aside0.mk ((by rw [hg]; exact (below_size (by repeat (first | (with_reducible first | exact HB.out | apply below_alloc | apply pw_below_drewN | apply below_drew1) | exact HB.out))) : w.heap.size ≤ gb178)); have n3_ := Aside0.mk ((by rw [hg]; exact (below_size (by repeat (first | (with_reducible first | exact HB.out | apply below_alloc | apply pw_below_drewN | apply below_drew1) | exact HB.out))) : w.heap.size ≤ gb178)); clear HB; have HB := n0_; have BK178 := n1_; have GW178 := n2_; have GE178 := n3_; clear n0_ n1_ n2_ n3_; clear hb hbox hg; have hcz67_0 : w66.cell? ⟨gb178, 0, none⟩ = some (.int .u8 a0_0) := (blk_cell BK178.out 0).trans rfl; have hcz67_1 : w66.cell? ⟨gb178, 1, none⟩ = some (.int .u64 a0_1) := (blk_cell BK178.out 1).trans rfl; have hcz67_2 : w66.cell? ⟨gb178, 2, none⟩ = some (.int .i64 a0_2) := (blk_cell BK178.out 2).trans rfl; have hcz67_3 : w66.cell? ⟨gb178, 3, none⟩ = some (.int .u32 a0_3) := (blk_cell BK178.out 3).trans rfl; have hcz67_4 : w66.cell? ⟨gb178, 4, none⟩ = some (.int .u8 a0_4) := (blk_cell BK178.out 4).trans rfl; have hcz67_5 : w66.cell? ⟨gb178, 5, none⟩ = some (.int .u16 a0_5) := (blk_cell BK178.out 5).trans rfl; have hcz67_6 : w66.cell? ⟨gb178, 6, none⟩ = some (.int .u16 a0_6) := (blk_cell BK178.out 6).trans rfl; have hfz67_0 := blk_frozen BK178.out 0; have hfz67_1 := blk_frozen BK178.out 1; have hfz67_2 := blk_frozen BK178.out 2; have hfz67_3 := blk_frozen BK178.out 3; have hfz67_4 := blk_frozen BK178.out 4; have hfz67_5 := blk_frozen BK178.out 5; have hfz67_6 := blk_frozen BK178.out 6) | ((with_reducible refine gate_dst (N := 19) rfl ?_); refine Kd.R_lit (Kd.int .u64) _ 22 ?hg (N := 19) ?hd (xs := ([IntKind.u64.wrap (a0_3), IntKind.u64.wrap (a0_4), IntKind.u64.wrap (a0_5), a0_1] : List Int)) (inner := [.int .u64 (IntKind.u64.wrap (a0_3)), .int .u64 (IntKind.u64.wrap (a0_4)), .int .u64 (IntKind.u64.wrap (a0_5)), .int .u64 a0_1]) (ok := fun _ => True) (okp := fun _ => True) ?hr ?hp (fun _ hk => hk) trivial (Below.refl _ _) (Nat.le_refl _) (by simp) ?_; (case hd => rfl); (case hg => rfl); (case hr => first | (go_simp; done) | (go_simp; rfl)); (case hp => exact (Reps.one (show Kd.M (Kd.int .u64) _ _ _ (IntKind.u64.wrap (a0_3)) [.int .u64 (IntKind.u64.wrap (a0_3))] from rfl) (Reps.one (show Kd.M (Kd.int .u64) _ _ _ (IntKind.u64.wrap (a0_4)) [.int .u64 (IntKind.u64.wrap (a0_4))] from rfl) (Reps.one (show Kd.M (Kd.int .u64) _ _ _ (IntKind.u64.wrap (a0_5)) [.int .u64 (IntKind.u64.wrap (a0_5))] from rfl) (Reps.one (show Kd.M (Kd.int .u64) _ _ _ a0_1 [.int .u64 a0_1] from rfl) (Reps.none _ _)))))); intro v234 w68 ho69 hb hg_ hnew_; clear hg_ hnew_; (first | rw [← Ny233.out] at ho69 | (simp only [Int.reduceToNat] at ho69; rw [← Ny233.out] at ho69)); have n0_ := Aside0.mk (Kd.R_lower ho69 (below_size (by repeat (first | (with_reducible first | exact HB.out | apply below_alloc | apply pw_below_drewN | apply below_drew1 | refine below_set ?_ GE178.out) | exact HB.out)))); have n1_ := Aside0.mk (blk_below (g := gb178) (o := .cells #[.int .u8 a0_0, .int .u64 a0_1, .int .i64 a0_2, .int .u32 a0_3, .int .u8 a0_4, .int .u16 a0_5, .int .u16 a0_6] 28 (0, 0)) (by (with_reducible repeat (first | refine blk_drewN ?_ _ | refine blk_drew ?_ | refine blk_alloc ?_ _)); exact BK178.out) hb); have n2_ := Aside0.mk (below_step (by repeat (first | (with_reducible first | exact HB.out | apply below_alloc | apply pw_below_drewN | apply below_drew1 | refine below_set ?_ GE178.out) | exact HB.out)) hb); clear BK178; clear HB; have HO235 := n0_; have BK178 := n1_; have HB := n2_; clear n0_ n1_ n2_; clear hb ho69; obtain ⟨Ao70, co70, eo70⟩ := Kd.R_slice HO235.out; subst eo70) | ((with_reducible refine gate_callee (f := 24) rfl ?_); refine goesL_ (some 20) rfl rfl Try.func24 (by kernel_rfl) rfl #[.slice Ao70 y233.length co70] rfl (by (try simp only [List.map_toArray, List.map_cons, List.map_nil]); first | done | rfl | (simp only [List.length_drop, List.length_take]; rfl) | (simp; done) | (refine qa_arr ?_; (repeat' (first | rfl | refine qa_cons ?_ ?_ | refine qa_int ?_ | refine qa_agg ?_ | refine qa_arr ?_ | omega)); done)) ?_; (with_reducible refine (milestoneref01_Coins.calls k _ _ y233 t236 _ ?side1 ?side2 A62.out).mono ?_); (case side1 => repeat (first | exact (Kd.R_reads' HO235.out).2.2 | (with_reducible refine Kd.C_alloc ?_ _) | (with_reducible refine Kd.C_drewN ?_ _) | (with_reducible refine Kd.C_drew ?_))); (case side2 => exact (Kd.R_reads' HO235.out).2.1); rintro e w71 ⟨v237, rfl, ho0, hb⟩; refine ⟨_, rfl, ?_⟩; have n0_ := Aside0.mk (Kd.R_below (by (with_reducible repeat (first | apply Kd.R_alloc | apply Kd.R_drewN | apply Kd.R_drew)); exact HO235.out) hb); have n1_ := Aside0.mk (Kd.R_lower ho0 (below_size (by repeat (first | (with_reducible first | exact HB.out | apply below_alloc | apply pw_below_drewN | apply below_drew1 | refine below_set ?_ GE178.out) | exact HB.out)))); have n2_ := Aside0.mk (blk_below (g := gb178) (o := .cells #[.int .u8 a0_0, .int .u64 a0_1, .int .i64 a0_2, .int .u32 a0_3, .int .u8 a0_4, .int .u16 a0_5, .int .u16 a0_6] 28 (0, 0)) (by (with_reducible repeat (first | refine blk_drewN ?_ _ | refine blk_drew ?_ | refine blk_alloc ?_ _)); exact BK178.out) hb); have n3_ := Aside0.mk (below_step (by repeat (first | (with_reducible first | exact HB.out | apply below_alloc | apply pw_below_drewN | apply below_drew1 | refine below_set ?_ GE178.out) | exact HB.out)) hb); clear HO235; clear BK178; clear HB; have HO235 := n0_; have HO238 := n1_; have BK178 := n2_; have HB := n3_; clear n0_ n1_ n2_ n3_; (try clear hb); (try clear hb2); (try clear hk); (try clear hi); (try clear ho0); obtain ⟨Ao72, co72, eo72⟩ := Kd.R_slice HO238.out; subst eo72))
            have n0_ := Aside0.mk (Kd.R_drew HO235.out)
            have n1_ := Aside0.mk (Kd.R_drew HO238.out)
            have n2_ := Aside0.mk (blk_drew BK178.out)
            have n3_ := Aside0.mk (below_drew1 HB.out)
            clear HO235
            clear HO238
            clear BK178
            clear HB
            have HO235 := n0_
            have HO238 := n1_
            have BK178 := n2_
            have HB := n3_
            clear n0_ n1_ n2_ n3_
            refine start_ (n := 11) (S := fun w' => w'.cell? ⟨gb178, 0, none⟩ = some (.int .u8 a0_0) ∧ w'.cell? ⟨gb178, 1, none⟩ = some (.int .u64 a0_1) ∧ w'.cell? ⟨gb178, 2, none⟩ = some (.int .i64 a0_2) ∧ w'.cell? ⟨gb178, 3, none⟩ = some (.int .u32 a0_3) ∧ w'.cell? ⟨gb178, 4, none⟩ = some (.int .u8 a0_4) ∧ w'.cell? ⟨gb178, 5, none⟩ = some (.int .u16 a0_5) ∧ w'.cell? ⟨gb178, 6, none⟩ = some (.int .u16 a0_6)) (ds := []) #[false, false, false, false, false, false, false, false, false, false, false] (by kernel_rfl) rfl rfl ⟨(blk_cell BK178.out 0).trans rfl, (blk_cell BK178.out 1).trans rfl, (blk_cell BK178.out 2).trans rfl, (blk_cell BK178.out 3).trans rfl, (blk_cell BK178.out 4).trans rfl, (blk_cell BK178.out 5).trans rfl, (blk_cell BK178.out 6).trans rfl⟩ (fun hHeld => ?_); refine with_tabW milestonelaw13_bytes.tab10 milestonelaw13_bytes.bits10 (fun HT_ HW_ => ?_)
            generalize w71.drew = w73 at HO235 HO238 BK178 HB hHeld ⊢
            refine pure_ (i := 0) (N := some 58) (v := ?_) (a' := ?_) #[true, false, false, false, false, false, false, false, false, false, false] rfl rfl (any_of HT_.out (by kernel_rfl)) (fun _ _ _ h => h) (Or.inl ⟨by rfl, ?_⟩) ?_ ?_
            rotate_left
            · intro w'
              go_simp
              with_reducible rfl
            rotate_left
            · simp only [Act.put, List.setIfInBounds_toArray, List.set_cons_zero, List.set_cons_succ, i64_w, i32_w]
              rfl
            refine pure_ (i := 3) (N := some 61) (v := ?_) (a' := ?_) #[true, false, false, true, false, false, false, false, false, false, false] rfl rfl (any_of HT_.out (by kernel_rfl)) (fun _ _ _ h => h) (Or.inl ⟨by rfl, ?_⟩) ?_ ?_
            rotate_left
            · intro w'
              go_simp
              with_reducible rfl
            rotate_left
            · simp only [Act.put, List.setIfInBounds_toArray, List.set_cons_zero, List.set_cons_succ, i64_w, i32_w]
              rfl
            refine pure_ (i := 4) (N := some 62) (v := ?_) (a' := ?_) #[true, false, false, true, true, false, false, false, false, false, false] rfl rfl (any_of HT_.out (by kernel_rfl)) (fun _ _ _ h => h) (Or.inl ⟨by rfl, ?_⟩) ?_ ?_
            rotate_left
            · intro w'
              go_simp
              with_reducible rfl
            rotate_left
            · simp only [Act.put, List.setIfInBounds_toArray, List.set_cons_zero, List.set_cons_succ, i64_w, i32_w]
              rfl
            refine pure_ (i := 5) (N := some 63) (v := ?_) (a' := ?_) #[true, false, false, true, true, true, false, false, false, false, false] rfl rfl (any_of HT_.out (by kernel_rfl)) (fun _ _ _ h => h) (Or.inl ⟨by rfl, ?_⟩) ?_ ?_
            rotate_left
            · intro w'
              go_simp
              with_reducible rfl
            rotate_left
            · simp only [Act.put, List.setIfInBounds_toArray, List.set_cons_zero, List.set_cons_succ, i64_w, i32_w]
              rfl
            refine pure_ (i := 8) (N := some 66) (v := ?_) (a' := ?_) #[true, false, false, true, true, true, false, false, true, false, false] rfl rfl (any_of HT_.out (by kernel_rfl)) (fun _ _ _ h => h) (Or.inl ⟨by rfl, ?_⟩) ?_ ?_
            rotate_left
            · intro w'
              go_simp
              with_reducible rfl
            rotate_left
            · simp only [Act.put, List.setIfInBounds_toArray, List.set_cons_zero, List.set_cons_succ, i64_w, i32_w]
              rfl
            refine take_ (i := 1) (N := some 59) (v := ?_) (a' := ?_) #[true, true, false, true, true, true, false, false, true, false, false] rfl rfl (take_ofW HT_.out HW_.out (by kernel_rfl)) (fun _ _ _ h => h) (Or.inl ⟨by rfl, ?_⟩) hHeld ?_ ?_
            rotate_left
            · rintro w' ⟨s0, s1, s2, s3, s4, s5, s6⟩
              go_simp
              with_reducible rfl
            rotate_left
            · simp only [Act.put, List.setIfInBounds_toArray, List.set_cons_zero, List.set_cons_succ, i64_w, i32_w]
              rfl
            refine join_ (σ := Value × Value) 3 #[true, true, true, true, true, true, true, false, true, false, false] (fun s_ => [(60, s_.1), (64, s_.2)]) (fun s_ w' => (w'.cell? ⟨gb178, 0, none⟩ = some (.int .u8 a0_0) ∧ w'.cell? ⟨gb178, 1, none⟩ = some (.int .u64 a0_1) ∧ w'.cell? ⟨gb178, 2, none⟩ = some (.int .i64 a0_2) ∧ w'.cell? ⟨gb178, 3, none⟩ = some (.int .u32 a0_3) ∧ w'.cell? ⟨gb178, 4, none⟩ = some (.int .u8 a0_4) ∧ w'.cell? ⟨gb178, 5, none⟩ = some (.int .u16 a0_5) ∧ w'.cell? ⟨gb178, 6, none⟩ = some (.int .u16 a0_6)) ∧ (Kd.R (Kd.int .u64) 22 w' w.heap.size (fun _ => True) (.slice Ao70 y233.length co70) y233) ∧ (Kd.R (Kd.int .u8) 5 w' w.heap.size (fun k_ => some k_ ≠ (s_.1 : Value).ownBlock ∧ some k_ ≠ (s_.2 : Value).ownBlock) (.slice Ao72 t236.length co72) t236) ∧ (Kd.R (Kd.int .u8) 5 w' w.heap.size (fun k_ => some k_ ≠ (.slice Ao72 t236.length co72 : Value).ownBlock ∧ some k_ ≠ (s_.2 : Value).ownBlock) s_.1 y239) ∧ (Kd.R (Kd.int .u8) 5 w' w.heap.size (fun k_ => some k_ ≠ (.slice Ao72 t236.length co72 : Value).ownBlock ∧ some k_ ≠ (s_.1 : Value).ownBlock) s_.2 t242) ∧ (w'.heap[gb178]? = some (.cells #[.int .u8 a0_0, .int .u64 a0_1, .int .i64 a0_2, .int .u32 a0_3, .int .u8 a0_4, .int .u16 a0_5, .int .u16 a0_6] 28 (0, 0))) ∧ (Below w.heap.size w w')) ?_ ?_
            rotate_left
            · intro hCont
              refine two_ (i := 2) (j := 6) (Ni := some 60) (Nj := some 64) #[true, true, true, true, true, true, false, false, true, false, false] #[true, true, false, true, true, true, true, false, true, false, false] rfl rfl rfl rfl (two_of HT_.out (by kernel_rfl)) (by decide) (by decide) (fun K hK => ?_) (fun K hK => ?_)
              · skip
                refine Kd.R_lit_step (Kd.int .u8) _ 5 ?hg (N := 60) ?hd (xs := ([a0_0] : List Int)) (inner := [.int .u8 a0_0]) (ok := fun _ => True) (okp := fun _ => True) ?hr ?hp (fun _ hk => hk) trivial (Below.refl _ _) (Nat.le_refl _) (by simp) ?_; (case hd => rfl); (case hg => rfl); (case hr => first | (go_simp; done) | (go_simp; rfl)); (case hp => exact (Reps.one (show Kd.M (Kd.int .u8) _ _ _ a0_0 [.int .u8 a0_0] from rfl) (Reps.none _ _)))
                intro v240 w74 ho75 hb hg_ hnew_
                clear hg_ hnew_
                (first | rw [← Ny239.out] at ho75 | (simp only [Int.reduceToNat] at ho75; rw [← Ny239.out] at ho75))
                have n0_ := Aside0.mk (Kd.R_below (by (with_reducible repeat (first | apply Kd.R_alloc | apply Kd.R_drewN | apply Kd.R_drew)); exact HO235.out) hb)
                have n1_ := Aside0.mk (Kd.R_elder' (by (with_reducible repeat (first | apply Kd.R_alloc | apply Kd.R_drewN | apply Kd.R_drew)); exact HO238.out) (Kd.R_base ho75) hb)
                have n2_ := Aside0.mk (Kd.R_lower (Kd.R_new' ho75 (Kd.R_lt (by (with_reducible repeat (first | apply Kd.R_alloc | apply Kd.R_drewN | apply Kd.R_drew)); exact HO238.out))) (below_size (by repeat (first | (with_reducible first | exact HB.out | apply below_alloc | apply pw_below_drewN | apply below_drew1 | refine below_set ?_ GE178.out) | exact HB.out))))
                have n3_ := Aside0.mk (blk_below (g := gb178) (o := .cells #[.int .u8 a0_0, .int .u64 a0_1, .int .i64 a0_2, .int .u32 a0_3, .int .u8 a0_4, .int .u16 a0_5, .int .u16 a0_6] 28 (0, 0)) (by (with_reducible repeat (first | refine blk_drewN ?_ _ | refine blk_drew ?_ | refine blk_alloc ?_ _)); exact BK178.out) hb)
                have n4_ := Aside0.mk (below_step (by repeat (first | (with_reducible first | exact HB.out | apply below_alloc | apply pw_below_drewN | apply below_drew1 | refine below_set ?_ GE178.out) | exact HB.out)) hb)
                clear HO235
                clear HO238
                clear BK178
                clear HB
                have HO235 := n0_
                have HO238 := n1_
                have HO241 := n2_
                have BK178 := n3_
                have HB := n4_
                clear n0_ n1_ n2_ n3_ n4_
                clear hb ho75
                refine hK.out _ _ ⟨(blk_cell BK178.out 0).trans rfl, (blk_cell BK178.out 1).trans rfl, (blk_cell BK178.out 2).trans rfl, (blk_cell BK178.out 3).trans rfl, (blk_cell BK178.out 4).trans rfl, (blk_cell BK178.out 5).trans rfl, (blk_cell BK178.out 6).trans rfl⟩ (fun hHeld => ?_)
                clear hK K
                refine norm_ (a' := ?_) ?_ ?_
                rotate_left
                · show Act.put _ (some 60) _ = _
                  simp only [Act.put, List.setIfInBounds_toArray, List.set_cons_zero, List.set_cons_succ, i64_w, i32_w]
                  rfl
                refine one_ (i := 6) (N := some 64) #[true, true, true, true, true, true, true, false, true, false, false] rfl rfl (one_of HT_.out (by kernel_rfl)) (by decide) (fun K hK => ?_)
                refine goes_ Try.func15 (by kernel_rfl) rfl #[.int .u64 (IntKind.u64.wrap ((t236.length : Int)))] (by rfl) rfl rfl (by (try simp only [List.map_toArray, List.map_cons, List.map_nil]); first | done | rfl | (simp only [List.length_drop, List.length_take]; rfl)) ?_
                with_reducible refine (milestoneref01_Coin.calls k (IntKind.u64.wrap ((t236.length : Int))) t242 _ A63.out).mono ?_
                rintro e w76 ⟨v243, rfl, ho0, hb⟩
                refine ⟨_, rfl, ?_⟩
                have n0_ := Aside0.mk (Kd.R_below (by (with_reducible repeat (first | apply Kd.R_alloc | apply Kd.R_drewN | apply Kd.R_drew)); exact HO235.out) hb)
                have n1_ := Aside0.mk (Kd.R_elder' (by (with_reducible repeat (first | apply Kd.R_alloc | apply Kd.R_drewN | apply Kd.R_drew)); exact HO238.out) (Kd.R_base ho0) hb)
                have n2_ := Aside0.mk (Kd.R_elder' (by (with_reducible repeat (first | apply Kd.R_alloc | apply Kd.R_drewN | apply Kd.R_drew)); exact HO241.out) (Kd.R_base ho0) hb)
                have n3_ := Aside0.mk (Kd.R_lower (Kd.R_new' (Kd.R_new' ho0 (Kd.R_lt (by (with_reducible repeat (first | apply Kd.R_alloc | apply Kd.R_drewN | apply Kd.R_drew)); exact HO238.out))) (Kd.R_lt (by (with_reducible repeat (first | apply Kd.R_alloc | apply Kd.R_drewN | apply Kd.R_drew)); exact HO241.out))) (below_size (by repeat (first | (with_reducible first | exact HB.out | apply below_alloc | apply pw_below_drewN | apply below_drew1 | refine below_set ?_ GE178.out) | exact HB.out))))
                have n4_ := Aside0.mk (blk_below (g := gb178) (o := .cells #[.int .u8 a0_0, .int .u64 a0_1, .int .i64 a0_2, .int .u32 a0_3, .int .u8 a0_4, .int .u16 a0_5, .int .u16 a0_6] 28 (0, 0)) (by (with_reducible repeat (first | refine blk_drewN ?_ _ | refine blk_drew ?_ | refine blk_alloc ?_ _)); exact BK178.out) hb)
                have n5_ := Aside0.mk (below_step (by repeat (first | (with_reducible first | exact HB.out | apply below_alloc | apply pw_below_drewN | apply below_drew1 | refine below_set ?_ GE178.out) | exact HB.out)) hb)
                clear HO235
                clear HO238
                clear HO241
                clear BK178
                clear HB
                have HO235 := n0_
                have HO238 := n1_
                have HO241 := n2_
                have HO244 := n3_
                have BK178 := n4_
                have HB := n5_
                clear n0_ n1_ n2_ n3_ n4_ n5_
                (try clear hb)
                (try clear hb2)
                (try clear hk)
                (try clear hi)
                (try clear ho0)
                refine hK.out _ _ ⟨(blk_cell BK178.out 0).trans rfl, (blk_cell BK178.out 1).trans rfl, (blk_cell BK178.out 2).trans rfl, (blk_cell BK178.out 3).trans rfl, (blk_cell BK178.out 4).trans rfl, (blk_cell BK178.out 5).trans rfl, (blk_cell BK178.out 6).trans rfl⟩ (fun hHeld => ?_)
                clear hK K
                refine norm_ (a' := ?_) ?_ ?_
                rotate_left
                · show Act.put _ (some 64) _ = _
                  simp only [Act.put, List.setIfInBounds_toArray, List.set_cons_zero, List.set_cons_succ, i64_w, i32_w]
                  rfl
                exact norm_ (by simp only [putAll, Act.put, List.setIfInBounds_toArray, List.set_cons_zero, List.set_cons_succ]) (hCont (v240, v243) _ ⟨hHeld, (by (with_reducible repeat (first | apply Kd.R_alloc | apply Kd.R_drewN | apply Kd.R_drew)); exact HO235.out), (by (with_reducible repeat (first | apply Kd.R_alloc | apply Kd.R_drewN | apply Kd.R_drew)); exact Kd.R_mono HO238.out (fun _ hk => ⟨hk.1.2, hk.2⟩)), (by (with_reducible repeat (first | apply Kd.R_alloc | apply Kd.R_drewN | apply Kd.R_drew)); exact Kd.R_mono HO241.out (fun _ hk => ⟨hk.1.2, hk.2⟩)), (by (with_reducible repeat (first | apply Kd.R_alloc | apply Kd.R_drewN | apply Kd.R_drew)); exact Kd.R_mono HO244.out (fun _ hk => ⟨hk.1.2, hk.2⟩)), (by (with_reducible repeat (first | refine blk_drewN ?_ _ | refine blk_drew ?_ | refine blk_alloc ?_ _)); exact BK178.out), (by repeat (first | (with_reducible first | exact HB.out | apply below_alloc | apply pw_below_drewN | apply below_drew1 | refine below_set ?_ GE178.out) | exact HB.out))⟩)
              · skip
                refine goes_ Try.func15 (by kernel_rfl) rfl #[.int .u64 (IntKind.u64.wrap ((t236.length : Int)))] (by rfl) rfl rfl (by (try simp only [List.map_toArray, List.map_cons, List.map_nil]); first | done | rfl | (simp only [List.length_drop, List.length_take]; rfl)) ?_
                with_reducible refine (milestoneref01_Coin.calls k (IntKind.u64.wrap ((t236.length : Int))) t242 _ A63.out).mono ?_
                rintro e w74 ⟨v243, rfl, ho0, hb⟩
                refine ⟨_, rfl, ?_⟩
                have n0_ := Aside0.mk (Kd.R_below (by (with_reducible repeat (first | apply Kd.R_alloc | apply Kd.R_drewN | apply Kd.R_drew)); exact HO235.out) hb)
                have n1_ := Aside0.mk (Kd.R_elder' (by (with_reducible repeat (first | apply Kd.R_alloc | apply Kd.R_drewN | apply Kd.R_drew)); exact HO238.out) (Kd.R_base ho0) hb)
                have n2_ := Aside0.mk (Kd.R_lower (Kd.R_new' ho0 (Kd.R_lt (by (with_reducible repeat (first | apply Kd.R_alloc | apply Kd.R_drewN | apply Kd.R_drew)); exact HO238.out))) (below_size (by repeat (first | (with_reducible first | exact HB.out | apply below_alloc | apply pw_below_drewN | apply below_drew1 | refine below_set ?_ GE178.out) | exact HB.out))))
                have n3_ := Aside0.mk (blk_below (g := gb178) (o := .cells #[.int .u8 a0_0, .int .u64 a0_1, .int .i64 a0_2, .int .u32 a0_3, .int .u8 a0_4, .int .u16 a0_5, .int .u16 a0_6] 28 (0, 0)) (by (with_reducible repeat (first | refine blk_drewN ?_ _ | refine blk_drew ?_ | refine blk_alloc ?_ _)); exact BK178.out) hb)
                have n4_ := Aside0.mk (below_step (by repeat (first | (with_reducible first | exact HB.out | apply below_alloc | apply pw_below_drewN | apply below_drew1 | refine below_set ?_ GE178.out) | exact HB.out)) hb)
                clear HO235
                clear HO238
                clear BK178
                clear HB
                have HO235 := n0_
                have HO238 := n1_
                have HO244 := n2_
                have BK178 := n3_
                have HB := n4_
                clear n0_ n1_ n2_ n3_ n4_
                (try clear hb)
                (try clear hb2)
                (try clear hk)
                (try clear hi)
                (try clear ho0)
                refine hK.out _ _ ⟨(blk_cell BK178.out 0).trans rfl, (blk_cell BK178.out 1).trans rfl, (blk_cell BK178.out 2).trans rfl, (blk_cell BK178.out 3).trans rfl, (blk_cell BK178.out 4).trans rfl, (blk_cell BK178.out 5).trans rfl, (blk_cell BK178.out 6).trans rfl⟩ (fun hHeld => ?_)
                clear hK K
                refine norm_ (a' := ?_) ?_ ?_
                rotate_left
                · show Act.put _ (some 64) _ = _
                  simp only [Act.put, List.setIfInBounds_toArray, List.set_cons_zero, List.set_cons_succ, i64_w, i32_w]
                  rfl
                refine one_ (i := 2) (N := some 60) #[true, true, true, true, true, true, true, false, true, false, false] rfl rfl (one_of HT_.out (by kernel_rfl)) (by decide) (fun K hK => ?_)
                refine Kd.R_lit_step (Kd.int .u8) _ 5 ?hg (N := 60) ?hd (xs := ([a0_0] : List Int)) (inner := [.int .u8 a0_0]) (ok := fun _ => True) (okp := fun _ => True) ?hr ?hp (fun _ hk => hk) trivial (Below.refl _ _) (Nat.le_refl _) (by simp) ?_; (case hd => rfl); (case hg => rfl); (case hr => first | (go_simp; done) | (go_simp; rfl)); (case hp => exact (Reps.one (show Kd.M (Kd.int .u8) _ _ _ a0_0 [.int .u8 a0_0] from rfl) (Reps.none _ _)))
                intro v240 w75 ho76 hb hg_ hnew_
                clear hg_ hnew_
                (first | rw [← Ny239.out] at ho76 | (simp only [Int.reduceToNat] at ho76; rw [← Ny239.out] at ho76))
                have n0_ := Aside0.mk (Kd.R_below (by (with_reducible repeat (first | apply Kd.R_alloc | apply Kd.R_drewN | apply Kd.R_drew)); exact HO235.out) hb)
                have n1_ := Aside0.mk (Kd.R_elder' (by (with_reducible repeat (first | apply Kd.R_alloc | apply Kd.R_drewN | apply Kd.R_drew)); exact HO238.out) (Kd.R_base ho76) hb)
                have n2_ := Aside0.mk (Kd.R_elder' (by (with_reducible repeat (first | apply Kd.R_alloc | apply Kd.R_drewN | apply Kd.R_drew)); exact HO244.out) (Kd.R_base ho76) hb)
                have n3_ := Aside0.mk (Kd.R_lower (Kd.R_new' (Kd.R_new' ho76 (Kd.R_lt (by (with_reducible repeat (first | apply Kd.R_alloc | apply Kd.R_drewN | apply Kd.R_drew)); exact HO238.out))) (Kd.R_lt (by (with_reducible repeat (first | apply Kd.R_alloc | apply Kd.R_drewN | apply Kd.R_drew)); exact HO244.out))) (below_size (by repeat (first | (with_reducible first | exact HB.out | apply below_alloc | apply pw_below_drewN | apply below_drew1 | refine below_set ?_ GE178.out) | exact HB.out))))
                have n4_ := Aside0.mk (blk_below (g := gb178) (o := .cells #[.int .u8 a0_0, .int .u64 a0_1, .int .i64 a0_2, .int .u32 a0_3, .int .u8 a0_4, .int .u16 a0_5, .int .u16 a0_6] 28 (0, 0)) (by (with_reducible repeat (first | refine blk_drewN ?_ _ | refine blk_drew ?_ | refine blk_alloc ?_ _)); exact BK178.out) hb)
                have n5_ := Aside0.mk (below_step (by repeat (first | (with_reducible first | exact HB.out | apply below_alloc | apply pw_below_drewN | apply below_drew1 | refine below_set ?_ GE178.out) | exact HB.out)) hb)
                clear HO235
                clear HO238
                clear HO244
                clear BK178
                clear HB
                have HO235 := n0_
                have HO238 := n1_
                have HO244 := n2_
                have HO241 := n3_
                have BK178 := n4_
                have HB := n5_
                clear n0_ n1_ n2_ n3_ n4_ n5_
                clear hb ho76
                refine hK.out _ _ ⟨(blk_cell BK178.out 0).trans rfl, (blk_cell BK178.out 1).trans rfl, (blk_cell BK178.out 2).trans rfl, (blk_cell BK178.out 3).trans rfl, (blk_cell BK178.out 4).trans rfl, (blk_cell BK178.out 5).trans rfl, (blk_cell BK178.out 6).trans rfl⟩ (fun hHeld => ?_)
                clear hK K
                refine norm_ (a' := ?_) ?_ ?_
                rotate_left
                · show Act.put _ (some 60) _ = _
                  simp only [Act.put, List.setIfInBounds_toArray, List.set_cons_zero, List.set_cons_succ, i64_w, i32_w]
                  rfl
                exact norm_ (by simp only [putAll, Act.put, List.setIfInBounds_toArray, List.set_cons_zero, List.set_cons_succ]) (hCont (v240, v243) _ ⟨hHeld, (by (with_reducible repeat (first | apply Kd.R_alloc | apply Kd.R_drewN | apply Kd.R_drew)); exact HO235.out), (by (with_reducible repeat (first | apply Kd.R_alloc | apply Kd.R_drewN | apply Kd.R_drew)); exact Kd.R_mono HO238.out (fun _ hk => ⟨hk.2, hk.1.2⟩)), (by (with_reducible repeat (first | apply Kd.R_alloc | apply Kd.R_drewN | apply Kd.R_drew)); exact Kd.R_mono HO241.out (fun _ hk => ⟨hk.1.2, hk.2⟩)), (by (with_reducible repeat (first | apply Kd.R_alloc | apply Kd.R_drewN | apply Kd.R_drew)); exact Kd.R_mono HO244.out (fun _ hk => ⟨hk.1.2, hk.2⟩)), (by (with_reducible repeat (first | refine blk_drewN ?_ _ | refine blk_drew ?_ | refine blk_alloc ?_ _)); exact BK178.out), (by repeat (first | (with_reducible first | exact HB.out | apply below_alloc | apply pw_below_drewN | apply below_drew1 | refine below_set ?_ GE178.out) | exact HB.out))⟩)
            rintro ⟨v240, v243⟩ w77 ⟨hS_, h0_, h1_, h2_, h3_, h4_, h5_⟩
            have n0_ : Aside0 (Kd.R (Kd.int .u64) 22 w77 w.heap.size (fun _ => True) (.slice Ao70 y233.length co70) y233) := ⟨h0_⟩
            have n1_ : Aside0 (Kd.R (Kd.int .u8) 5 w77 w.heap.size (fun k_ => some k_ ≠ (v240 : Value).ownBlock ∧ some k_ ≠ (v243 : Value).ownBlock) (.slice Ao72 t236.length co72) t236) := ⟨h1_⟩
            have n2_ : Aside0 (Kd.R (Kd.int .u8) 5 w77 w.heap.size (fun k_ => some k_ ≠ (.slice Ao72 t236.length co72 : Value).ownBlock ∧ some k_ ≠ (v243 : Value).ownBlock) v240 y239) := ⟨h2_⟩
            have n3_ : Aside0 (Kd.R (Kd.int .u8) 5 w77 w.heap.size (fun k_ => some k_ ≠ (.slice Ao72 t236.length co72 : Value).ownBlock ∧ some k_ ≠ (v240 : Value).ownBlock) v243 t242) := ⟨h3_⟩
            have n4_ : Aside0 (w77.heap[gb178]? = some (.cells #[.int .u8 a0_0, .int .u64 a0_1, .int .i64 a0_2, .int .u32 a0_3, .int .u8 a0_4, .int .u16 a0_5, .int .u16 a0_6] 28 (0, 0))) := ⟨h4_⟩
            have n5_ : Aside0 (Below w.heap.size w w77) := ⟨h5_⟩
            clear HO235
            clear HO238
            clear BK178
            clear HB
            clear h0_ h1_ h2_ h3_ h4_ h5_
            have HO235 := n0_
            have HO238 := n1_
            have HO241 := n2_
            have HO244 := n3_
            have BK178 := n4_
            have HB := n5_
            clear n0_ n1_ n2_ n3_ n4_ n5_
            have hHeld : w77.cell? ⟨gb178, 0, none⟩ = some (.int .u8 a0_0) ∧ w77.cell? ⟨gb178, 1, none⟩ = some (.int .u64 a0_1) ∧ w77.cell? ⟨gb178, 2, none⟩ = some (.int .i64 a0_2) ∧ w77.cell? ⟨gb178, 3, none⟩ = some (.int .u32 a0_3) ∧ w77.cell? ⟨gb178, 4, none⟩ = some (.int .u8 a0_4) ∧ w77.cell? ⟨gb178, 5, none⟩ = some (.int .u16 a0_5) ∧ w77.cell? ⟨gb178, 6, none⟩ = some (.int .u16 a0_6) := hS_
            obtain ⟨Ao79, co79, eo79⟩ := Kd.R_slice HO244.out
            (first | subst eo79 | (injection eo79 with f1_ f2_ f3_; have f4_ := f1_.symm; have f5_ := f3_.symm; clear f1_ f2_ f3_; subst f4_; subst f5_))
            refine norm_ (a' := ?_) ?_ ?_
            rotate_left
            · simp only [putAll, Act.put, List.setIfInBounds_toArray, List.set_cons_zero, List.set_cons_succ]
              rfl
            refine one_ (i := 7) (N := some 65) #[true, true, true, true, true, true, true, true, true, false, false] rfl rfl (one_of HT_.out (by kernel_rfl)) (by decide) (fun K hK => ?_)
            refine Kd.R_append_rows_step (Kd.int .u8) (w0 := w) w.heap.size (by rfl) (.tmp 60) (.tmp 64) 30 5 (.int .u8 0) 1 rfl Try.underlying30 info5 rfl (by decide) (by omega) v240 y239 t242 _ _ _ (fun k_ => some k_ ≠ (.slice Ao72 t236.length co72 : Value).ownBlock ∧ some k_ ≠ (.slice Ao79 t242.length co79 : Value).ownBlock) (fun _ => False) rfl rfl ?aO ?aR (fun _ _ h => h) (fun _ h => h.elim) ?aF ?aB ?aS ?aL ?_
            (case aR => repeat (first | exact (Kd.R_reads' HO244.out).2.2 | (with_reducible refine Kd.C_alloc ?_ _) | (with_reducible refine Kd.C_drewN ?_ _) | (with_reducible refine Kd.C_drew ?_)))
            (case aB => exact (by repeat (first | (with_reducible first | exact HB.out | apply below_alloc | apply pw_below_drewN | apply below_drew1 | refine below_set ?_ GE178.out) | exact HB.out)))
            (case aF => exact (fun k_ hk => ⟨Kd.fresh' (Kd.R_lt (by (with_reducible repeat (first | apply Kd.R_alloc | apply Kd.R_drewN | apply Kd.R_drew)); exact HO238.out)) k_ hk, Kd.fresh' (Kd.R_lt (by (with_reducible repeat (first | apply Kd.R_alloc | apply Kd.R_drewN | apply Kd.R_drew)); exact HO244.out)) k_ hk⟩))
            (case aO => exact (by (with_reducible repeat (first | apply Kd.R_alloc | apply Kd.R_drewN | apply Kd.R_drew)); exact HO241.out))
            (case aS => exact (below_size (by repeat (first | (with_reducible first | exact HB.out | apply below_alloc | apply pw_below_drewN | apply below_drew1 | refine below_set ?_ GE178.out) | exact HB.out))))
            (case aL => have := LMc64.out; omega)
            intro v246 w78 ho hb hg hat
            rw [← Ny245.out] at ho
            have n0_ := Aside0.mk (blk_grown (g := gb178) (o := .cells #[.int .u8 a0_0, .int .u64 a0_1, .int .i64 a0_2, .int .u32 a0_3, .int .u8 a0_4, .int .u16 a0_5, .int .u16 a0_6] 28 (0, 0)) (by (with_reducible repeat (first | refine blk_drewN ?_ _ | refine blk_drew ?_ | refine blk_alloc ?_ _)); exact BK178.out) hg (Kd.R_ne HO241.out BK178.out (by decide)))
            have n1_ := Aside0.mk (Kd.R_over' (by (with_reducible repeat (first | apply Kd.R_alloc | apply Kd.R_drewN | apply Kd.R_drew)); exact HO235.out) (Kd.R_typed (by (with_reducible repeat (first | apply Kd.R_alloc | apply Kd.R_drewN | apply Kd.R_drew)); exact HO241.out)) (by decide) hg)
            have n2_ := Aside0.mk (Kd.R_after (ok := (fun k_ => some k_ ≠ (.slice Ao79 t242.length co79 : Value).ownBlock)) (by (with_reducible repeat (first | apply Kd.R_alloc | apply Kd.R_drewN | apply Kd.R_drew)); exact Kd.R_mono HO238.out (fun _ hk => ⟨hk.2, hk.1⟩)) hg hat)
            have n3_ := Aside0.mk (Kd.R_after (ok := (fun k_ => some k_ ≠ (.slice Ao72 t236.length co72 : Value).ownBlock)) (by (with_reducible repeat (first | apply Kd.R_alloc | apply Kd.R_drewN | apply Kd.R_drew)); exact HO244.out) hg hat)
            have n4_ := Aside0.mk (hb)
            have n5_ := Aside0.mk (ho)
            clear BK178
            clear HO235
            clear HO238
            clear HO244
            clear HB
            clear HO241
            have BK178 := n0_
            have HO235 := n1_
            have HO238 := n2_
            have HO244 := n3_
            have HB := n4_
            have HO247 := n5_
            clear n0_ n1_ n2_ n3_ n4_ n5_
            clear ho hb hg hat
            refine hK.out _ _ ⟨(blk_cell BK178.out 0).trans rfl, (blk_cell BK178.out 1).trans rfl, (blk_cell BK178.out 2).trans rfl, (blk_cell BK178.out 3).trans rfl, (blk_cell BK178.out 4).trans rfl, (blk_cell BK178.out 5).trans rfl, (blk_cell BK178.out 6).trans rfl⟩ (fun hHeld => ?_)
            clear hK K
            refine norm_ (a' := ?_) ?_ ?_
            rotate_left
            · show Act.put _ (some 65) _ = _
              simp only [Act.put, List.setIfInBounds_toArray, List.set_cons_zero, List.set_cons_succ, i64_w, i32_w]
              rfl
            refine one_ (i := 9) (N := some 67) #[true, true, true, true, true, true, true, true, true, true, false] rfl rfl (one_of HT_.out (by kernel_rfl)) (by decide) (fun K hK => ?_)
            refine Kd.R_append_rows_step (Kd.int .u8) (w0 := w) w.heap.size (by rfl) (.tmp 65) (.tmp 66) 30 5 (.int .u8 0) 1 rfl Try.underlying30 info5 rfl (by decide) (by omega) v246 y245 t236 _ _ _ (fun k_ => some k_ ≠ (.slice Ao72 t236.length co72 : Value).ownBlock ∧ some k_ ≠ (.slice Ao79 t242.length co79 : Value).ownBlock) (fun _ => False) rfl rfl ?aO ?aR (fun _ _ h => h) (fun _ h => h.elim) ?aF ?aB ?aS ?aL ?_
            (case aR => repeat (first | exact (Kd.R_reads' HO238.out).2.2 | (with_reducible refine Kd.C_alloc ?_ _) | (with_reducible refine Kd.C_drewN ?_ _) | (with_reducible refine Kd.C_drew ?_)))
            (case aB => exact (by repeat (first | (with_reducible first | exact HB.out | apply below_alloc | apply pw_below_drewN | apply below_drew1 | refine below_set ?_ GE178.out) | exact HB.out)))
            (case aF => exact (fun k_ hk => ⟨Kd.fresh' (Kd.R_lt (by (with_reducible repeat (first | apply Kd.R_alloc | apply Kd.R_drewN | apply Kd.R_drew)); exact HO238.out)) k_ hk, Kd.fresh' (Kd.R_lt (by (with_reducible repeat (first | apply Kd.R_alloc | apply Kd.R_drewN | apply Kd.R_drew)); exact HO244.out)) k_ hk⟩))
            (case aO => exact (by (with_reducible repeat (first | apply Kd.R_alloc | apply Kd.R_drewN | apply Kd.R_drew)); exact HO247.out))
            (case aS => exact (below_size (by repeat (first | (with_reducible first | exact HB.out | apply below_alloc | apply pw_below_drewN | apply below_drew1 | refine below_set ?_ GE178.out) | exact HB.out))))
            (case aL => have := LMc65.out; omega)
            intro v249 w80 ho hb hg hat
            rw [← Ny248.out] at ho
            have n0_ := Aside0.mk (blk_grown (g := gb178) (o := .cells #[.int .u8 a0_0, .int .u64 a0_1, .int .i64 a0_2, .int .u32 a0_3, .int .u8 a0_4, .int .u16 a0_5, .int .u16 a0_6] 28 (0, 0)) (by (with_reducible repeat (first | refine blk_drewN ?_ _ | refine blk_drew ?_ | refine blk_alloc ?_ _)); exact BK178.out) hg (Kd.R_ne HO247.out BK178.out (by decide)))
            have n1_ := Aside0.mk (Kd.R_over' (by (with_reducible repeat (first | apply Kd.R_alloc | apply Kd.R_drewN | apply Kd.R_drew)); exact HO235.out) (Kd.R_typed (by (with_reducible repeat (first | apply Kd.R_alloc | apply Kd.R_drewN | apply Kd.R_drew)); exact HO247.out)) (by decide) hg)
            have n2_ := Aside0.mk (Kd.R_after (ok := (fun k_ => some k_ ≠ (.slice Ao79 t242.length co79 : Value).ownBlock)) (by (with_reducible repeat (first | apply Kd.R_alloc | apply Kd.R_drewN | apply Kd.R_drew)); exact HO238.out) hg hat)
            have n3_ := Aside0.mk (Kd.R_after (ok := (fun k_ => some k_ ≠ (.slice Ao72 t236.length co72 : Value).ownBlock)) (by (with_reducible repeat (first | apply Kd.R_alloc | apply Kd.R_drewN | apply Kd.R_drew)); exact HO244.out) hg hat)
            have n4_ := Aside0.mk (hb)
            have n5_ := Aside0.mk (ho)
            clear BK178
            clear HO235
            clear HO238
            clear HO244
            clear HB
            clear HO247
            have BK178 := n0_
            have HO235 := n1_
            have HO238 := n2_
            have HO244 := n3_
            have HB := n4_
            have HO250 := n5_
            clear n0_ n1_ n2_ n3_ n4_ n5_
            clear ho hb hg hat
            refine hK.out _ _ ⟨(blk_cell BK178.out 0).trans rfl, (blk_cell BK178.out 1).trans rfl, (blk_cell BK178.out 2).trans rfl, (blk_cell BK178.out 3).trans rfl, (blk_cell BK178.out 4).trans rfl, (blk_cell BK178.out 5).trans rfl, (blk_cell BK178.out 6).trans rfl⟩ (fun hHeld => ?_)
            clear hK K
            refine norm_ (a' := ?_) ?_ ?_
            rotate_left
            · show Act.put _ (some 67) _ = _
              simp only [Act.put, List.setIfInBounds_toArray, List.set_cons_zero, List.set_cons_succ, i64_w, i32_w]
              rfl
            refine pure_ (i := 10) (N := some 2) (v := ?_) (a' := ?_) #[true, true, true, true, true, true, true, true, true, true, true] rfl rfl (any_of HT_.out (by kernel_rfl)) (fun _ _ _ h => h) (Or.inl ⟨by rfl, ?_⟩) ?_ ?_
            rotate_left
            · intro w'
              go_simp
              with_reducible rfl
            rotate_left
            · simp only [Act.put, List.setIfInBounds_toArray, List.set_cons_zero, List.set_cons_succ, i64_w, i32_w]
              rfl
            refine done_ (done_of HT_.out (by kernel_rfl)) ?_
            try go_wp2
            go_ret
            exact ⟨_, by first | rfl | (simp [errW_none, errW_some] <;> rfl) | (simp [*, errW_none, errW_some] <;> rfl), by (with_reducible repeat (first | apply Kd.R_alloc | apply Kd.R_drewN | apply Kd.R_drew)); exact Kd.R_mono HO250.out (fun _ hk => trivial), by repeat (first | (with_reducible first | exact HB.out | apply below_alloc | apply pw_below_drewN | apply below_drew1 | refine below_set ?_ GE178.out) | exact HB.out)⟩
          · rw [if_neg c65] at H
            exact absurd H (by simp)
        · rw [if_neg c64] at H
          exact absurd H (by simp)

end Go.Proofs.Ytnfdgpmdakciiaa.QMessageReads
