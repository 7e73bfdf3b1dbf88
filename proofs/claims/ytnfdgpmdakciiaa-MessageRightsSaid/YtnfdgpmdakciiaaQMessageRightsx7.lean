-- Lines by a program of this session, for this claim.
import Derived.Test.YtnfdgpmdakciiaaQMessageRightsx0
import Derived.Test.YtnfdgpmdakciiaaQMessageRightsx6
namespace Go.Proofs.Ytnfdgpmdakciiaa.QMessageRights
open Go.RowKit Go.Proofs.YtnfdgpmdakciiaaW.PrintWords Go.Proofs.YtnfdgpmdakciiaaW.PrintLast Go.Proofs.YtnfdgpmdakciiaaW.PrintMore
attribute [local go_sem] max2_int min2_int max_two min_two max_three min_three max_four min_four   -- for this text's walks alone
set_option linter.unusedVariables false
set_option linter.unusedSimpArgs false

/-! ### milestonelaw13_bytes: function 11 -/
def milestonelaw13_bytes.f (k : Nat) (a0_0 : Int) (a0_1 : Int) (a0_2 : Int) (a0_3 : Int) (a0_4 : Int) (a0_5 : Int) (a0_6 : Int) : Option (List Int) := if a0_0 = 1 then ((milestoneref01_Coins.f k (([a0_1] : List Int))).bind fun t187 => ((some (([a0_0] : List Int) : List Int)).bind fun y190 => ((milestoneref01_Coin.f k (IntKind.u64.wrap ((t187.length : Int)))).bind fun t193 => (if y190.length + t193.length < 140737488355328 then ((some (y190 ++ t193 : List Int)).bind fun y196 => (if y196.length + t187.length < 140737488355328 then (some (y196 ++ t187)) else (none))) else (none))))) else (if a0_0 = 2 then ((milestoneref01_Coins.f k (([IntKind.u64.wrap (a0_2), IntKind.u64.wrap (a0_6)] : List Int))).bind fun t205 => ((some (([a0_0] : List Int) : List Int)).bind fun y208 => ((milestoneref01_Coin.f k (IntKind.u64.wrap ((t205.length : Int)))).bind fun t211 => (if y208.length + t211.length < 140737488355328 then ((some (y208 ++ t211 : List Int)).bind fun y214 => (if y214.length + t205.length < 140737488355328 then (some (y214 ++ t205)) else (none))) else (none))))) else (if a0_0 = 3 then ((milestoneref01_Coins.f k (([IntKind.u64.wrap (a0_2), IntKind.u64.wrap (a0_3), IntKind.u64.wrap (a0_4), IntKind.u64.wrap (a0_5), IntKind.u64.wrap (a0_6)] : List Int))).bind fun t223 => ((some (([a0_0] : List Int) : List Int)).bind fun y226 => ((milestoneref01_Coin.f k (IntKind.u64.wrap ((t223.length : Int)))).bind fun t229 => (if y226.length + t229.length < 140737488355328 then ((some (y226 ++ t229 : List Int)).bind fun y232 => (if y232.length + t223.length < 140737488355328 then (some (y232 ++ t223)) else (none))) else (none))))) else ((milestoneref01_Coins.f k (([IntKind.u64.wrap (a0_3), IntKind.u64.wrap (a0_4), IntKind.u64.wrap (a0_5), a0_1] : List Int))).bind fun t241 => ((some (([a0_0] : List Int) : List Int)).bind fun y244 => ((milestoneref01_Coin.f k (IntKind.u64.wrap ((t241.length : Int)))).bind fun t247 => (if y244.length + t247.length < 140737488355328 then ((some (y244 ++ t247 : List Int)).bind fun y250 => (if y250.length + t241.length < 140737488355328 then (some (y250 ++ t241)) else (none))) else (none)))))))
theorem milestonelaw13_bytes.mono : ∀ a0 a1 a2 a3 a4 a5 a6 k, LeO (milestonelaw13_bytes.f k a0 a1 a2 a3 a4 a5 a6) (milestonelaw13_bytes.f (k + 1) a0 a1 a2 a3 a4 a5 a6) := by
 intro a0 a1 a2 a3 a4 a5 a6 k
 unfold milestonelaw13_bytes.f
 repeat' first
  | (with_reducible exact milestoneref01_Coin.mono _ _)
  | (with_reducible exact milestoneref01_Coins.mono _ _)
  | (with_reducible exact LeO.refl _)
  | (with_reducible exact LeO.none _)
  | (with_reducible refine LeO.ite ?_ ?_)
  | (with_reducible refine LeO.bind ?_ (fun _ => ?_))
  | exact milestoneref01_Coin.mono _ _
  | exact milestoneref01_Coins.mono _ _
  | exact LeO.none _
  | refine LeO.ite ?_ ?_
  | refine LeO.bind ?_ (fun _ => ?_)
def milestonelaw13_bytes.T10 : Bool × List (List Nat × List Nat) := (true, [([], []), ([0], [0]), ([1], [1]), ([], []), ([3], [3]), ([4], [4]), ([5], [5]), ([2, 6, 6], [2, 6]), ([], []), ([7, 8, 7], [7, 8]), ([9, 9, 0, 1, 2, 3, 4, 5, 6, 7, 8, 9], [9])])
def milestonelaw13_bytes.B10 : List Nat := [0, 1, 3, 0, 8, 24, 56, 127, 0, 511, 1023]
theorem milestonelaw13_bytes.tab10 : rtab .any (opsOf Try.f11 10) = milestonelaw13_bytes.T10 := by kernel_rfl
theorem milestonelaw13_bytes.bits10 : waitsOk milestonelaw13_bytes.T10.2 milestonelaw13_bytes.B10 = true := by kernel_rfl
set_option maxHeartbeats 8000000 in
set_option maxRecDepth 100000 in
theorem milestonelaw13_bytes.calls (k : Nat) (a0_0 : Int) (a0_1 : Int) (a0_2 : Int) (a0_3 : Int) (a0_4 : Int) (a0_5 : Int) (a0_6 : Int) (r : List Int) (w : World) (h : milestonelaw13_bytes.f k a0_0 a0_1 a0_2 a0_3 a0_4 a0_5 a0_6 = some r) :
 Calls Try.prog 11 #[.agg #[.int .u8 a0_0, .int .u64 a0_1, .int .i64 a0_2, .int .u32 a0_3, .int .u8 a0_4, .int .u16 a0_5, .int .u16 a0_6]] w fun e w' => ∃ v0_ : Value, e = .returned (v0_) ∧ Kd.R (Kd.int .u8) 5 w' w.heap.size (fun _ => True) v0_ r ∧ Below w.heap.size w w' := by
 have hu28 := Try.underlying28
 have HB := Aside0.mk (Below.refl w.heap.size w)
 have H : (if a0_0 = 1 then ((milestoneref01_Coins.f k (([a0_1] : List Int))).bind fun t187 => ((some (([a0_0] : List Int) : List Int)).bind fun y190 => ((milestoneref01_Coin.f k (IntKind.u64.wrap ((t187.length : Int)))).bind fun t193 => (if y190.length + t193.length < 140737488355328 then ((some (y190 ++ t193 : List Int)).bind fun y196 => (if y196.length + t187.length < 140737488355328 then (some (y196 ++ t187)) else (none))) else (none))))) else (if a0_0 = 2 then ((milestoneref01_Coins.f k (([IntKind.u64.wrap (a0_2), IntKind.u64.wrap (a0_6)] : List Int))).bind fun t205 => ((some (([a0_0] : List Int) : List Int)).bind fun y208 => ((milestoneref01_Coin.f k (IntKind.u64.wrap ((t205.length : Int)))).bind fun t211 => (if y208.length + t211.length < 140737488355328 then ((some (y208 ++ t211 : List Int)).bind fun y214 => (if y214.length + t205.length < 140737488355328 then (some (y214 ++ t205)) else (none))) else (none))))) else (if a0_0 = 3 then ((milestoneref01_Coins.f k (([IntKind.u64.wrap (a0_2), IntKind.u64.wrap (a0_3), IntKind.u64.wrap (a0_4), IntKind.u64.wrap (a0_5), IntKind.u64.wrap (a0_6)] : List Int))).bind fun t223 => ((some (([a0_0] : List Int) : List Int)).bind fun y226 => ((milestoneref01_Coin.f k (IntKind.u64.wrap ((t223.length : Int)))).bind fun t229 => (if y226.length + t229.length < 140737488355328 then ((some (y226 ++ t229 : List Int)).bind fun y232 => (if y232.length + t223.length < 140737488355328 then (some (y232 ++ t223)) else (none))) else (none))))) else ((milestoneref01_Coins.f k (([IntKind.u64.wrap (a0_3), IntKind.u64.wrap (a0_4), IntKind.u64.wrap (a0_5), a0_1] : List Int))).bind fun t241 => ((some (([a0_0] : List Int) : List Int)).bind fun y244 => ((milestoneref01_Coin.f k (IntKind.u64.wrap ((t241.length : Int)))).bind fun t247 => (if y244.length + t247.length < 140737488355328 then ((some (y244 ++ t247 : List Int)).bind fun y250 => (if y250.length + t241.length < 140737488355328 then (some (y250 ++ t241)) else (none))) else (none)))))))) = some r := h
 clear h
 by_cases c2 : a0_0 = 1
 · rw [if_pos c2] at H
   have c2b0 : (a0_0 == 1) = true := beq_iff_eq.mpr c2
   have c2b1 : (a0_0 != 1) = false := bne_eq_false_iff_eq.mpr c2
   clear c2
   obtain ⟨y184, hy184⟩ : ∃ y_ : List Int, y_ = (([a0_1] : List Int)) := ⟨_, rfl⟩
   replace H : ((milestoneref01_Coins.f k y184).bind fun t187 => ((some (([a0_0] : List Int) : List Int)).bind fun y190 => ((milestoneref01_Coin.f k (IntKind.u64.wrap ((t187.length : Int)))).bind fun t193 => (if y190.length + t193.length < 140737488355328 then ((some (y190 ++ t193 : List Int)).bind fun y196 => (if y196.length + t187.length < 140737488355328 then (some (y196 ++ t187)) else (none))) else (none))))) = some r := by first | (rw [hy184]; with_reducible exact H) | exact H
   have Ny184 := Aside0.mk hy184
   clear hy184
   replace H := Option.bind_eq_some_iff.mp H
   obtain ⟨t187, A30, H⟩ := H
   replace H : ((some (([a0_0] : List Int) : List Int)).bind fun y190 => ((milestoneref01_Coin.f k (IntKind.u64.wrap ((t187.length : Int)))).bind fun t193 => (if y190.length + t193.length < 140737488355328 then ((some (y190 ++ t193 : List Int)).bind fun y196 => (if y196.length + t187.length < 140737488355328 then (some (y196 ++ t187)) else (none))) else (none)))) = some r := H
   have A3 := Aside0.mk A30
   clear A30
   obtain ⟨y190, hy190⟩ : ∃ y_ : List Int, y_ = (([a0_0] : List Int)) := ⟨_, rfl⟩
   replace H : ((milestoneref01_Coin.f k (IntKind.u64.wrap ((t187.length : Int)))).bind fun t193 => (if y190.length + t193.length < 140737488355328 then ((some (y190 ++ t193 : List Int)).bind fun y196 => (if y196.length + t187.length < 140737488355328 then (some (y196 ++ t187)) else (none))) else (none))) = some r := by first | (have H2_ := (Option.bind_some _ _).symm.trans H; rw [hy190]; with_reducible exact H2_) | exact H
   have Ny190 := Aside0.mk hy190
   clear hy190
   replace H := Option.bind_eq_some_iff.mp H
   obtain ⟨t193, A40, H⟩ := H
   replace H : (if y190.length + t193.length < 140737488355328 then ((some (y190 ++ t193 : List Int)).bind fun y196 => (if y196.length + t187.length < 140737488355328 then (some (y196 ++ t187)) else (none))) else (none)) = some r := H
   have A4 := Aside0.mk A40
   clear A40
   by_cases c5 : y190.length + t193.length < 140737488355328
   · rw [if_pos c5] at H
     have LMc5 := Aside0.mk c5
     clear c5
     obtain ⟨y196, hy196⟩ : ∃ y_ : List Int, y_ = (y190 ++ t193) := ⟨_, rfl⟩
     replace H : (if y196.length + t187.length < 140737488355328 then (some (y196 ++ t187)) else (none)) = some r := by first | (have H2_ := (Option.bind_some _ _).symm.trans H; rw [hy196]; with_reducible exact H2_) | exact H
     have Ny196 := Aside0.mk hy196
     clear hy196
     by_cases c6 : y196.length + t187.length < 140737488355328
     · rw [if_pos c6] at H
       have LMc6 := Aside0.mk c6
       clear c6
       obtain ⟨y199, hy199⟩ : ∃ y_ : List Int, y_ = (y196 ++ t187) := ⟨_, rfl⟩
       replace H : (some y199) = some r := by first | (rw [hy199]; with_reducible exact H) | exact H
       have Ny199 := Aside0.mk hy199
       clear hy199
       obtain rfl := Option.some.inj H
       simp only [Option.some.injEq, Prod.mk.injEq] at H
       obtain ⟨rfl⟩ := H
       go_enter Try.func11, Try.ntmps11
       try go_wp2_with (first | ((with_reducible refine gate_dst (N := 1) rfl ?_); refine box_event ?hg (N := 1) ?hd (cs := #[.int .u8 a0_0, .int .u64 a0_1, .int .i64 a0_2, .int .u32 a0_3, .int .u8 a0_4, .int .u16 a0_5, .int .u16 a0_6]) (t := 28) ?hr ?_; (case hd => rfl); (case hg => rfl); (case hr => first | (go_simp; done)); intro gb183 hg w7 hbox hb; have n0_ := Aside0.mk (below_step (by repeat (first | (with_reducible first | exact HB.out | apply below_drew1))) hb); have n1_ := Aside0.mk (hbox); have n2_ := Aside0.mk ((by rw [hg]; exact (below_size (by repeat (first | (with_reducible first | exact HB.out | apply below_drew1)))) : w.heap.size ≤ gb183)); have n3_ := Aside0.mk ((by rw [hg]; exact (below_size (by repeat (first | (with_reducible first | exact HB.out | apply below_drew1)))) : w.heap.size ≤ gb183)); clear HB; have HB := n0_; have BK183 := n1_; have GW183 := n2_; have GE183 := n3_; clear n0_ n1_ n2_ n3_; clear hb hbox hg; have hcz8_0 : w7.cell? ⟨gb183, 0, none⟩ = some (.int .u8 a0_0) := (blk_cell BK183.out 0).trans rfl; have hcz8_1 : w7.cell? ⟨gb183, 1, none⟩ = some (.int .u64 a0_1) := (blk_cell BK183.out 1).trans rfl; have hcz8_2 : w7.cell? ⟨gb183, 2, none⟩ = some (.int .i64 a0_2) := (blk_cell BK183.out 2).trans rfl; have hcz8_3 : w7.cell? ⟨gb183, 3, none⟩ = some (.int .u32 a0_3) := (blk_cell BK183.out 3).trans rfl; have hcz8_4 : w7.cell? ⟨gb183, 4, none⟩ = some (.int .u8 a0_4) := (blk_cell BK183.out 4).trans rfl; have hcz8_5 : w7.cell? ⟨gb183, 5, none⟩ = some (.int .u16 a0_5) := (blk_cell BK183.out 5).trans rfl; have hcz8_6 : w7.cell? ⟨gb183, 6, none⟩ = some (.int .u16 a0_6) := (blk_cell BK183.out 6).trans rfl; have hfz8_0 := blk_frozen BK183.out 0; have hfz8_1 := blk_frozen BK183.out 1; have hfz8_2 := blk_frozen BK183.out 2; have hfz8_3 := blk_frozen BK183.out 3; have hfz8_4 := blk_frozen BK183.out 4; have hfz8_5 := blk_frozen BK183.out 5; have hfz8_6 := blk_frozen BK183.out 6) | ((with_reducible refine gate_dst (N := 25) rfl ?_); refine Kd.R_lit (Kd.int .u64) _ 22 ?hg (N := 25) ?hd (xs := ([a0_1] : List Int)) (inner := [.int .u64 a0_1]) (ok := fun _ => True) (okp := fun _ => True) ?hr ?hp (fun _ hk => hk) trivial (Below.refl _ _) (Nat.le_refl _) (by simp) ?_; (case hd => rfl); (case hg => rfl); (case hr => first | (go_simp; done)); (case hp => exact (Reps.one (show Kd.M (Kd.int .u64) _ _ _ a0_1 [.int .u64 a0_1] from rfl) (Reps.none _ _))); intro v185 w9 ho10 hb hg_ hnew_; clear hg_ hnew_; (first | rw [← Ny184.out] at ho10); have n0_ := Aside0.mk (Kd.R_lower ho10 (below_size (by repeat (first | (with_reducible first | exact HB.out | refine below_set ?_ GE183.out))))); have n1_ := Aside0.mk (blk_below (g := gb183) (o := .cells #[.int .u8 a0_0, .int .u64 a0_1, .int .i64 a0_2, .int .u32 a0_3, .int .u8 a0_4, .int .u16 a0_5, .int .u16 a0_6] 28 (0, 0)) (by exact BK183.out) hb); have n2_ := Aside0.mk (below_step (by repeat (first | (with_reducible first | exact HB.out | refine below_set ?_ GE183.out))) hb); clear BK183; clear HB; have HO186 := n0_; have BK183 := n1_; have HB := n2_; clear n0_ n1_ n2_; clear hb ho10; obtain ⟨Ao11, co11, eo11⟩ := Kd.R_slice HO186.out; subst eo11) | ((with_reducible refine gate_callee (f := 24) rfl ?_); refine goesL_ (some 26) rfl rfl Try.func24 (by kernel_rfl) rfl #[.slice Ao11 y184.length co11] rfl (by (try simp only [List.map_toArray, List.map_cons, List.map_nil]); first | rfl | (refine qa_arr ?_; (repeat' (first | rfl | refine qa_cons ?_ ?_ | refine qa_int ?_ | refine qa_agg ?_ | refine qa_arr ?_ | omega)); done)) ?_; (with_reducible refine (milestoneref01_Coins.calls k _ _ y184 t187 _ ?side1 ?side2 A3.out).mono ?_); (case side1 => repeat (first | exact (Kd.R_reads' HO186.out).2.2 | (with_reducible refine Kd.C_drew ?_))); (case side2 => exact (Kd.R_reads' HO186.out).2.1); rintro e w12 ⟨v188, rfl, ho0, hb⟩; refine ⟨_, rfl, ?_⟩; have n0_ := Aside0.mk (Kd.R_below (by exact HO186.out) hb); have n1_ := Aside0.mk (Kd.R_lower ho0 (below_size (by repeat (first | (with_reducible first | exact HB.out | refine below_set ?_ GE183.out))))); have n2_ := Aside0.mk (blk_below (g := gb183) (o := .cells #[.int .u8 a0_0, .int .u64 a0_1, .int .i64 a0_2, .int .u32 a0_3, .int .u8 a0_4, .int .u16 a0_5, .int .u16 a0_6] 28 (0, 0)) (by exact BK183.out) hb); have n3_ := Aside0.mk (below_step (by repeat (first | (with_reducible first | exact HB.out | refine below_set ?_ GE183.out))) hb); clear HO186; clear BK183; clear HB; have HO186 := n0_; have HO189 := n1_; have BK183 := n2_; have HB := n3_; clear n0_ n1_ n2_ n3_; (try clear hb); (try clear hb2); (try clear hk); (try clear hi); (try clear ho0); obtain ⟨Ao13, co13, eo13⟩ := Kd.R_slice HO189.out; subst eo13))
       have n0_ := Aside0.mk (Kd.R_drew HO186.out)
       have n1_ := Aside0.mk (Kd.R_drew HO189.out)
       have n2_ := Aside0.mk (blk_drew BK183.out)
       have n3_ := Aside0.mk (below_drew1 HB.out)
       clear HO186
       clear HO189
       clear BK183
       clear HB
       have HO186 := n0_
       have HO189 := n1_
       have BK183 := n2_
       have HB := n3_
       clear n0_ n1_ n2_ n3_
       refine start_ (n := 11) (S := fun w' => w'.cell? ⟨gb183, 0, none⟩ = some (.int .u8 a0_0) ∧ w'.cell? ⟨gb183, 1, none⟩ = some (.int .u64 a0_1) ∧ w'.cell? ⟨gb183, 2, none⟩ = some (.int .i64 a0_2) ∧ w'.cell? ⟨gb183, 3, none⟩ = some (.int .u32 a0_3) ∧ w'.cell? ⟨gb183, 4, none⟩ = some (.int .u8 a0_4) ∧ w'.cell? ⟨gb183, 5, none⟩ = some (.int .u16 a0_5) ∧ w'.cell? ⟨gb183, 6, none⟩ = some (.int .u16 a0_6)) (ds := []) #[false, false, false, false, false, false, false, false, false, false, false] (by kernel_rfl) rfl rfl ⟨(blk_cell BK183.out 0).trans rfl, (blk_cell BK183.out 1).trans rfl, (blk_cell BK183.out 2).trans rfl, (blk_cell BK183.out 3).trans rfl, (blk_cell BK183.out 4).trans rfl, (blk_cell BK183.out 5).trans rfl, (blk_cell BK183.out 6).trans rfl⟩ (fun hHeld => ?_); refine with_tabW milestonelaw13_bytes.tab10 milestonelaw13_bytes.bits10 (fun HT_ HW_ => ?_)
       generalize w12.drew = w14 at HO186 HO189 BK183 HB hHeld ⊢
       refine pure_ (i := 0) (N := some 58) (v := ?_) (a' := ?_) #[true, false, false, false, false, false, false, false, false, false, false] rfl rfl (any_of HT_.out (by kernel_rfl)) (fun _ _ _ h => h) (Or.inl ⟨by rfl, ?_⟩) ?_ ?_
       rotate_left
       · intro w'
         go_simp
         with_reducible rfl
       rotate_left
       · simp only [Act.put, List.setIfInBounds_toArray, List.set_cons_zero, List.set_cons_succ, i64_w, i32_w]
         rfl
       refine pure_ (i := 3) (N := some 61) (v := ?_) (a' := ?_) #[true, false, false, true, false, false, false, false, false, false, false] rfl rfl (any_of HT_.out (by kernel_rfl)) (fun _ _ _ h => h) (Or.inl ⟨by rfl, ?_⟩) ?_ ?_
       rotate_left
       · intro w'
         go_simp
         with_reducible rfl
       rotate_left
       · simp only [Act.put, List.setIfInBounds_toArray, List.set_cons_zero, List.set_cons_succ, i64_w, i32_w]
         rfl
       refine pure_ (i := 4) (N := some 62) (v := ?_) (a' := ?_) #[true, false, false, true, true, false, false, false, false, false, false] rfl rfl (any_of HT_.out (by kernel_rfl)) (fun _ _ _ h => h) (Or.inl ⟨by rfl, ?_⟩) ?_ ?_
       rotate_left
       · intro w'
         go_simp
         with_reducible rfl
       rotate_left
       · simp only [Act.put, List.setIfInBounds_toArray, List.set_cons_zero, List.set_cons_succ, i64_w, i32_w]
         rfl
       refine pure_ (i := 5) (N := some 63) (v := ?_) (a' := ?_) #[true, false, false, true, true, true, false, false, false, false, false] rfl rfl (any_of HT_.out (by kernel_rfl)) (fun _ _ _ h => h) (Or.inl ⟨by rfl, ?_⟩) ?_ ?_
       rotate_left
       · intro w'
         go_simp
         with_reducible rfl
       rotate_left
       · simp only [Act.put, List.setIfInBounds_toArray, List.set_cons_zero, List.set_cons_succ, i64_w, i32_w]
         rfl
       refine pure_ (i := 8) (N := some 66) (v := ?_) (a' := ?_) #[true, false, false, true, true, true, false, false, true, false, false] rfl rfl (any_of HT_.out (by kernel_rfl)) (fun _ _ _ h => h) (Or.inl ⟨by rfl, ?_⟩) ?_ ?_
       rotate_left
       · intro w'
         go_simp
         with_reducible rfl
       rotate_left
       · simp only [Act.put, List.setIfInBounds_toArray, List.set_cons_zero, List.set_cons_succ, i64_w, i32_w]
         rfl
       refine take_ (i := 1) (N := some 59) (v := ?_) (a' := ?_) #[true, true, false, true, true, true, false, false, true, false, false] rfl rfl (take_ofW HT_.out HW_.out (by kernel_rfl)) (fun _ _ _ h => h) (Or.inl ⟨by rfl, ?_⟩) hHeld ?_ ?_
       rotate_left
       · rintro w' ⟨s0, s1, s2, s3, s4, s5, s6⟩
         go_simp
         with_reducible rfl
       rotate_left
       · simp only [Act.put, List.setIfInBounds_toArray, List.set_cons_zero, List.set_cons_succ, i64_w, i32_w]
         rfl
       refine join_ (σ := Value × Value) 3 #[true, true, true, true, true, true, true, false, true, false, false] (fun s_ => [(60, s_.1), (64, s_.2)]) (fun s_ w' => (w'.cell? ⟨gb183, 0, none⟩ = some (.int .u8 a0_0) ∧ w'.cell? ⟨gb183, 1, none⟩ = some (.int .u64 a0_1) ∧ w'.cell? ⟨gb183, 2, none⟩ = some (.int .i64 a0_2) ∧ w'.cell? ⟨gb183, 3, none⟩ = some (.int .u32 a0_3) ∧ w'.cell? ⟨gb183, 4, none⟩ = some (.int .u8 a0_4) ∧ w'.cell? ⟨gb183, 5, none⟩ = some (.int .u16 a0_5) ∧ w'.cell? ⟨gb183, 6, none⟩ = some (.int .u16 a0_6)) ∧ (Kd.R (Kd.int .u64) 22 w' w.heap.size (fun _ => True) (.slice Ao11 y184.length co11) y184) ∧ (Kd.R (Kd.int .u8) 5 w' w.heap.size (fun k_ => some k_ ≠ (s_.1 : Value).ownBlock ∧ some k_ ≠ (s_.2 : Value).ownBlock) (.slice Ao13 t187.length co13) t187) ∧ (Kd.R (Kd.int .u8) 5 w' w.heap.size (fun k_ => some k_ ≠ (.slice Ao13 t187.length co13 : Value).ownBlock ∧ some k_ ≠ (s_.2 : Value).ownBlock) s_.1 y190) ∧ (Kd.R (Kd.int .u8) 5 w' w.heap.size (fun k_ => some k_ ≠ (.slice Ao13 t187.length co13 : Value).ownBlock ∧ some k_ ≠ (s_.1 : Value).ownBlock) s_.2 t193) ∧ (w'.heap[gb183]? = some (.cells #[.int .u8 a0_0, .int .u64 a0_1, .int .i64 a0_2, .int .u32 a0_3, .int .u8 a0_4, .int .u16 a0_5, .int .u16 a0_6] 28 (0, 0))) ∧ (Below w.heap.size w w')) ?_ ?_
       rotate_left
       · intro hCont
         refine two_ (i := 2) (j := 6) (Ni := some 60) (Nj := some 64) #[true, true, true, true, true, true, false, false, true, false, false] #[true, true, false, true, true, true, true, false, true, false, false] rfl rfl rfl rfl (two_of HT_.out (by kernel_rfl)) (by decide) (by decide) (fun K hK => ?_) (fun K hK => ?_)
         · skip
           refine Kd.R_lit_step (Kd.int .u8) _ 5 ?hg (N := 60) ?hd (xs := ([a0_0] : List Int)) (inner := [.int .u8 a0_0]) (ok := fun _ => True) (okp := fun _ => True) ?hr ?hp (fun _ hk => hk) trivial (Below.refl _ _) (Nat.le_refl _) (by simp) ?_; (case hd => rfl); (case hg => rfl); (case hr => first | (go_simp; done)); (case hp => exact (Reps.one (show Kd.M (Kd.int .u8) _ _ _ a0_0 [.int .u8 a0_0] from rfl) (Reps.none _ _)))
           intro v191 w15 ho16 hb hg_ hnew_
           clear hg_ hnew_
           (first | rw [← Ny190.out] at ho16)
           have n0_ := Aside0.mk (Kd.R_below (by exact HO186.out) hb)
           have n1_ := Aside0.mk (Kd.R_elder' (by exact HO189.out) (Kd.R_base ho16) hb)
           have n2_ := Aside0.mk (Kd.R_lower (Kd.R_new' ho16 (Kd.R_lt (by exact HO189.out))) (below_size (by repeat (first | (with_reducible first | exact HB.out | refine below_set ?_ GE183.out)))))
           have n3_ := Aside0.mk (blk_below (g := gb183) (o := .cells #[.int .u8 a0_0, .int .u64 a0_1, .int .i64 a0_2, .int .u32 a0_3, .int .u8 a0_4, .int .u16 a0_5, .int .u16 a0_6] 28 (0, 0)) (by exact BK183.out) hb)
           have n4_ := Aside0.mk (below_step (by repeat (first | (with_reducible first | exact HB.out | refine below_set ?_ GE183.out))) hb)
           clear HO186
           clear HO189
           clear BK183
           clear HB
           have HO186 := n0_
           have HO189 := n1_
           have HO192 := n2_
           have BK183 := n3_
           have HB := n4_
           clear n0_ n1_ n2_ n3_ n4_
           clear hb ho16
           refine hK.out _ _ ⟨(blk_cell BK183.out 0).trans rfl, (blk_cell BK183.out 1).trans rfl, (blk_cell BK183.out 2).trans rfl, (blk_cell BK183.out 3).trans rfl, (blk_cell BK183.out 4).trans rfl, (blk_cell BK183.out 5).trans rfl, (blk_cell BK183.out 6).trans rfl⟩ (fun hHeld => ?_)
           clear hK K
           refine norm_ (a' := ?_) ?_ ?_
           rotate_left
           · show Act.put _ (some 60) _ = _
             simp only [Act.put, List.setIfInBounds_toArray, List.set_cons_zero, List.set_cons_succ, i64_w, i32_w]
             rfl
           refine one_ (i := 6) (N := some 64) #[true, true, true, true, true, true, true, false, true, false, false] rfl rfl (one_of HT_.out (by kernel_rfl)) (by decide) (fun K hK => ?_)
           refine goes_ Try.func15 (by kernel_rfl) rfl #[.int .u64 (IntKind.u64.wrap ((t187.length : Int)))] (by rfl) rfl rfl (by (try simp only [List.map_toArray, List.map_cons, List.map_nil]); first | rfl) ?_
           with_reducible refine (milestoneref01_Coin.calls k (IntKind.u64.wrap ((t187.length : Int))) t193 _ A4.out).mono ?_
           rintro e w17 ⟨v194, rfl, ho0, hb⟩
           refine ⟨_, rfl, ?_⟩
           have n0_ := Aside0.mk (Kd.R_below (by exact HO186.out) hb)
           have n1_ := Aside0.mk (Kd.R_elder' (by exact HO189.out) (Kd.R_base ho0) hb)
           have n2_ := Aside0.mk (Kd.R_elder' (by exact HO192.out) (Kd.R_base ho0) hb)
           have n3_ := Aside0.mk (Kd.R_lower (Kd.R_new' (Kd.R_new' ho0 (Kd.R_lt (by exact HO189.out))) (Kd.R_lt (by exact HO192.out))) (below_size (by repeat (first | (with_reducible first | exact HB.out | refine below_set ?_ GE183.out)))))
           have n4_ := Aside0.mk (blk_below (g := gb183) (o := .cells #[.int .u8 a0_0, .int .u64 a0_1, .int .i64 a0_2, .int .u32 a0_3, .int .u8 a0_4, .int .u16 a0_5, .int .u16 a0_6] 28 (0, 0)) (by exact BK183.out) hb)
           have n5_ := Aside0.mk (below_step (by repeat (first | (with_reducible first | exact HB.out | refine below_set ?_ GE183.out))) hb)
           clear HO186
           clear HO189
           clear HO192
           clear BK183
           clear HB
           have HO186 := n0_
           have HO189 := n1_
           have HO192 := n2_
           have HO195 := n3_
           have BK183 := n4_
           have HB := n5_
           clear n0_ n1_ n2_ n3_ n4_ n5_
           (try clear hb)
           (try clear hb2)
           (try clear hk)
           (try clear hi)
           (try clear ho0)
           refine hK.out _ _ ⟨(blk_cell BK183.out 0).trans rfl, (blk_cell BK183.out 1).trans rfl, (blk_cell BK183.out 2).trans rfl, (blk_cell BK183.out 3).trans rfl, (blk_cell BK183.out 4).trans rfl, (blk_cell BK183.out 5).trans rfl, (blk_cell BK183.out 6).trans rfl⟩ (fun hHeld => ?_)
           clear hK K
           refine norm_ (a' := ?_) ?_ ?_
           rotate_left
           · show Act.put _ (some 64) _ = _
             simp only [Act.put, List.setIfInBounds_toArray, List.set_cons_zero, List.set_cons_succ, i64_w, i32_w]
             rfl
           exact norm_ (by simp only [putAll, Act.put, List.setIfInBounds_toArray, List.set_cons_zero, List.set_cons_succ]) (hCont (v191, v194) _ ⟨hHeld, (by exact HO186.out), (by exact Kd.R_mono HO189.out (fun _ hk => ⟨hk.1.2, hk.2⟩)), (by exact Kd.R_mono HO192.out (fun _ hk => ⟨hk.1.2, hk.2⟩)), (by exact Kd.R_mono HO195.out (fun _ hk => ⟨hk.1.2, hk.2⟩)), (by exact BK183.out), (by repeat (first | (with_reducible first | exact HB.out | refine below_set ?_ GE183.out)))⟩)
         · skip
           refine goes_ Try.func15 (by kernel_rfl) rfl #[.int .u64 (IntKind.u64.wrap ((t187.length : Int)))] (by rfl) rfl rfl (by (try simp only [List.map_toArray, List.map_cons, List.map_nil]); first | rfl) ?_
           with_reducible refine (milestoneref01_Coin.calls k (IntKind.u64.wrap ((t187.length : Int))) t193 _ A4.out).mono ?_
           rintro e w15 ⟨v194, rfl, ho0, hb⟩
           refine ⟨_, rfl, ?_⟩
           have n0_ := Aside0.mk (Kd.R_below (by exact HO186.out) hb)
           have n1_ := Aside0.mk (Kd.R_elder' (by exact HO189.out) (Kd.R_base ho0) hb)
           have n2_ := Aside0.mk (Kd.R_lower (Kd.R_new' ho0 (Kd.R_lt (by exact HO189.out))) (below_size (by repeat (first | (with_reducible first | exact HB.out | refine below_set ?_ GE183.out)))))
           have n3_ := Aside0.mk (blk_below (g := gb183) (o := .cells #[.int .u8 a0_0, .int .u64 a0_1, .int .i64 a0_2, .int .u32 a0_3, .int .u8 a0_4, .int .u16 a0_5, .int .u16 a0_6] 28 (0, 0)) (by exact BK183.out) hb)
           have n4_ := Aside0.mk (below_step (by repeat (first | (with_reducible first | exact HB.out | refine below_set ?_ GE183.out))) hb)
           clear HO186
           clear HO189
           clear BK183
           clear HB
           have HO186 := n0_
           have HO189 := n1_
           have HO195 := n2_
           have BK183 := n3_
           have HB := n4_
           clear n0_ n1_ n2_ n3_ n4_
           (try clear hb)
           (try clear hb2)
           (try clear hk)
           (try clear hi)
           (try clear ho0)
           refine hK.out _ _ ⟨(blk_cell BK183.out 0).trans rfl, (blk_cell BK183.out 1).trans rfl, (blk_cell BK183.out 2).trans rfl, (blk_cell BK183.out 3).trans rfl, (blk_cell BK183.out 4).trans rfl, (blk_cell BK183.out 5).trans rfl, (blk_cell BK183.out 6).trans rfl⟩ (fun hHeld => ?_)
           clear hK K
           refine norm_ (a' := ?_) ?_ ?_
           rotate_left
           · show Act.put _ (some 64) _ = _
             simp only [Act.put, List.setIfInBounds_toArray, List.set_cons_zero, List.set_cons_succ, i64_w, i32_w]
             rfl
           refine one_ (i := 2) (N := some 60) #[true, true, true, true, true, true, true, false, true, false, false] rfl rfl (one_of HT_.out (by kernel_rfl)) (by decide) (fun K hK => ?_)
           refine Kd.R_lit_step (Kd.int .u8) _ 5 ?hg (N := 60) ?hd (xs := ([a0_0] : List Int)) (inner := [.int .u8 a0_0]) (ok := fun _ => True) (okp := fun _ => True) ?hr ?hp (fun _ hk => hk) trivial (Below.refl _ _) (Nat.le_refl _) (by simp) ?_; (case hd => rfl); (case hg => rfl); (case hr => first | (go_simp; done)); (case hp => exact (Reps.one (show Kd.M (Kd.int .u8) _ _ _ a0_0 [.int .u8 a0_0] from rfl) (Reps.none _ _)))
           intro v191 w16 ho17 hb hg_ hnew_
           clear hg_ hnew_
           (first | rw [← Ny190.out] at ho17)
           have n0_ := Aside0.mk (Kd.R_below (by exact HO186.out) hb)
           have n1_ := Aside0.mk (Kd.R_elder' (by exact HO189.out) (Kd.R_base ho17) hb)
           have n2_ := Aside0.mk (Kd.R_elder' (by exact HO195.out) (Kd.R_base ho17) hb)
           have n3_ := Aside0.mk (Kd.R_lower (Kd.R_new' (Kd.R_new' ho17 (Kd.R_lt (by exact HO189.out))) (Kd.R_lt (by exact HO195.out))) (below_size (by repeat (first | (with_reducible first | exact HB.out | refine below_set ?_ GE183.out)))))
           have n4_ := Aside0.mk (blk_below (g := gb183) (o := .cells #[.int .u8 a0_0, .int .u64 a0_1, .int .i64 a0_2, .int .u32 a0_3, .int .u8 a0_4, .int .u16 a0_5, .int .u16 a0_6] 28 (0, 0)) (by exact BK183.out) hb)
           have n5_ := Aside0.mk (below_step (by repeat (first | (with_reducible first | exact HB.out | refine below_set ?_ GE183.out))) hb)
           clear HO186
           clear HO189
           clear HO195
           clear BK183
           clear HB
           have HO186 := n0_
           have HO189 := n1_
           have HO195 := n2_
           have HO192 := n3_
           have BK183 := n4_
           have HB := n5_
           clear n0_ n1_ n2_ n3_ n4_ n5_
           clear hb ho17
           refine hK.out _ _ ⟨(blk_cell BK183.out 0).trans rfl, (blk_cell BK183.out 1).trans rfl, (blk_cell BK183.out 2).trans rfl, (blk_cell BK183.out 3).trans rfl, (blk_cell BK183.out 4).trans rfl, (blk_cell BK183.out 5).trans rfl, (blk_cell BK183.out 6).trans rfl⟩ (fun hHeld => ?_)
           clear hK K
           refine norm_ (a' := ?_) ?_ ?_
           rotate_left
           · show Act.put _ (some 60) _ = _
             simp only [Act.put, List.setIfInBounds_toArray, List.set_cons_zero, List.set_cons_succ, i64_w, i32_w]
             rfl
           exact norm_ (by simp only [putAll, Act.put, List.setIfInBounds_toArray, List.set_cons_zero, List.set_cons_succ]) (hCont (v191, v194) _ ⟨hHeld, (by exact HO186.out), (by exact Kd.R_mono HO189.out (fun _ hk => ⟨hk.2, hk.1.2⟩)), (by exact Kd.R_mono HO192.out (fun _ hk => ⟨hk.1.2, hk.2⟩)), (by exact Kd.R_mono HO195.out (fun _ hk => ⟨hk.1.2, hk.2⟩)), (by exact BK183.out), (by repeat (first | (with_reducible first | exact HB.out | refine below_set ?_ GE183.out)))⟩)
       rintro ⟨v191, v194⟩ w18 ⟨hS_, h0_, h1_, h2_, h3_, h4_, h5_⟩
       have n0_ : Aside0 (Kd.R (Kd.int .u64) 22 w18 w.heap.size (fun _ => True) (.slice Ao11 y184.length co11) y184) := ⟨h0_⟩
       have n1_ : Aside0 (Kd.R (Kd.int .u8) 5 w18 w.heap.size (fun k_ => some k_ ≠ (v191 : Value).ownBlock ∧ some k_ ≠ (v194 : Value).ownBlock) (.slice Ao13 t187.length co13) t187) := ⟨h1_⟩
       have n2_ : Aside0 (Kd.R (Kd.int .u8) 5 w18 w.heap.size (fun k_ => some k_ ≠ (.slice Ao13 t187.length co13 : Value).ownBlock ∧ some k_ ≠ (v194 : Value).ownBlock) v191 y190) := ⟨h2_⟩
       have n3_ : Aside0 (Kd.R (Kd.int .u8) 5 w18 w.heap.size (fun k_ => some k_ ≠ (.slice Ao13 t187.length co13 : Value).ownBlock ∧ some k_ ≠ (v191 : Value).ownBlock) v194 t193) := ⟨h3_⟩
       have n4_ : Aside0 (w18.heap[gb183]? = some (.cells #[.int .u8 a0_0, .int .u64 a0_1, .int .i64 a0_2, .int .u32 a0_3, .int .u8 a0_4, .int .u16 a0_5, .int .u16 a0_6] 28 (0, 0))) := ⟨h4_⟩
       have n5_ : Aside0 (Below w.heap.size w w18) := ⟨h5_⟩
       clear HO186
       clear HO189
       clear BK183
       clear HB
       clear h0_ h1_ h2_ h3_ h4_ h5_
       have HO186 := n0_
       have HO189 := n1_
       have HO192 := n2_
       have HO195 := n3_
       have BK183 := n4_
       have HB := n5_
       clear n0_ n1_ n2_ n3_ n4_ n5_
       have hHeld : w18.cell? ⟨gb183, 0, none⟩ = some (.int .u8 a0_0) ∧ w18.cell? ⟨gb183, 1, none⟩ = some (.int .u64 a0_1) ∧ w18.cell? ⟨gb183, 2, none⟩ = some (.int .i64 a0_2) ∧ w18.cell? ⟨gb183, 3, none⟩ = some (.int .u32 a0_3) ∧ w18.cell? ⟨gb183, 4, none⟩ = some (.int .u8 a0_4) ∧ w18.cell? ⟨gb183, 5, none⟩ = some (.int .u16 a0_5) ∧ w18.cell? ⟨gb183, 6, none⟩ = some (.int .u16 a0_6) := hS_
       obtain ⟨Ao20, co20, eo20⟩ := Kd.R_slice HO195.out
       (first | subst eo20)
       refine norm_ (a' := ?_) ?_ ?_
       rotate_left
       · simp only [putAll, Act.put, List.setIfInBounds_toArray, List.set_cons_zero, List.set_cons_succ]
         rfl
       refine one_ (i := 7) (N := some 65) #[true, true, true, true, true, true, true, true, true, false, false] rfl rfl (one_of HT_.out (by kernel_rfl)) (by decide) (fun K hK => ?_)
       refine Kd.R_append_rows_step (Kd.int .u8) (w0 := w) w.heap.size (by rfl) (.tmp 60) (.tmp 64) 30 5 (.int .u8 0) 1 rfl Try.underlying30 info5 rfl (by decide) (by omega) v191 y190 t193 _ _ _ (fun k_ => some k_ ≠ (.slice Ao13 t187.length co13 : Value).ownBlock ∧ some k_ ≠ (.slice Ao20 t193.length co20 : Value).ownBlock) (fun _ => False) rfl rfl ?aO ?aR (fun _ _ h => h) (fun _ h => h.elim) ?aF ?aB ?aS ?aL ?_
       (case aR => repeat (first | exact (Kd.R_reads' HO195.out).2.2 | (with_reducible refine Kd.C_drew ?_)))
       (case aB => exact (by repeat (first | (with_reducible first | exact HB.out | refine below_set ?_ GE183.out))))
       (case aF => exact (fun k_ hk => ⟨Kd.fresh' (Kd.R_lt (by exact HO189.out)) k_ hk, Kd.fresh' (Kd.R_lt (by exact HO195.out)) k_ hk⟩))
       (case aO => exact (by exact HO192.out))
       (case aS => exact (below_size (by repeat (first | (with_reducible first | exact HB.out | refine below_set ?_ GE183.out)))))
       (case aL => have := LMc5.out; omega)
       intro v197 w19 ho hb hg hat
       rw [← Ny196.out] at ho
       have n0_ := Aside0.mk (blk_grown (g := gb183) (o := .cells #[.int .u8 a0_0, .int .u64 a0_1, .int .i64 a0_2, .int .u32 a0_3, .int .u8 a0_4, .int .u16 a0_5, .int .u16 a0_6] 28 (0, 0)) (by exact BK183.out) hg (Kd.R_ne HO192.out BK183.out (by decide)))
       have n1_ := Aside0.mk (Kd.R_over' (by exact HO186.out) (Kd.R_typed (by exact HO192.out)) (by decide) hg)
       have n2_ := Aside0.mk (Kd.R_after (ok := (fun k_ => some k_ ≠ (.slice Ao20 t193.length co20 : Value).ownBlock)) (by exact Kd.R_mono HO189.out (fun _ hk => ⟨hk.2, hk.1⟩)) hg hat)
       have n3_ := Aside0.mk (Kd.R_after (ok := (fun k_ => some k_ ≠ (.slice Ao13 t187.length co13 : Value).ownBlock)) (by exact HO195.out) hg hat)
       have n4_ := Aside0.mk (hb)
       have n5_ := Aside0.mk (ho)
       clear BK183
       clear HO186
       clear HO189
       clear HO195
       clear HB
       clear HO192
       have BK183 := n0_
       have HO186 := n1_
       have HO189 := n2_
       have HO195 := n3_
       have HB := n4_
       have HO198 := n5_
       clear n0_ n1_ n2_ n3_ n4_ n5_
       clear ho hb hg hat
       refine hK.out _ _ ⟨(blk_cell BK183.out 0).trans rfl, (blk_cell BK183.out 1).trans rfl, (blk_cell BK183.out 2).trans rfl, (blk_cell BK183.out 3).trans rfl, (blk_cell BK183.out 4).trans rfl, (blk_cell BK183.out 5).trans rfl, (blk_cell BK183.out 6).trans rfl⟩ (fun hHeld => ?_)
       clear hK K
       refine norm_ (a' := ?_) ?_ ?_
       rotate_left
       · show Act.put _ (some 65) _ = _
         simp only [Act.put, List.setIfInBounds_toArray, List.set_cons_zero, List.set_cons_succ, i64_w, i32_w]
         rfl
       refine one_ (i := 9) (N := some 67) #[true, true, true, true, true, true, true, true, true, true, false] rfl rfl (one_of HT_.out (by kernel_rfl)) (by decide) (fun K hK => ?_)
       refine Kd.R_append_rows_step (Kd.int .u8) (w0 := w) w.heap.size (by rfl) (.tmp 65) (.tmp 66) 30 5 (.int .u8 0) 1 rfl Try.underlying30 info5 rfl (by decide) (by omega) v197 y196 t187 _ _ _ (fun k_ => some k_ ≠ (.slice Ao13 t187.length co13 : Value).ownBlock ∧ some k_ ≠ (.slice Ao20 t193.length co20 : Value).ownBlock) (fun _ => False) rfl rfl ?aO ?aR (fun _ _ h => h) (fun _ h => h.elim) ?aF ?aB ?aS ?aL ?_
       (case aR => repeat (first | exact (Kd.R_reads' HO189.out).2.2 | (with_reducible refine Kd.C_drew ?_)))
       (case aB => exact (by repeat (first | (with_reducible first | exact HB.out | refine below_set ?_ GE183.out))))
       (case aF => exact (fun k_ hk => ⟨Kd.fresh' (Kd.R_lt (by exact HO189.out)) k_ hk, Kd.fresh' (Kd.R_lt (by exact HO195.out)) k_ hk⟩))
       (case aO => exact (by exact HO198.out))
       (case aS => exact (below_size (by repeat (first | (with_reducible first | exact HB.out | refine below_set ?_ GE183.out)))))
       (case aL => have := LMc6.out; omega)
       intro v200 w21 ho hb hg hat
       rw [← Ny199.out] at ho
       have n0_ := Aside0.mk (blk_grown (g := gb183) (o := .cells #[.int .u8 a0_0, .int .u64 a0_1, .int .i64 a0_2, .int .u32 a0_3, .int .u8 a0_4, .int .u16 a0_5, .int .u16 a0_6] 28 (0, 0)) (by exact BK183.out) hg (Kd.R_ne HO198.out BK183.out (by decide)))
       have n1_ := Aside0.mk (Kd.R_over' (by exact HO186.out) (Kd.R_typed (by exact HO198.out)) (by decide) hg)
       have n2_ := Aside0.mk (Kd.R_after (ok := (fun k_ => some k_ ≠ (.slice Ao20 t193.length co20 : Value).ownBlock)) (by exact HO189.out) hg hat)
       have n3_ := Aside0.mk (Kd.R_after (ok := (fun k_ => some k_ ≠ (.slice Ao13 t187.length co13 : Value).ownBlock)) (by exact HO195.out) hg hat)
       have n4_ := Aside0.mk (hb)
       have n5_ := Aside0.mk (ho)
       clear BK183
       clear HO186
       clear HO189
       clear HO195
       clear HB
       clear HO198
       have BK183 := n0_
       have HO186 := n1_
       have HO189 := n2_
       have HO195 := n3_
       have HB := n4_
       have HO201 := n5_
       clear n0_ n1_ n2_ n3_ n4_ n5_
       clear ho hb hg hat
       refine hK.out _ _ ⟨(blk_cell BK183.out 0).trans rfl, (blk_cell BK183.out 1).trans rfl, (blk_cell BK183.out 2).trans rfl, (blk_cell BK183.out 3).trans rfl, (blk_cell BK183.out 4).trans rfl, (blk_cell BK183.out 5).trans rfl, (blk_cell BK183.out 6).trans rfl⟩ (fun hHeld => ?_)
       clear hK K
       refine norm_ (a' := ?_) ?_ ?_
       rotate_left
       · show Act.put _ (some 67) _ = _
         simp only [Act.put, List.setIfInBounds_toArray, List.set_cons_zero, List.set_cons_succ, i64_w, i32_w]
         rfl
       refine pure_ (i := 10) (N := some 2) (v := ?_) (a' := ?_) #[true, true, true, true, true, true, true, true, true, true, true] rfl rfl (any_of HT_.out (by kernel_rfl)) (fun _ _ _ h => h) (Or.inl ⟨by rfl, ?_⟩) ?_ ?_
       rotate_left
       · intro w'
         go_simp
         with_reducible rfl
       rotate_left
       · simp only [Act.put, List.setIfInBounds_toArray, List.set_cons_zero, List.set_cons_succ, i64_w, i32_w]
         rfl
       refine done_ (done_of HT_.out (by kernel_rfl)) ?_
       try go_wp2
       go_ret
       exact ⟨_, by first | rfl | (simp [*, errW_none, errW_some] <;> rfl), by exact Kd.R_mono HO201.out (fun _ hk => trivial), by repeat (first | (with_reducible first | exact HB.out | refine below_set ?_ GE183.out))⟩
     · rw [if_neg c6] at H
       exact absurd H (by simp)
   · rw [if_neg c5] at H
     exact absurd H (by simp)
 · rw [if_neg c2] at H
   have c2b0 : (a0_0 == 1) = false := beq_eq_false_iff_ne.mpr c2
   have c2b1 : (a0_0 != 1) = true := bne_iff_ne.mpr c2
   by_cases c22 : a0_0 = 2
   · rw [if_pos c22] at H
     have c22b0 : (a0_0 == 2) = true := beq_iff_eq.mpr c22
     have c22b1 : (a0_0 != 2) = false := bne_eq_false_iff_eq.mpr c22
     clear c22
     obtain ⟨y202, hy202⟩ : ∃ y_ : List Int, y_ = (([IntKind.u64.wrap (a0_2), IntKind.u64.wrap (a0_6)] : List Int)) := ⟨_, rfl⟩
     replace H : ((milestoneref01_Coins.f k y202).bind fun t205 => ((some (([a0_0] : List Int) : List Int)).bind fun y208 => ((milestoneref01_Coin.f k (IntKind.u64.wrap ((t205.length : Int)))).bind fun t211 => (if y208.length + t211.length < 140737488355328 then ((some (y208 ++ t211 : List Int)).bind fun y214 => (if y214.length + t205.length < 140737488355328 then (some (y214 ++ t205)) else (none))) else (none))))) = some r := by first | (rw [hy202]; with_reducible exact H) | exact H
     have Ny202 := Aside0.mk hy202
     clear hy202
     replace H := Option.bind_eq_some_iff.mp H
     obtain ⟨t205, A230, H⟩ := H
     replace H : ((some (([a0_0] : List Int) : List Int)).bind fun y208 => ((milestoneref01_Coin.f k (IntKind.u64.wrap ((t205.length : Int)))).bind fun t211 => (if y208.length + t211.length < 140737488355328 then ((some (y208 ++ t211 : List Int)).bind fun y214 => (if y214.length + t205.length < 140737488355328 then (some (y214 ++ t205)) else (none))) else (none)))) = some r := H
     have A23 := Aside0.mk A230
     clear A230
     obtain ⟨y208, hy208⟩ : ∃ y_ : List Int, y_ = (([a0_0] : List Int)) := ⟨_, rfl⟩
     replace H : ((milestoneref01_Coin.f k (IntKind.u64.wrap ((t205.length : Int)))).bind fun t211 => (if y208.length + t211.length < 140737488355328 then ((some (y208 ++ t211 : List Int)).bind fun y214 => (if y214.length + t205.length < 140737488355328 then (some (y214 ++ t205)) else (none))) else (none))) = some r := by first | (have H2_ := (Option.bind_some _ _).symm.trans H; rw [hy208]; with_reducible exact H2_) | exact H
     have Ny208 := Aside0.mk hy208
     clear hy208
     replace H := Option.bind_eq_some_iff.mp H
     obtain ⟨t211, A240, H⟩ := H
     replace H : (if y208.length + t211.length < 140737488355328 then ((some (y208 ++ t211 : List Int)).bind fun y214 => (if y214.length + t205.length < 140737488355328 then (some (y214 ++ t205)) else (none))) else (none)) = some r := H
     have A24 := Aside0.mk A240
     clear A240
     by_cases c25 : y208.length + t211.length < 140737488355328
     · rw [if_pos c25] at H
       have LMc25 := Aside0.mk c25
       clear c25
       obtain ⟨y214, hy214⟩ : ∃ y_ : List Int, y_ = (y208 ++ t211) := ⟨_, rfl⟩
       replace H : (if y214.length + t205.length < 140737488355328 then (some (y214 ++ t205)) else (none)) = some r := by first | (have H2_ := (Option.bind_some _ _).symm.trans H; rw [hy214]; with_reducible exact H2_) | exact H
       have Ny214 := Aside0.mk hy214
       clear hy214
       by_cases c26 : y214.length + t205.length < 140737488355328
       · rw [if_pos c26] at H
         have LMc26 := Aside0.mk c26
         clear c26
         obtain ⟨y217, hy217⟩ : ∃ y_ : List Int, y_ = (y214 ++ t205) := ⟨_, rfl⟩
         replace H : (some y217) = some r := by first | (rw [hy217]; with_reducible exact H) | exact H
         have Ny217 := Aside0.mk hy217
         clear hy217
         obtain rfl := Option.some.inj H
         simp only [Option.some.injEq, Prod.mk.injEq] at H
         obtain ⟨rfl⟩ := H
         go_enter Try.func11, Try.ntmps11
         try go_wp2_with (first | ((with_reducible refine gate_dst (N := 1) rfl ?_); refine box_event ?hg (N := 1) ?hd (cs := #[.int .u8 a0_0, .int .u64 a0_1, .int .i64 a0_2, .int .u32 a0_3, .int .u8 a0_4, .int .u16 a0_5, .int .u16 a0_6]) (t := 28) ?hr ?_; (case hd => rfl); (case hg => rfl); (case hr => first | (go_simp; done)); intro gb183 hg w27 hbox hb; have n0_ := Aside0.mk (below_step (by repeat (first | (with_reducible first | exact HB.out | apply below_drew1))) hb); have n1_ := Aside0.mk (hbox); have n2_ := Aside0.mk ((by rw [hg]; exact (below_size (by repeat (first | (with_reducible first | exact HB.out | apply below_drew1)))) : w.heap.size ≤ gb183)); have n3_ := Aside0.mk ((by rw [hg]; exact (below_size (by repeat (first | (with_reducible first | exact HB.out | apply below_drew1)))) : w.heap.size ≤ gb183)); clear HB; have HB := n0_; have BK183 := n1_; have GW183 := n2_; have GE183 := n3_; clear n0_ n1_ n2_ n3_; clear hb hbox hg; have hcz28_0 : w27.cell? ⟨gb183, 0, none⟩ = some (.int .u8 a0_0) := (blk_cell BK183.out 0).trans rfl; have hcz28_1 : w27.cell? ⟨gb183, 1, none⟩ = some (.int .u64 a0_1) := (blk_cell BK183.out 1).trans rfl; have hcz28_2 : w27.cell? ⟨gb183, 2, none⟩ = some (.int .i64 a0_2) := (blk_cell BK183.out 2).trans rfl; have hcz28_3 : w27.cell? ⟨gb183, 3, none⟩ = some (.int .u32 a0_3) := (blk_cell BK183.out 3).trans rfl; have hcz28_4 : w27.cell? ⟨gb183, 4, none⟩ = some (.int .u8 a0_4) := (blk_cell BK183.out 4).trans rfl; have hcz28_5 : w27.cell? ⟨gb183, 5, none⟩ = some (.int .u16 a0_5) := (blk_cell BK183.out 5).trans rfl; have hcz28_6 : w27.cell? ⟨gb183, 6, none⟩ = some (.int .u16 a0_6) := (blk_cell BK183.out 6).trans rfl; have hfz28_0 := blk_frozen BK183.out 0; have hfz28_1 := blk_frozen BK183.out 1; have hfz28_2 := blk_frozen BK183.out 2; have hfz28_3 := blk_frozen BK183.out 3; have hfz28_4 := blk_frozen BK183.out 4; have hfz28_5 := blk_frozen BK183.out 5; have hfz28_6 := blk_frozen BK183.out 6) | ((with_reducible refine gate_dst (N := 35) rfl ?_); refine Kd.R_lit (Kd.int .u64) _ 22 ?hg (N := 35) ?hd (xs := ([IntKind.u64.wrap (a0_2), IntKind.u64.wrap (a0_6)] : List Int)) (inner := [.int .u64 (IntKind.u64.wrap (a0_2)), .int .u64 (IntKind.u64.wrap (a0_6))]) (ok := fun _ => True) (okp := fun _ => True) ?hr ?hp (fun _ hk => hk) trivial (Below.refl _ _) (Nat.le_refl _) (by simp) ?_; (case hd => rfl); (case hg => rfl); (case hr => first | (go_simp; done)); (case hp => exact (Reps.one (show Kd.M (Kd.int .u64) _ _ _ (IntKind.u64.wrap (a0_2)) [.int .u64 (IntKind.u64.wrap (a0_2))] from rfl) (Reps.one (show Kd.M (Kd.int .u64) _ _ _ (IntKind.u64.wrap (a0_6)) [.int .u64 (IntKind.u64.wrap (a0_6))] from rfl) (Reps.none _ _)))); intro v203 w29 ho30 hb hg_ hnew_; clear hg_ hnew_; (first | rw [← Ny202.out] at ho30); have n0_ := Aside0.mk (Kd.R_lower ho30 (below_size (by repeat (first | (with_reducible first | exact HB.out | refine below_set ?_ GE183.out))))); have n1_ := Aside0.mk (blk_below (g := gb183) (o := .cells #[.int .u8 a0_0, .int .u64 a0_1, .int .i64 a0_2, .int .u32 a0_3, .int .u8 a0_4, .int .u16 a0_5, .int .u16 a0_6] 28 (0, 0)) (by exact BK183.out) hb); have n2_ := Aside0.mk (below_step (by repeat (first | (with_reducible first | exact HB.out | refine below_set ?_ GE183.out))) hb); clear BK183; clear HB; have HO204 := n0_; have BK183 := n1_; have HB := n2_; clear n0_ n1_ n2_; clear hb ho30; obtain ⟨Ao31, co31, eo31⟩ := Kd.R_slice HO204.out; subst eo31) | ((with_reducible refine gate_callee (f := 24) rfl ?_); refine goesL_ (some 36) rfl rfl Try.func24 (by kernel_rfl) rfl #[.slice Ao31 y202.length co31] rfl (by (try simp only [List.map_toArray, List.map_cons, List.map_nil]); first | rfl | (refine qa_arr ?_; (repeat' (first | rfl | refine qa_cons ?_ ?_ | refine qa_int ?_ | refine qa_agg ?_ | refine qa_arr ?_ | omega)); done)) ?_; (with_reducible refine (milestoneref01_Coins.calls k _ _ y202 t205 _ ?side1 ?side2 A23.out).mono ?_); (case side1 => repeat (first | exact (Kd.R_reads' HO204.out).2.2 | (with_reducible refine Kd.C_drew ?_))); (case side2 => exact (Kd.R_reads' HO204.out).2.1); rintro e w32 ⟨v206, rfl, ho0, hb⟩; refine ⟨_, rfl, ?_⟩; have n0_ := Aside0.mk (Kd.R_below (by exact HO204.out) hb); have n1_ := Aside0.mk (Kd.R_lower ho0 (below_size (by repeat (first | (with_reducible first | exact HB.out | refine below_set ?_ GE183.out))))); have n2_ := Aside0.mk (blk_below (g := gb183) (o := .cells #[.int .u8 a0_0, .int .u64 a0_1, .int .i64 a0_2, .int .u32 a0_3, .int .u8 a0_4, .int .u16 a0_5, .int .u16 a0_6] 28 (0, 0)) (by exact BK183.out) hb); have n3_ := Aside0.mk (below_step (by repeat (first | (with_reducible first | exact HB.out | refine below_set ?_ GE183.out))) hb); clear HO204; clear BK183; clear HB; have HO204 := n0_; have HO207 := n1_; have BK183 := n2_; have HB := n3_; clear n0_ n1_ n2_ n3_; (try clear hb); (try clear hb2); (try clear hk); (try clear hi); (try clear ho0); obtain ⟨Ao33, co33, eo33⟩ := Kd.R_slice HO207.out; subst eo33))
         have n0_ := Aside0.mk (Kd.R_drew HO204.out)
         have n1_ := Aside0.mk (Kd.R_drew HO207.out)
         have n2_ := Aside0.mk (blk_drew BK183.out)
         have n3_ := Aside0.mk (below_drew1 HB.out)
         clear HO204
         clear HO207
         clear BK183
         clear HB
         have HO204 := n0_
         have HO207 := n1_
         have BK183 := n2_
         have HB := n3_
         clear n0_ n1_ n2_ n3_
         refine start_ (n := 11) (S := fun w' => w'.cell? ⟨gb183, 0, none⟩ = some (.int .u8 a0_0) ∧ w'.cell? ⟨gb183, 1, none⟩ = some (.int .u64 a0_1) ∧ w'.cell? ⟨gb183, 2, none⟩ = some (.int .i64 a0_2) ∧ w'.cell? ⟨gb183, 3, none⟩ = some (.int .u32 a0_3) ∧ w'.cell? ⟨gb183, 4, none⟩ = some (.int .u8 a0_4) ∧ w'.cell? ⟨gb183, 5, none⟩ = some (.int .u16 a0_5) ∧ w'.cell? ⟨gb183, 6, none⟩ = some (.int .u16 a0_6)) (ds := []) #[false, false, false, false, false, false, false, false, false, false, false] (by kernel_rfl) rfl rfl ⟨(blk_cell BK183.out 0).trans rfl, (blk_cell BK183.out 1).trans rfl, (blk_cell BK183.out 2).trans rfl, (blk_cell BK183.out 3).trans rfl, (blk_cell BK183.out 4).trans rfl, (blk_cell BK183.out 5).trans rfl, (blk_cell BK183.out 6).trans rfl⟩ (fun hHeld => ?_); refine with_tabW milestonelaw13_bytes.tab10 milestonelaw13_bytes.bits10 (fun HT_ HW_ => ?_)
         generalize w32.drew = w34 at HO204 HO207 BK183 HB hHeld ⊢
         refine pure_ (i := 0) (N := some 58) (v := ?_) (a' := ?_) #[true, false, false, false, false, false, false, false, false, false, false] rfl rfl (any_of HT_.out (by kernel_rfl)) (fun _ _ _ h => h) (Or.inl ⟨by rfl, ?_⟩) ?_ ?_
         rotate_left
         · intro w'
           go_simp
           with_reducible rfl
         rotate_left
         · simp only [Act.put, List.setIfInBounds_toArray, List.set_cons_zero, List.set_cons_succ, i64_w, i32_w]
           rfl
         refine pure_ (i := 3) (N := some 61) (v := ?_) (a' := ?_) #[true, false, false, true, false, false, false, false, false, false, false] rfl rfl (any_of HT_.out (by kernel_rfl)) (fun _ _ _ h => h) (Or.inl ⟨by rfl, ?_⟩) ?_ ?_
         rotate_left
         · intro w'
           go_simp
           with_reducible rfl
         rotate_left
         · simp only [Act.put, List.setIfInBounds_toArray, List.set_cons_zero, List.set_cons_succ, i64_w, i32_w]
           rfl
         refine pure_ (i := 4) (N := some 62) (v := ?_) (a' := ?_) #[true, false, false, true, true, false, false, false, false, false, false] rfl rfl (any_of HT_.out (by kernel_rfl)) (fun _ _ _ h => h) (Or.inl ⟨by rfl, ?_⟩) ?_ ?_
         rotate_left
         · intro w'
           go_simp
           with_reducible rfl
         rotate_left
         · simp only [Act.put, List.setIfInBounds_toArray, List.set_cons_zero, List.set_cons_succ, i64_w, i32_w]
           rfl
         refine pure_ (i := 5) (N := some 63) (v := ?_) (a' := ?_) #[true, false, false, true, true, true, false, false, false, false, false] rfl rfl (any_of HT_.out (by kernel_rfl)) (fun _ _ _ h => h) (Or.inl ⟨by rfl, ?_⟩) ?_ ?_
         rotate_left
         · intro w'
           go_simp
           with_reducible rfl
         rotate_left
         · simp only [Act.put, List.setIfInBounds_toArray, List.set_cons_zero, List.set_cons_succ, i64_w, i32_w]
           rfl
         refine pure_ (i := 8) (N := some 66) (v := ?_) (a' := ?_) #[true, false, false, true, true, true, false, false, true, false, false] rfl rfl (any_of HT_.out (by kernel_rfl)) (fun _ _ _ h => h) (Or.inl ⟨by rfl, ?_⟩) ?_ ?_
         rotate_left
         · intro w'
           go_simp
           with_reducible rfl
         rotate_left
         · simp only [Act.put, List.setIfInBounds_toArray, List.set_cons_zero, List.set_cons_succ, i64_w, i32_w]
           rfl
         refine take_ (i := 1) (N := some 59) (v := ?_) (a' := ?_) #[true, true, false, true, true, true, false, false, true, false, false] rfl rfl (take_ofW HT_.out HW_.out (by kernel_rfl)) (fun _ _ _ h => h) (Or.inl ⟨by rfl, ?_⟩) hHeld ?_ ?_
         rotate_left
         · rintro w' ⟨s0, s1, s2, s3, s4, s5, s6⟩
           go_simp
           with_reducible rfl
         rotate_left
         · simp only [Act.put, List.setIfInBounds_toArray, List.set_cons_zero, List.set_cons_succ, i64_w, i32_w]
           rfl
         refine join_ (σ := Value × Value) 3 #[true, true, true, true, true, true, true, false, true, false, false] (fun s_ => [(60, s_.1), (64, s_.2)]) (fun s_ w' => (w'.cell? ⟨gb183, 0, none⟩ = some (.int .u8 a0_0) ∧ w'.cell? ⟨gb183, 1, none⟩ = some (.int .u64 a0_1) ∧ w'.cell? ⟨gb183, 2, none⟩ = some (.int .i64 a0_2) ∧ w'.cell? ⟨gb183, 3, none⟩ = some (.int .u32 a0_3) ∧ w'.cell? ⟨gb183, 4, none⟩ = some (.int .u8 a0_4) ∧ w'.cell? ⟨gb183, 5, none⟩ = some (.int .u16 a0_5) ∧ w'.cell? ⟨gb183, 6, none⟩ = some (.int .u16 a0_6)) ∧ (Kd.R (Kd.int .u64) 22 w' w.heap.size (fun _ => True) (.slice Ao31 y202.length co31) y202) ∧ (Kd.R (Kd.int .u8) 5 w' w.heap.size (fun k_ => some k_ ≠ (s_.1 : Value).ownBlock ∧ some k_ ≠ (s_.2 : Value).ownBlock) (.slice Ao33 t205.length co33) t205) ∧ (Kd.R (Kd.int .u8) 5 w' w.heap.size (fun k_ => some k_ ≠ (.slice Ao33 t205.length co33 : Value).ownBlock ∧ some k_ ≠ (s_.2 : Value).ownBlock) s_.1 y208) ∧ (Kd.R (Kd.int .u8) 5 w' w.heap.size (fun k_ => some k_ ≠ (.slice Ao33 t205.length co33 : Value).ownBlock ∧ some k_ ≠ (s_.1 : Value).ownBlock) s_.2 t211) ∧ (w'.heap[gb183]? = some (.cells #[.int .u8 a0_0, .int .u64 a0_1, .int .i64 a0_2, .int .u32 a0_3, .int .u8 a0_4, .int .u16 a0_5, .int .u16 a0_6] 28 (0, 0))) ∧ (Below w.heap.size w w')) ?_ ?_
         rotate_left
         · intro hCont
           refine two_ (i := 2) (j := 6) (Ni := some 60) (Nj := some 64) #[true, true, true, true, true, true, false, false, true, false, false] #[true, true, false, true, true, true, true, false, true, false, false] rfl rfl rfl rfl (two_of HT_.out (by kernel_rfl)) (by decide) (by decide) (fun K hK => ?_) (fun K hK => ?_)
           · skip
             refine Kd.R_lit_step (Kd.int .u8) _ 5 ?hg (N := 60) ?hd (xs := ([a0_0] : List Int)) (inner := [.int .u8 a0_0]) (ok := fun _ => True) (okp := fun _ => True) ?hr ?hp (fun _ hk => hk) trivial (Below.refl _ _) (Nat.le_refl _) (by simp) ?_; (case hd => rfl); (case hg => rfl); (case hr => first | (go_simp; done)); (case hp => exact (Reps.one (show Kd.M (Kd.int .u8) _ _ _ a0_0 [.int .u8 a0_0] from rfl) (Reps.none _ _)))
             intro v209 w35 ho36 hb hg_ hnew_
             clear hg_ hnew_
             (first | rw [← Ny208.out] at ho36)
             have n0_ := Aside0.mk (Kd.R_below (by exact HO204.out) hb)
             have n1_ := Aside0.mk (Kd.R_elder' (by exact HO207.out) (Kd.R_base ho36) hb)
             have n2_ := Aside0.mk (Kd.R_lower (Kd.R_new' ho36 (Kd.R_lt (by exact HO207.out))) (below_size (by repeat (first | (with_reducible first | exact HB.out | refine below_set ?_ GE183.out)))))
             have n3_ := Aside0.mk (blk_below (g := gb183) (o := .cells #[.int .u8 a0_0, .int .u64 a0_1, .int .i64 a0_2, .int .u32 a0_3, .int .u8 a0_4, .int .u16 a0_5, .int .u16 a0_6] 28 (0, 0)) (by exact BK183.out) hb)
             have n4_ := Aside0.mk (below_step (by repeat (first | (with_reducible first | exact HB.out | refine below_set ?_ GE183.out))) hb)
             clear HO204
             clear HO207
             clear BK183
             clear HB
             have HO204 := n0_
             have HO207 := n1_
             have HO210 := n2_
             have BK183 := n3_
             have HB := n4_
             clear n0_ n1_ n2_ n3_ n4_
             clear hb ho36
             refine hK.out _ _ ⟨(blk_cell BK183.out 0).trans rfl, (blk_cell BK183.out 1).trans rfl, (blk_cell BK183.out 2).trans rfl, (blk_cell BK183.out 3).trans rfl, (blk_cell BK183.out 4).trans rfl, (blk_cell BK183.out 5).trans rfl, (blk_cell BK183.out 6).trans rfl⟩ (fun hHeld => ?_)
             clear hK K
             refine norm_ (a' := ?_) ?_ ?_
             rotate_left
             · show Act.put _ (some 60) _ = _
               simp only [Act.put, List.setIfInBounds_toArray, List.set_cons_zero, List.set_cons_succ, i64_w, i32_w]
               rfl
             refine one_ (i := 6) (N := some 64) #[true, true, true, true, true, true, true, false, true, false, false] rfl rfl (one_of HT_.out (by kernel_rfl)) (by decide) (fun K hK => ?_)
             refine goes_ Try.func15 (by kernel_rfl) rfl #[.int .u64 (IntKind.u64.wrap ((t205.length : Int)))] (by rfl) rfl rfl (by (try simp only [List.map_toArray, List.map_cons, List.map_nil]); first | rfl) ?_
             with_reducible refine (milestoneref01_Coin.calls k (IntKind.u64.wrap ((t205.length : Int))) t211 _ A24.out).mono ?_
             rintro e w37 ⟨v212, rfl, ho0, hb⟩
             refine ⟨_, rfl, ?_⟩
             have n0_ := Aside0.mk (Kd.R_below (by exact HO204.out) hb)
             have n1_ := Aside0.mk (Kd.R_elder' (by exact HO207.out) (Kd.R_base ho0) hb)
             have n2_ := Aside0.mk (Kd.R_elder' (by exact HO210.out) (Kd.R_base ho0) hb)
             have n3_ := Aside0.mk (Kd.R_lower (Kd.R_new' (Kd.R_new' ho0 (Kd.R_lt (by exact HO207.out))) (Kd.R_lt (by exact HO210.out))) (below_size (by repeat (first | (with_reducible first | exact HB.out | refine below_set ?_ GE183.out)))))
             have n4_ := Aside0.mk (blk_below (g := gb183) (o := .cells #[.int .u8 a0_0, .int .u64 a0_1, .int .i64 a0_2, .int .u32 a0_3, .int .u8 a0_4, .int .u16 a0_5, .int .u16 a0_6] 28 (0, 0)) (by exact BK183.out) hb)
             have n5_ := Aside0.mk (below_step (by repeat (first | (with_reducible first | exact HB.out | refine below_set ?_ GE183.out))) hb)
             clear HO204
             clear HO207
             clear HO210
             clear BK183
             clear HB
             have HO204 := n0_
             have HO207 := n1_
             have HO210 := n2_
             have HO213 := n3_
             have BK183 := n4_
             have HB := n5_
             clear n0_ n1_ n2_ n3_ n4_ n5_
             (try clear hb)
             (try clear hb2)
             (try clear hk)
             (try clear hi)
             (try clear ho0)
             refine hK.out _ _ ⟨(blk_cell BK183.out 0).trans rfl, (blk_cell BK183.out 1).trans rfl, (blk_cell BK183.out 2).trans rfl, (blk_cell BK183.out 3).trans rfl, (blk_cell BK183.out 4).trans rfl, (blk_cell BK183.out 5).trans rfl, (blk_cell BK183.out 6).trans rfl⟩ (fun hHeld => ?_)
             clear hK K
             refine norm_ (a' := ?_) ?_ ?_
             rotate_left
             · show Act.put _ (some 64) _ = _
               simp only [Act.put, List.setIfInBounds_toArray, List.set_cons_zero, List.set_cons_succ, i64_w, i32_w]
               rfl
             exact norm_ (by simp only [putAll, Act.put, List.setIfInBounds_toArray, List.set_cons_zero, List.set_cons_succ]) (hCont (v209, v212) _ ⟨hHeld, (by exact HO204.out), (by exact Kd.R_mono HO207.out (fun _ hk => ⟨hk.1.2, hk.2⟩)), (by exact Kd.R_mono HO210.out (fun _ hk => ⟨hk.1.2, hk.2⟩)), (by exact Kd.R_mono HO213.out (fun _ hk => ⟨hk.1.2, hk.2⟩)), (by exact BK183.out), (by repeat (first | (with_reducible first | exact HB.out | refine below_set ?_ GE183.out)))⟩)
           · skip
             refine goes_ Try.func15 (by kernel_rfl) rfl #[.int .u64 (IntKind.u64.wrap ((t205.length : Int)))] (by rfl) rfl rfl (by (try simp only [List.map_toArray, List.map_cons, List.map_nil]); first | rfl) ?_
             with_reducible refine (milestoneref01_Coin.calls k (IntKind.u64.wrap ((t205.length : Int))) t211 _ A24.out).mono ?_
             rintro e w35 ⟨v212, rfl, ho0, hb⟩
             refine ⟨_, rfl, ?_⟩
             have n0_ := Aside0.mk (Kd.R_below (by exact HO204.out) hb)
             have n1_ := Aside0.mk (Kd.R_elder' (by exact HO207.out) (Kd.R_base ho0) hb)
             have n2_ := Aside0.mk (Kd.R_lower (Kd.R_new' ho0 (Kd.R_lt (by exact HO207.out))) (below_size (by repeat (first | (with_reducible first | exact HB.out | refine below_set ?_ GE183.out)))))
             have n3_ := Aside0.mk (blk_below (g := gb183) (o := .cells #[.int .u8 a0_0, .int .u64 a0_1, .int .i64 a0_2, .int .u32 a0_3, .int .u8 a0_4, .int .u16 a0_5, .int .u16 a0_6] 28 (0, 0)) (by exact BK183.out) hb)
             have n4_ := Aside0.mk (below_step (by repeat (first | (with_reducible first | exact HB.out | refine below_set ?_ GE183.out))) hb)
             clear HO204
             clear HO207
             clear BK183
             clear HB
             have HO204 := n0_
             have HO207 := n1_
             have HO213 := n2_
             have BK183 := n3_
             have HB := n4_
             clear n0_ n1_ n2_ n3_ n4_
             (try clear hb)
             (try clear hb2)
             (try clear hk)
             (try clear hi)
             (try clear ho0)
             refine hK.out _ _ ⟨(blk_cell BK183.out 0).trans rfl, (blk_cell BK183.out 1).trans rfl, (blk_cell BK183.out 2).trans rfl, (blk_cell BK183.out 3).trans rfl, (blk_cell BK183.out 4).trans rfl, (blk_cell BK183.out 5).trans rfl, (blk_cell BK183.out 6).trans rfl⟩ (fun hHeld => ?_)
             clear hK K
             refine norm_ (a' := ?_) ?_ ?_
             rotate_left
             · show Act.put _ (some 64) _ = _
               simp only [Act.put, List.setIfInBounds_toArray, List.set_cons_zero, List.set_cons_succ, i64_w, i32_w]
               rfl
             refine one_ (i := 2) (N := some 60) #[true, true, true, true, true, true, true, false, true, false, false] rfl rfl (one_of HT_.out (by kernel_rfl)) (by decide) (fun K hK => ?_)
             refine Kd.R_lit_step (Kd.int .u8) _ 5 ?hg (N := 60) ?hd (xs := ([a0_0] : List Int)) (inner := [.int .u8 a0_0]) (ok := fun _ => True) (okp := fun _ => True) ?hr ?hp (fun _ hk => hk) trivial (Below.refl _ _) (Nat.le_refl _) (by simp) ?_; (case hd => rfl); (case hg => rfl); (case hr => first | (go_simp; done)); (case hp => exact (Reps.one (show Kd.M (Kd.int .u8) _ _ _ a0_0 [.int .u8 a0_0] from rfl) (Reps.none _ _)))
             intro v209 w36 ho37 hb hg_ hnew_
             clear hg_ hnew_
             (first | rw [← Ny208.out] at ho37)
             have n0_ := Aside0.mk (Kd.R_below (by exact HO204.out) hb)
             have n1_ := Aside0.mk (Kd.R_elder' (by exact HO207.out) (Kd.R_base ho37) hb)
             have n2_ := Aside0.mk (Kd.R_elder' (by exact HO213.out) (Kd.R_base ho37) hb)
             have n3_ := Aside0.mk (Kd.R_lower (Kd.R_new' (Kd.R_new' ho37 (Kd.R_lt (by exact HO207.out))) (Kd.R_lt (by exact HO213.out))) (below_size (by repeat (first | (with_reducible first | exact HB.out | refine below_set ?_ GE183.out)))))
             have n4_ := Aside0.mk (blk_below (g := gb183) (o := .cells #[.int .u8 a0_0, .int .u64 a0_1, .int .i64 a0_2, .int .u32 a0_3, .int .u8 a0_4, .int .u16 a0_5, .int .u16 a0_6] 28 (0, 0)) (by exact BK183.out) hb)
             have n5_ := Aside0.mk (below_step (by repeat (first | (with_reducible first | exact HB.out | refine below_set ?_ GE183.out))) hb)
             clear HO204
             clear HO207
             clear HO213
             clear BK183
             clear HB
             have HO204 := n0_
             have HO207 := n1_
             have HO213 := n2_
             have HO210 := n3_
             have BK183 := n4_
             have HB := n5_
             clear n0_ n1_ n2_ n3_ n4_ n5_
             clear hb ho37
             refine hK.out _ _ ⟨(blk_cell BK183.out 0).trans rfl, (blk_cell BK183.out 1).trans rfl, (blk_cell BK183.out 2).trans rfl, (blk_cell BK183.out 3).trans rfl, (blk_cell BK183.out 4).trans rfl, (blk_cell BK183.out 5).trans rfl, (blk_cell BK183.out 6).trans rfl⟩ (fun hHeld => ?_)
             clear hK K
             refine norm_ (a' := ?_) ?_ ?_
             rotate_left
             · show Act.put _ (some 60) _ = _
               simp only [Act.put, List.setIfInBounds_toArray, List.set_cons_zero, List.set_cons_succ, i64_w, i32_w]
               rfl
             exact norm_ (by simp only [putAll, Act.put, List.setIfInBounds_toArray, List.set_cons_zero, List.set_cons_succ]) (hCont (v209, v212) _ ⟨hHeld, (by exact HO204.out), (by exact Kd.R_mono HO207.out (fun _ hk => ⟨hk.2, hk.1.2⟩)), (by exact Kd.R_mono HO210.out (fun _ hk => ⟨hk.1.2, hk.2⟩)), (by exact Kd.R_mono HO213.out (fun _ hk => ⟨hk.1.2, hk.2⟩)), (by exact BK183.out), (by repeat (first | (with_reducible first | exact HB.out | refine below_set ?_ GE183.out)))⟩)
         rintro ⟨v209, v212⟩ w38 ⟨hS_, h0_, h1_, h2_, h3_, h4_, h5_⟩
         have n0_ : Aside0 (Kd.R (Kd.int .u64) 22 w38 w.heap.size (fun _ => True) (.slice Ao31 y202.length co31) y202) := ⟨h0_⟩
         have n1_ : Aside0 (Kd.R (Kd.int .u8) 5 w38 w.heap.size (fun k_ => some k_ ≠ (v209 : Value).ownBlock ∧ some k_ ≠ (v212 : Value).ownBlock) (.slice Ao33 t205.length co33) t205) := ⟨h1_⟩
         have n2_ : Aside0 (Kd.R (Kd.int .u8) 5 w38 w.heap.size (fun k_ => some k_ ≠ (.slice Ao33 t205.length co33 : Value).ownBlock ∧ some k_ ≠ (v212 : Value).ownBlock) v209 y208) := ⟨h2_⟩
         have n3_ : Aside0 (Kd.R (Kd.int .u8) 5 w38 w.heap.size (fun k_ => some k_ ≠ (.slice Ao33 t205.length co33 : Value).ownBlock ∧ some k_ ≠ (v209 : Value).ownBlock) v212 t211) := ⟨h3_⟩
         have n4_ : Aside0 (w38.heap[gb183]? = some (.cells #[.int .u8 a0_0, .int .u64 a0_1, .int .i64 a0_2, .int .u32 a0_3, .int .u8 a0_4, .int .u16 a0_5, .int .u16 a0_6] 28 (0, 0))) := ⟨h4_⟩
         have n5_ : Aside0 (Below w.heap.size w w38) := ⟨h5_⟩
         clear HO204
         clear HO207
         clear BK183
         clear HB
         clear h0_ h1_ h2_ h3_ h4_ h5_
         have HO204 := n0_
         have HO207 := n1_
         have HO210 := n2_
         have HO213 := n3_
         have BK183 := n4_
         have HB := n5_
         clear n0_ n1_ n2_ n3_ n4_ n5_
         have hHeld : w38.cell? ⟨gb183, 0, none⟩ = some (.int .u8 a0_0) ∧ w38.cell? ⟨gb183, 1, none⟩ = some (.int .u64 a0_1) ∧ w38.cell? ⟨gb183, 2, none⟩ = some (.int .i64 a0_2) ∧ w38.cell? ⟨gb183, 3, none⟩ = some (.int .u32 a0_3) ∧ w38.cell? ⟨gb183, 4, none⟩ = some (.int .u8 a0_4) ∧ w38.cell? ⟨gb183, 5, none⟩ = some (.int .u16 a0_5) ∧ w38.cell? ⟨gb183, 6, none⟩ = some (.int .u16 a0_6) := hS_
         obtain ⟨Ao40, co40, eo40⟩ := Kd.R_slice HO213.out
         (first | subst eo40)
         refine norm_ (a' := ?_) ?_ ?_
         rotate_left
         · simp only [putAll, Act.put, List.setIfInBounds_toArray, List.set_cons_zero, List.set_cons_succ]
           rfl
         refine one_ (i := 7) (N := some 65) #[true, true, true, true, true, true, true, true, true, false, false] rfl rfl (one_of HT_.out (by kernel_rfl)) (by decide) (fun K hK => ?_)
         refine Kd.R_append_rows_step (Kd.int .u8) (w0 := w) w.heap.size (by rfl) (.tmp 60) (.tmp 64) 30 5 (.int .u8 0) 1 rfl Try.underlying30 info5 rfl (by decide) (by omega) v209 y208 t211 _ _ _ (fun k_ => some k_ ≠ (.slice Ao33 t205.length co33 : Value).ownBlock ∧ some k_ ≠ (.slice Ao40 t211.length co40 : Value).ownBlock) (fun _ => False) rfl rfl ?aO ?aR (fun _ _ h => h) (fun _ h => h.elim) ?aF ?aB ?aS ?aL ?_
         (case aR => repeat (first | exact (Kd.R_reads' HO213.out).2.2 | (with_reducible refine Kd.C_drew ?_)))
         (case aB => exact (by repeat (first | (with_reducible first | exact HB.out | refine below_set ?_ GE183.out))))
         (case aF => exact (fun k_ hk => ⟨Kd.fresh' (Kd.R_lt (by exact HO207.out)) k_ hk, Kd.fresh' (Kd.R_lt (by exact HO213.out)) k_ hk⟩))
         (case aO => exact (by exact HO210.out))
         (case aS => exact (below_size (by repeat (first | (with_reducible first | exact HB.out | refine below_set ?_ GE183.out)))))
         (case aL => have := LMc25.out; omega)
         intro v215 w39 ho hb hg hat
         rw [← Ny214.out] at ho
         have n0_ := Aside0.mk (blk_grown (g := gb183) (o := .cells #[.int .u8 a0_0, .int .u64 a0_1, .int .i64 a0_2, .int .u32 a0_3, .int .u8 a0_4, .int .u16 a0_5, .int .u16 a0_6] 28 (0, 0)) (by exact BK183.out) hg (Kd.R_ne HO210.out BK183.out (by decide)))
         have n1_ := Aside0.mk (Kd.R_over' (by exact HO204.out) (Kd.R_typed (by exact HO210.out)) (by decide) hg)
         have n2_ := Aside0.mk (Kd.R_after (ok := (fun k_ => some k_ ≠ (.slice Ao40 t211.length co40 : Value).ownBlock)) (by exact Kd.R_mono HO207.out (fun _ hk => ⟨hk.2, hk.1⟩)) hg hat)
         have n3_ := Aside0.mk (Kd.R_after (ok := (fun k_ => some k_ ≠ (.slice Ao33 t205.length co33 : Value).ownBlock)) (by exact HO213.out) hg hat)
         have n4_ := Aside0.mk (hb)
         have n5_ := Aside0.mk (ho)
         clear BK183
         clear HO204
         clear HO207
         clear HO213
         clear HB
         clear HO210
         have BK183 := n0_
         have HO204 := n1_
         have HO207 := n2_
         have HO213 := n3_
         have HB := n4_
         have HO216 := n5_
         clear n0_ n1_ n2_ n3_ n4_ n5_
         clear ho hb hg hat
         refine hK.out _ _ ⟨(blk_cell BK183.out 0).trans rfl, (blk_cell BK183.out 1).trans rfl, (blk_cell BK183.out 2).trans rfl, (blk_cell BK183.out 3).trans rfl, (blk_cell BK183.out 4).trans rfl, (blk_cell BK183.out 5).trans rfl, (blk_cell BK183.out 6).trans rfl⟩ (fun hHeld => ?_)
         clear hK K
         refine norm_ (a' := ?_) ?_ ?_
         rotate_left
         · show Act.put _ (some 65) _ = _
           simp only [Act.put, List.setIfInBounds_toArray, List.set_cons_zero, List.set_cons_succ, i64_w, i32_w]
           rfl
         refine one_ (i := 9) (N := some 67) #[true, true, true, true, true, true, true, true, true, true, false] rfl rfl (one_of HT_.out (by kernel_rfl)) (by decide) (fun K hK => ?_)
         refine Kd.R_append_rows_step (Kd.int .u8) (w0 := w) w.heap.size (by rfl) (.tmp 65) (.tmp 66) 30 5 (.int .u8 0) 1 rfl Try.underlying30 info5 rfl (by decide) (by omega) v215 y214 t205 _ _ _ (fun k_ => some k_ ≠ (.slice Ao33 t205.length co33 : Value).ownBlock ∧ some k_ ≠ (.slice Ao40 t211.length co40 : Value).ownBlock) (fun _ => False) rfl rfl ?aO ?aR (fun _ _ h => h) (fun _ h => h.elim) ?aF ?aB ?aS ?aL ?_
         (case aR => repeat (first | exact (Kd.R_reads' HO207.out).2.2 | (with_reducible refine Kd.C_drew ?_)))
         (case aB => exact (by repeat (first | (with_reducible first | exact HB.out | refine below_set ?_ GE183.out))))
         (case aF => exact (fun k_ hk => ⟨Kd.fresh' (Kd.R_lt (by exact HO207.out)) k_ hk, Kd.fresh' (Kd.R_lt (by exact HO213.out)) k_ hk⟩))
         (case aO => exact (by exact HO216.out))
         (case aS => exact (below_size (by repeat (first | (with_reducible first | exact HB.out | refine below_set ?_ GE183.out)))))
         (case aL => have := LMc26.out; omega)
         intro v218 w41 ho hb hg hat
         rw [← Ny217.out] at ho
         have n0_ := Aside0.mk (blk_grown (g := gb183) (o := .cells #[.int .u8 a0_0, .int .u64 a0_1, .int .i64 a0_2, .int .u32 a0_3, .int .u8 a0_4, .int .u16 a0_5, .int .u16 a0_6] 28 (0, 0)) (by exact BK183.out) hg (Kd.R_ne HO216.out BK183.out (by decide)))
         have n1_ := Aside0.mk (Kd.R_over' (by exact HO204.out) (Kd.R_typed (by exact HO216.out)) (by decide) hg)
         have n2_ := Aside0.mk (Kd.R_after (ok := (fun k_ => some k_ ≠ (.slice Ao40 t211.length co40 : Value).ownBlock)) (by exact HO207.out) hg hat)
         have n3_ := Aside0.mk (Kd.R_after (ok := (fun k_ => some k_ ≠ (.slice Ao33 t205.length co33 : Value).ownBlock)) (by exact HO213.out) hg hat)
         have n4_ := Aside0.mk (hb)
         have n5_ := Aside0.mk (ho)
         clear BK183
         clear HO204
         clear HO207
         clear HO213
         clear HB
         clear HO216
         have BK183 := n0_
         have HO204 := n1_
         have HO207 := n2_
         have HO213 := n3_
         have HB := n4_
         have HO219 := n5_
         clear n0_ n1_ n2_ n3_ n4_ n5_
         clear ho hb hg hat
         refine hK.out _ _ ⟨(blk_cell BK183.out 0).trans rfl, (blk_cell BK183.out 1).trans rfl, (blk_cell BK183.out 2).trans rfl, (blk_cell BK183.out 3).trans rfl, (blk_cell BK183.out 4).trans rfl, (blk_cell BK183.out 5).trans rfl, (blk_cell BK183.out 6).trans rfl⟩ (fun hHeld => ?_)
         clear hK K
         refine norm_ (a' := ?_) ?_ ?_
         rotate_left
         · show Act.put _ (some 67) _ = _
           simp only [Act.put, List.setIfInBounds_toArray, List.set_cons_zero, List.set_cons_succ, i64_w, i32_w]
           rfl
         refine pure_ (i := 10) (N := some 2) (v := ?_) (a' := ?_) #[true, true, true, true, true, true, true, true, true, true, true] rfl rfl (any_of HT_.out (by kernel_rfl)) (fun _ _ _ h => h) (Or.inl ⟨by rfl, ?_⟩) ?_ ?_
         rotate_left
         · intro w'
           go_simp
           with_reducible rfl
         rotate_left
         · simp only [Act.put, List.setIfInBounds_toArray, List.set_cons_zero, List.set_cons_succ, i64_w, i32_w]
           rfl
         refine done_ (done_of HT_.out (by kernel_rfl)) ?_
         try go_wp2
         go_ret
         exact ⟨_, by first | rfl | (simp [*, errW_none, errW_some] <;> rfl), by exact Kd.R_mono HO219.out (fun _ hk => trivial), by repeat (first | (with_reducible first | exact HB.out | refine below_set ?_ GE183.out))⟩
       · rw [if_neg c26] at H
         exact absurd H (by simp)
     · rw [if_neg c25] at H
       exact absurd H (by simp)
   · rw [if_neg c22] at H
     have c22b0 : (a0_0 == 2) = false := beq_eq_false_iff_ne.mpr c22
     have c22b1 : (a0_0 != 2) = true := bne_iff_ne.mpr c22
     by_cases c42 : a0_0 = 3
     · rw [if_pos c42] at H
       have c42b0 : (a0_0 == 3) = true := beq_iff_eq.mpr c42
       have c42b1 : (a0_0 != 3) = false := bne_eq_false_iff_eq.mpr c42
       clear c42
       obtain ⟨y220, hy220⟩ : ∃ y_ : List Int, y_ = (([IntKind.u64.wrap (a0_2), IntKind.u64.wrap (a0_3), IntKind.u64.wrap (a0_4), IntKind.u64.wrap (a0_5), IntKind.u64.wrap (a0_6)] : List Int)) := ⟨_, rfl⟩
       replace H : ((milestoneref01_Coins.f k y220).bind fun t223 => ((some (([a0_0] : List Int) : List Int)).bind fun y226 => ((milestoneref01_Coin.f k (IntKind.u64.wrap ((t223.length : Int)))).bind fun t229 => (if y226.length + t229.length < 140737488355328 then ((some (y226 ++ t229 : List Int)).bind fun y232 => (if y232.length + t223.length < 140737488355328 then (some (y232 ++ t223)) else (none))) else (none))))) = some r := by first | (rw [hy220]; with_reducible exact H) | exact H
       have Ny220 := Aside0.mk hy220
       clear hy220
       replace H := Option.bind_eq_some_iff.mp H
       obtain ⟨t223, A430, H⟩ := H
       replace H : ((some (([a0_0] : List Int) : List Int)).bind fun y226 => ((milestoneref01_Coin.f k (IntKind.u64.wrap ((t223.length : Int)))).bind fun t229 => (if y226.length + t229.length < 140737488355328 then ((some (y226 ++ t229 : List Int)).bind fun y232 => (if y232.length + t223.length < 140737488355328 then (some (y232 ++ t223)) else (none))) else (none)))) = some r := H
       have A43 := Aside0.mk A430
       clear A430
       obtain ⟨y226, hy226⟩ : ∃ y_ : List Int, y_ = (([a0_0] : List Int)) := ⟨_, rfl⟩
       replace H : ((milestoneref01_Coin.f k (IntKind.u64.wrap ((t223.length : Int)))).bind fun t229 => (if y226.length + t229.length < 140737488355328 then ((some (y226 ++ t229 : List Int)).bind fun y232 => (if y232.length + t223.length < 140737488355328 then (some (y232 ++ t223)) else (none))) else (none))) = some r := by first | (have H2_ := (Option.bind_some _ _).symm.trans H; rw [hy226]; with_reducible exact H2_) | exact H
       have Ny226 := Aside0.mk hy226
       clear hy226
       replace H := Option.bind_eq_some_iff.mp H
       obtain ⟨t229, A440, H⟩ := H
       replace H : (if y226.length + t229.length < 140737488355328 then ((some (y226 ++ t229 : List Int)).bind fun y232 => (if y232.length + t223.length < 140737488355328 then (some (y232 ++ t223)) else (none))) else (none)) = some r := H
       have A44 := Aside0.mk A440
       clear A440
       by_cases c45 : y226.length + t229.length < 140737488355328
       · rw [if_pos c45] at H
         have LMc45 := Aside0.mk c45
         clear c45
         obtain ⟨y232, hy232⟩ : ∃ y_ : List Int, y_ = (y226 ++ t229) := ⟨_, rfl⟩
         replace H : (if y232.length + t223.length < 140737488355328 then (some (y232 ++ t223)) else (none)) = some r := by first | (have H2_ := (Option.bind_some _ _).symm.trans H; rw [hy232]; with_reducible exact H2_) | exact H
         have Ny232 := Aside0.mk hy232
         clear hy232
         by_cases c46 : y232.length + t223.length < 140737488355328
         · rw [if_pos c46] at H
           have LMc46 := Aside0.mk c46
           clear c46
           obtain ⟨y235, hy235⟩ : ∃ y_ : List Int, y_ = (y232 ++ t223) := ⟨_, rfl⟩
           replace H : (some y235) = some r := by first | (rw [hy235]; with_reducible exact H) | exact H
           have Ny235 := Aside0.mk hy235
           clear hy235
           obtain rfl := Option.some.inj H
           simp only [Option.some.injEq, Prod.mk.injEq] at H
           obtain ⟨rfl⟩ := H
           go_enter Try.func11, Try.ntmps11
           try go_wp2_with (first | ((with_reducible refine gate_dst (N := 1) rfl ?_); refine box_event ?hg (N := 1) ?hd (cs := #[.int .u8 a0_0, .int .u64 a0_1, .int .i64 a0_2, .int .u32 a0_3, .int .u8 a0_4, .int .u16 a0_5, .int .u16 a0_6]) (t := 28) ?hr ?_; (case hd => rfl); (case hg => rfl); (case hr => first | (go_simp; done)); intro gb183 hg w47 hbox hb; have n0_ := Aside0.mk (below_step (by repeat (first | (with_reducible first | exact HB.out | apply below_drew1))) hb); have n1_ := Aside0.mk (hbox); have n2_ := Aside0.mk ((by rw [hg]; exact (below_size (by repeat (first | (with_reducible first | exact HB.out | apply below_drew1)))) : w.heap.size ≤ gb183)); have n3_ := Aside0.mk ((by rw [hg]; exact (below_size (by repeat (first | (with_reducible first | exact HB.out | apply below_drew1)))) : w.heap.size ≤ gb183)); clear HB; have HB := n0_; have BK183 := n1_; have GW183 := n2_; have GE183 := n3_; clear n0_ n1_ n2_ n3_; clear hb hbox hg; have hcz48_0 : w47.cell? ⟨gb183, 0, none⟩ = some (.int .u8 a0_0) := (blk_cell BK183.out 0).trans rfl; have hcz48_1 : w47.cell? ⟨gb183, 1, none⟩ = some (.int .u64 a0_1) := (blk_cell BK183.out 1).trans rfl; have hcz48_2 : w47.cell? ⟨gb183, 2, none⟩ = some (.int .i64 a0_2) := (blk_cell BK183.out 2).trans rfl; have hcz48_3 : w47.cell? ⟨gb183, 3, none⟩ = some (.int .u32 a0_3) := (blk_cell BK183.out 3).trans rfl; have hcz48_4 : w47.cell? ⟨gb183, 4, none⟩ = some (.int .u8 a0_4) := (blk_cell BK183.out 4).trans rfl; have hcz48_5 : w47.cell? ⟨gb183, 5, none⟩ = some (.int .u16 a0_5) := (blk_cell BK183.out 5).trans rfl; have hcz48_6 : w47.cell? ⟨gb183, 6, none⟩ = some (.int .u16 a0_6) := (blk_cell BK183.out 6).trans rfl; have hfz48_0 := blk_frozen BK183.out 0; have hfz48_1 := blk_frozen BK183.out 1; have hfz48_2 := blk_frozen BK183.out 2; have hfz48_3 := blk_frozen BK183.out 3; have hfz48_4 := blk_frozen BK183.out 4; have hfz48_5 := blk_frozen BK183.out 5; have hfz48_6 := blk_frozen BK183.out 6) | ((with_reducible refine gate_dst (N := 56) rfl ?_); refine Kd.R_lit (Kd.int .u64) _ 22 ?hg (N := 56) ?hd (xs := ([IntKind.u64.wrap (a0_2), IntKind.u64.wrap (a0_3), IntKind.u64.wrap (a0_4), IntKind.u64.wrap (a0_5), IntKind.u64.wrap (a0_6)] : List Int)) (inner := [.int .u64 (IntKind.u64.wrap (a0_2)), .int .u64 (IntKind.u64.wrap (a0_3)), .int .u64 (IntKind.u64.wrap (a0_4)), .int .u64 (IntKind.u64.wrap (a0_5)), .int .u64 (IntKind.u64.wrap (a0_6))]) (ok := fun _ => True) (okp := fun _ => True) ?hr ?hp (fun _ hk => hk) trivial (Below.refl _ _) (Nat.le_refl _) (by simp) ?_; (case hd => rfl); (case hg => rfl); (case hr => first | (go_simp; done)); (case hp => exact (Reps.one (show Kd.M (Kd.int .u64) _ _ _ (IntKind.u64.wrap (a0_2)) [.int .u64 (IntKind.u64.wrap (a0_2))] from rfl) (Reps.one (show Kd.M (Kd.int .u64) _ _ _ (IntKind.u64.wrap (a0_3)) [.int .u64 (IntKind.u64.wrap (a0_3))] from rfl) (Reps.one (show Kd.M (Kd.int .u64) _ _ _ (IntKind.u64.wrap (a0_4)) [.int .u64 (IntKind.u64.wrap (a0_4))] from rfl) (Reps.one (show Kd.M (Kd.int .u64) _ _ _ (IntKind.u64.wrap (a0_5)) [.int .u64 (IntKind.u64.wrap (a0_5))] from rfl) (Reps.one (show Kd.M (Kd.int .u64) _ _ _ (IntKind.u64.wrap (a0_6)) [.int .u64 (IntKind.u64.wrap (a0_6))] from rfl) (Reps.none _ _))))))); intro v221 w49 ho50 hb hg_ hnew_; clear hg_ hnew_; (first | rw [← Ny220.out] at ho50); have n0_ := Aside0.mk (Kd.R_lower ho50 (below_size (by repeat (first | (with_reducible first | exact HB.out | refine below_set ?_ GE183.out))))); have n1_ := Aside0.mk (blk_below (g := gb183) (o := .cells #[.int .u8 a0_0, .int .u64 a0_1, .int .i64 a0_2, .int .u32 a0_3, .int .u8 a0_4, .int .u16 a0_5, .int .u16 a0_6] 28 (0, 0)) (by exact BK183.out) hb); have n2_ := Aside0.mk (below_step (by repeat (first | (with_reducible first | exact HB.out | refine below_set ?_ GE183.out))) hb); clear BK183; clear HB; have HO222 := n0_; have BK183 := n1_; have HB := n2_; clear n0_ n1_ n2_; clear hb ho50; obtain ⟨Ao51, co51, eo51⟩ := Kd.R_slice HO222.out; subst eo51) | ((with_reducible refine gate_callee (f := 24) rfl ?_); refine goesL_ (some 57) rfl rfl Try.func24 (by kernel_rfl) rfl #[.slice Ao51 y220.length co51] rfl (by (try simp only [List.map_toArray, List.map_cons, List.map_nil]); first | rfl | (refine qa_arr ?_; (repeat' (first | rfl | refine qa_cons ?_ ?_ | refine qa_int ?_ | refine qa_agg ?_ | refine qa_arr ?_ | omega)); done)) ?_; (with_reducible refine (milestoneref01_Coins.calls k _ _ y220 t223 _ ?side1 ?side2 A43.out).mono ?_); (case side1 => repeat (first | exact (Kd.R_reads' HO222.out).2.2 | (with_reducible refine Kd.C_drew ?_))); (case side2 => exact (Kd.R_reads' HO222.out).2.1); rintro e w52 ⟨v224, rfl, ho0, hb⟩; refine ⟨_, rfl, ?_⟩; have n0_ := Aside0.mk (Kd.R_below (by exact HO222.out) hb); have n1_ := Aside0.mk (Kd.R_lower ho0 (below_size (by repeat (first | (with_reducible first | exact HB.out | refine below_set ?_ GE183.out))))); have n2_ := Aside0.mk (blk_below (g := gb183) (o := .cells #[.int .u8 a0_0, .int .u64 a0_1, .int .i64 a0_2, .int .u32 a0_3, .int .u8 a0_4, .int .u16 a0_5, .int .u16 a0_6] 28 (0, 0)) (by exact BK183.out) hb); have n3_ := Aside0.mk (below_step (by repeat (first | (with_reducible first | exact HB.out | refine below_set ?_ GE183.out))) hb); clear HO222; clear BK183; clear HB; have HO222 := n0_; have HO225 := n1_; have BK183 := n2_; have HB := n3_; clear n0_ n1_ n2_ n3_; (try clear hb); (try clear hb2); (try clear hk); (try clear hi); (try clear ho0); obtain ⟨Ao53, co53, eo53⟩ := Kd.R_slice HO225.out; subst eo53))
           have n0_ := Aside0.mk (Kd.R_drew HO222.out)
           have n1_ := Aside0.mk (Kd.R_drew HO225.out)
           have n2_ := Aside0.mk (blk_drew BK183.out)
           have n3_ := Aside0.mk (below_drew1 HB.out)
           clear HO222
           clear HO225
           clear BK183
           clear HB
           have HO222 := n0_
           have HO225 := n1_
           have BK183 := n2_
           have HB := n3_
           clear n0_ n1_ n2_ n3_
           refine start_ (n := 11) (S := fun w' => w'.cell? ⟨gb183, 0, none⟩ = some (.int .u8 a0_0) ∧ w'.cell? ⟨gb183, 1, none⟩ = some (.int .u64 a0_1) ∧ w'.cell? ⟨gb183, 2, none⟩ = some (.int .i64 a0_2) ∧ w'.cell? ⟨gb183, 3, none⟩ = some (.int .u32 a0_3) ∧ w'.cell? ⟨gb183, 4, none⟩ = some (.int .u8 a0_4) ∧ w'.cell? ⟨gb183, 5, none⟩ = some (.int .u16 a0_5) ∧ w'.cell? ⟨gb183, 6, none⟩ = some (.int .u16 a0_6)) (ds := []) #[false, false, false, false, false, false, false, false, false, false, false] (by kernel_rfl) rfl rfl ⟨(blk_cell BK183.out 0).trans rfl, (blk_cell BK183.out 1).trans rfl, (blk_cell BK183.out 2).trans rfl, (blk_cell BK183.out 3).trans rfl, (blk_cell BK183.out 4).trans rfl, (blk_cell BK183.out 5).trans rfl, (blk_cell BK183.out 6).trans rfl⟩ (fun hHeld => ?_); refine with_tabW milestonelaw13_bytes.tab10 milestonelaw13_bytes.bits10 (fun HT_ HW_ => ?_)
           generalize w52.drew = w54 at HO222 HO225 BK183 HB hHeld ⊢
           refine pure_ (i := 0) (N := some 58) (v := ?_) (a' := ?_) #[true, false, false, false, false, false, false, false, false, false, false] rfl rfl (any_of HT_.out (by kernel_rfl)) (fun _ _ _ h => h) (Or.inl ⟨by rfl, ?_⟩) ?_ ?_
           rotate_left
           · intro w'
             go_simp
             with_reducible rfl
           rotate_left
           · simp only [Act.put, List.setIfInBounds_toArray, List.set_cons_zero, List.set_cons_succ, i64_w, i32_w]
             rfl
           refine pure_ (i := 3) (N := some 61) (v := ?_) (a' := ?_) #[true, false, false, true, false, false, false, false, false, false, false] rfl rfl (any_of HT_.out (by kernel_rfl)) (fun _ _ _ h => h) (Or.inl ⟨by rfl, ?_⟩) ?_ ?_
           rotate_left
           · intro w'
             go_simp
             with_reducible rfl
           rotate_left
           · simp only [Act.put, List.setIfInBounds_toArray, List.set_cons_zero, List.set_cons_succ, i64_w, i32_w]
             rfl
           refine pure_ (i := 4) (N := some 62) (v := ?_) (a' := ?_) #[true, false, false, true, true, false, false, false, false, false, false] rfl rfl (any_of HT_.out (by kernel_rfl)) (fun _ _ _ h => h) (Or.inl ⟨by rfl, ?_⟩) ?_ ?_
           rotate_left
           · intro w'
             go_simp
             with_reducible rfl
           rotate_left
           · simp only [Act.put, List.setIfInBounds_toArray, List.set_cons_zero, List.set_cons_succ, i64_w, i32_w]
             rfl
           refine pure_ (i := 5) (N := some 63) (v := ?_) (a' := ?_) #[true, false, false, true, true, true, false, false, false, false, false] rfl rfl (any_of HT_.out (by kernel_rfl)) (fun _ _ _ h => h) (Or.inl ⟨by rfl, ?_⟩) ?_ ?_
           rotate_left
           · intro w'
             go_simp
             with_reducible rfl
           rotate_left
           · simp only [Act.put, List.setIfInBounds_toArray, List.set_cons_zero, List.set_cons_succ, i64_w, i32_w]
             rfl
           refine pure_ (i := 8) (N := some 66) (v := ?_) (a' := ?_) #[true, false, false, true, true, true, false, false, true, false, false] rfl rfl (any_of HT_.out (by kernel_rfl)) (fun _ _ _ h => h) (Or.inl ⟨by rfl, ?_⟩) ?_ ?_
           rotate_left
           · intro w'
             go_simp
             with_reducible rfl
           rotate_left
           · simp only [Act.put, List.setIfInBounds_toArray, List.set_cons_zero, List.set_cons_succ, i64_w, i32_w]
             rfl
           refine take_ (i := 1) (N := some 59) (v := ?_) (a' := ?_) #[true, true, false, true, true, true, false, false, true, false, false] rfl rfl (take_ofW HT_.out HW_.out (by kernel_rfl)) (fun _ _ _ h => h) (Or.inl ⟨by rfl, ?_⟩) hHeld ?_ ?_
           rotate_left
           · rintro w' ⟨s0, s1, s2, s3, s4, s5, s6⟩
             go_simp
             with_reducible rfl
           rotate_left
           · simp only [Act.put, List.setIfInBounds_toArray, List.set_cons_zero, List.set_cons_succ, i64_w, i32_w]
             rfl
           refine join_ (σ := Value × Value) 3 #[true, true, true, true, true, true, true, false, true, false, false] (fun s_ => [(60, s_.1), (64, s_.2)]) (fun s_ w' => (w'.cell? ⟨gb183, 0, none⟩ = some (.int .u8 a0_0) ∧ w'.cell? ⟨gb183, 1, none⟩ = some (.int .u64 a0_1) ∧ w'.cell? ⟨gb183, 2, none⟩ = some (.int .i64 a0_2) ∧ w'.cell? ⟨gb183, 3, none⟩ = some (.int .u32 a0_3) ∧ w'.cell? ⟨gb183, 4, none⟩ = some (.int .u8 a0_4) ∧ w'.cell? ⟨gb183, 5, none⟩ = some (.int .u16 a0_5) ∧ w'.cell? ⟨gb183, 6, none⟩ = some (.int .u16 a0_6)) ∧ (Kd.R (Kd.int .u64) 22 w' w.heap.size (fun _ => True) (.slice Ao51 y220.length co51) y220) ∧ (Kd.R (Kd.int .u8) 5 w' w.heap.size (fun k_ => some k_ ≠ (s_.1 : Value).ownBlock ∧ some k_ ≠ (s_.2 : Value).ownBlock) (.slice Ao53 t223.length co53) t223) ∧ (Kd.R (Kd.int .u8) 5 w' w.heap.size (fun k_ => some k_ ≠ (.slice Ao53 t223.length co53 : Value).ownBlock ∧ some k_ ≠ (s_.2 : Value).ownBlock) s_.1 y226) ∧ (Kd.R (Kd.int .u8) 5 w' w.heap.size (fun k_ => some k_ ≠ (.slice Ao53 t223.length co53 : Value).ownBlock ∧ some k_ ≠ (s_.1 : Value).ownBlock) s_.2 t229) ∧ (w'.heap[gb183]? = some (.cells #[.int .u8 a0_0, .int .u64 a0_1, .int .i64 a0_2, .int .u32 a0_3, .int .u8 a0_4, .int .u16 a0_5, .int .u16 a0_6] 28 (0, 0))) ∧ (Below w.heap.size w w')) ?_ ?_
           rotate_left
           · intro hCont
             refine two_ (i := 2) (j := 6) (Ni := some 60) (Nj := some 64) #[true, true, true, true, true, true, false, false, true, false, false] #[true, true, false, true, true, true, true, false, true, false, false] rfl rfl rfl rfl (two_of HT_.out (by kernel_rfl)) (by decide) (by decide) (fun K hK => ?_) (fun K hK => ?_)
             · skip
               refine Kd.R_lit_step (Kd.int .u8) _ 5 ?hg (N := 60) ?hd (xs := ([a0_0] : List Int)) (inner := [.int .u8 a0_0]) (ok := fun _ => True) (okp := fun _ => True) ?hr ?hp (fun _ hk => hk) trivial (Below.refl _ _) (Nat.le_refl _) (by simp) ?_; (case hd => rfl); (case hg => rfl); (case hr => first | (go_simp; done)); (case hp => exact (Reps.one (show Kd.M (Kd.int .u8) _ _ _ a0_0 [.int .u8 a0_0] from rfl) (Reps.none _ _)))
               intro v227 w55 ho56 hb hg_ hnew_
               clear hg_ hnew_
               (first | rw [← Ny226.out] at ho56)
               have n0_ := Aside0.mk (Kd.R_below (by exact HO222.out) hb)
               have n1_ := Aside0.mk (Kd.R_elder' (by exact HO225.out) (Kd.R_base ho56) hb)
               have n2_ := Aside0.mk (Kd.R_lower (Kd.R_new' ho56 (Kd.R_lt (by exact HO225.out))) (below_size (by repeat (first | (with_reducible first | exact HB.out | refine below_set ?_ GE183.out)))))
               have n3_ := Aside0.mk (blk_below (g := gb183) (o := .cells #[.int .u8 a0_0, .int .u64 a0_1, .int .i64 a0_2, .int .u32 a0_3, .int .u8 a0_4, .int .u16 a0_5, .int .u16 a0_6] 28 (0, 0)) (by exact BK183.out) hb)
               have n4_ := Aside0.mk (below_step (by repeat (first | (with_reducible first | exact HB.out | refine below_set ?_ GE183.out))) hb)
               clear HO222
               clear HO225
               clear BK183
               clear HB
               have HO222 := n0_
               have HO225 := n1_
               have HO228 := n2_
               have BK183 := n3_
               have HB := n4_
               clear n0_ n1_ n2_ n3_ n4_
               clear hb ho56
               refine hK.out _ _ ⟨(blk_cell BK183.out 0).trans rfl, (blk_cell BK183.out 1).trans rfl, (blk_cell BK183.out 2).trans rfl, (blk_cell BK183.out 3).trans rfl, (blk_cell BK183.out 4).trans rfl, (blk_cell BK183.out 5).trans rfl, (blk_cell BK183.out 6).trans rfl⟩ (fun hHeld => ?_)
               clear hK K
               refine norm_ (a' := ?_) ?_ ?_
               rotate_left
               · show Act.put _ (some 60) _ = _
                 simp only [Act.put, List.setIfInBounds_toArray, List.set_cons_zero, List.set_cons_succ, i64_w, i32_w]
                 rfl
               refine one_ (i := 6) (N := some 64) #[true, true, true, true, true, true, true, false, true, false, false] rfl rfl (one_of HT_.out (by kernel_rfl)) (by decide) (fun K hK => ?_)
               refine goes_ Try.func15 (by kernel_rfl) rfl #[.int .u64 (IntKind.u64.wrap ((t223.length : Int)))] (by rfl) rfl rfl (by (try simp only [List.map_toArray, List.map_cons, List.map_nil]); first | rfl) ?_
               with_reducible refine (milestoneref01_Coin.calls k (IntKind.u64.wrap ((t223.length : Int))) t229 _ A44.out).mono ?_
               rintro e w57 ⟨v230, rfl, ho0, hb⟩
               refine ⟨_, rfl, ?_⟩
               have n0_ := Aside0.mk (Kd.R_below (by exact HO222.out) hb)
               have n1_ := Aside0.mk (Kd.R_elder' (by exact HO225.out) (Kd.R_base ho0) hb)
               have n2_ := Aside0.mk (Kd.R_elder' (by exact HO228.out) (Kd.R_base ho0) hb)
               have n3_ := Aside0.mk (Kd.R_lower (Kd.R_new' (Kd.R_new' ho0 (Kd.R_lt (by exact HO225.out))) (Kd.R_lt (by exact HO228.out))) (below_size (by repeat (first | (with_reducible first | exact HB.out | refine below_set ?_ GE183.out)))))
               have n4_ := Aside0.mk (blk_below (g := gb183) (o := .cells #[.int .u8 a0_0, .int .u64 a0_1, .int .i64 a0_2, .int .u32 a0_3, .int .u8 a0_4, .int .u16 a0_5, .int .u16 a0_6] 28 (0, 0)) (by exact BK183.out) hb)
               have n5_ := Aside0.mk (below_step (by repeat (first | (with_reducible first | exact HB.out | refine below_set ?_ GE183.out))) hb)
               clear HO222
               clear HO225
               clear HO228
               clear BK183
               clear HB
               have HO222 := n0_
               have HO225 := n1_
               have HO228 := n2_
               have HO231 := n3_
               have BK183 := n4_
               have HB := n5_
               clear n0_ n1_ n2_ n3_ n4_ n5_
               (try clear hb)
               (try clear hb2)
               (try clear hk)
               (try clear hi)
               (try clear ho0)
               refine hK.out _ _ ⟨(blk_cell BK183.out 0).trans rfl, (blk_cell BK183.out 1).trans rfl, (blk_cell BK183.out 2).trans rfl, (blk_cell BK183.out 3).trans rfl, (blk_cell BK183.out 4).trans rfl, (blk_cell BK183.out 5).trans rfl, (blk_cell BK183.out 6).trans rfl⟩ (fun hHeld => ?_)
               clear hK K
               refine norm_ (a' := ?_) ?_ ?_
               rotate_left
               · show Act.put _ (some 64) _ = _
                 simp only [Act.put, List.setIfInBounds_toArray, List.set_cons_zero, List.set_cons_succ, i64_w, i32_w]
                 rfl
               exact norm_ (by simp only [putAll, Act.put, List.setIfInBounds_toArray, List.set_cons_zero, List.set_cons_succ]) (hCont (v227, v230) _ ⟨hHeld, (by exact HO222.out), (by exact Kd.R_mono HO225.out (fun _ hk => ⟨hk.1.2, hk.2⟩)), (by exact Kd.R_mono HO228.out (fun _ hk => ⟨hk.1.2, hk.2⟩)), (by exact Kd.R_mono HO231.out (fun _ hk => ⟨hk.1.2, hk.2⟩)), (by exact BK183.out), (by repeat (first | (with_reducible first | exact HB.out | refine below_set ?_ GE183.out)))⟩)
             · skip
               refine goes_ Try.func15 (by kernel_rfl) rfl #[.int .u64 (IntKind.u64.wrap ((t223.length : Int)))] (by rfl) rfl rfl (by (try simp only [List.map_toArray, List.map_cons, List.map_nil]); first | rfl) ?_
               with_reducible refine (milestoneref01_Coin.calls k (IntKind.u64.wrap ((t223.length : Int))) t229 _ A44.out).mono ?_
               rintro e w55 ⟨v230, rfl, ho0, hb⟩
               refine ⟨_, rfl, ?_⟩
               have n0_ := Aside0.mk (Kd.R_below (by exact HO222.out) hb)
               have n1_ := Aside0.mk (Kd.R_elder' (by exact HO225.out) (Kd.R_base ho0) hb)
               have n2_ := Aside0.mk (Kd.R_lower (Kd.R_new' ho0 (Kd.R_lt (by exact HO225.out))) (below_size (by repeat (first | (with_reducible first | exact HB.out | refine below_set ?_ GE183.out)))))
               have n3_ := Aside0.mk (blk_below (g := gb183) (o := .cells #[.int .u8 a0_0, .int .u64 a0_1, .int .i64 a0_2, .int .u32 a0_3, .int .u8 a0_4, .int .u16 a0_5, .int .u16 a0_6] 28 (0, 0)) (by exact BK183.out) hb)
               have n4_ := Aside0.mk (below_step (by repeat (first | (with_reducible first | exact HB.out | refine below_set ?_ GE183.out))) hb)
               clear HO222
               clear HO225
               clear BK183
               clear HB
               have HO222 := n0_
               have HO225 := n1_
               have HO231 := n2_
               have BK183 := n3_
               have HB := n4_
               clear n0_ n1_ n2_ n3_ n4_
               (try clear hb)
               (try clear hb2)
               (try clear hk)
               (try clear hi)
               (try clear ho0)
               refine hK.out _ _ ⟨(blk_cell BK183.out 0).trans rfl, (blk_cell BK183.out 1).trans rfl, (blk_cell BK183.out 2).trans rfl, (blk_cell BK183.out 3).trans rfl, (blk_cell BK183.out 4).trans rfl, (blk_cell BK183.out 5).trans rfl, (blk_cell BK183.out 6).trans rfl⟩ (fun hHeld => ?_)
               clear hK K
               refine norm_ (a' := ?_) ?_ ?_
               rotate_left
               · show Act.put _ (some 64) _ = _
                 simp only [Act.put, List.setIfInBounds_toArray, List.set_cons_zero, List.set_cons_succ, i64_w, i32_w]
                 rfl
               refine one_ (i := 2) (N := some 60) #[true, true, true, true, true, true, true, false, true, false, false] rfl rfl (one_of HT_.out (by kernel_rfl)) (by decide) (fun K hK => ?_)
               refine Kd.R_lit_step (Kd.int .u8) _ 5 ?hg (N := 60) ?hd (xs := ([a0_0] : List Int)) (inner := [.int .u8 a0_0]) (ok := fun _ => True) (okp := fun _ => True) ?hr ?hp (fun _ hk => hk) trivial (Below.refl _ _) (Nat.le_refl _) (by simp) ?_; (case hd => rfl); (case hg => rfl); (case hr => first | (go_simp; done)); (case hp => exact (Reps.one (show Kd.M (Kd.int .u8) _ _ _ a0_0 [.int .u8 a0_0] from rfl) (Reps.none _ _)))
               intro v227 w56 ho57 hb hg_ hnew_
               clear hg_ hnew_
               (first | rw [← Ny226.out] at ho57)
               have n0_ := Aside0.mk (Kd.R_below (by exact HO222.out) hb)
               have n1_ := Aside0.mk (Kd.R_elder' (by exact HO225.out) (Kd.R_base ho57) hb)
               have n2_ := Aside0.mk (Kd.R_elder' (by exact HO231.out) (Kd.R_base ho57) hb)
               have n3_ := Aside0.mk (Kd.R_lower (Kd.R_new' (Kd.R_new' ho57 (Kd.R_lt (by exact HO225.out))) (Kd.R_lt (by exact HO231.out))) (below_size (by repeat (first | (with_reducible first | exact HB.out | refine below_set ?_ GE183.out)))))
               have n4_ := Aside0.mk (blk_below (g := gb183) (o := .cells #[.int .u8 a0_0, .int .u64 a0_1, .int .i64 a0_2, .int .u32 a0_3, .int .u8 a0_4, .int .u16 a0_5, .int .u16 a0_6] 28 (0, 0)) (by exact BK183.out) hb)
               have n5_ := Aside0.mk (below_step (by repeat (first | (with_reducible first | exact HB.out | refine below_set ?_ GE183.out))) hb)
               clear HO222
               clear HO225
               clear HO231
               clear BK183
               clear HB
               have HO222 := n0_
               have HO225 := n1_
               have HO231 := n2_
               have HO228 := n3_
               have BK183 := n4_
               have HB := n5_
               clear n0_ n1_ n2_ n3_ n4_ n5_
               clear hb ho57
               refine hK.out _ _ ⟨(blk_cell BK183.out 0).trans rfl, (blk_cell BK183.out 1).trans rfl, (blk_cell BK183.out 2).trans rfl, (blk_cell BK183.out 3).trans rfl, (blk_cell BK183.out 4).trans rfl, (blk_cell BK183.out 5).trans rfl, (blk_cell BK183.out 6).trans rfl⟩ (fun hHeld => ?_)
               clear hK K
               refine norm_ (a' := ?_) ?_ ?_
               rotate_left
               · show Act.put _ (some 60) _ = _
                 simp only [Act.put, List.setIfInBounds_toArray, List.set_cons_zero, List.set_cons_succ, i64_w, i32_w]
                 rfl
               exact norm_ (by simp only [putAll, Act.put, List.setIfInBounds_toArray, List.set_cons_zero, List.set_cons_succ]) (hCont (v227, v230) _ ⟨hHeld, (by exact HO222.out), (by exact Kd.R_mono HO225.out (fun _ hk => ⟨hk.2, hk.1.2⟩)), (by exact Kd.R_mono HO228.out (fun _ hk => ⟨hk.1.2, hk.2⟩)), (by exact Kd.R_mono HO231.out (fun _ hk => ⟨hk.1.2, hk.2⟩)), (by exact BK183.out), (by repeat (first | (with_reducible first | exact HB.out | refine below_set ?_ GE183.out)))⟩)
           rintro ⟨v227, v230⟩ w58 ⟨hS_, h0_, h1_, h2_, h3_, h4_, h5_⟩
           have n0_ : Aside0 (Kd.R (Kd.int .u64) 22 w58 w.heap.size (fun _ => True) (.slice Ao51 y220.length co51) y220) := ⟨h0_⟩
           have n1_ : Aside0 (Kd.R (Kd.int .u8) 5 w58 w.heap.size (fun k_ => some k_ ≠ (v227 : Value).ownBlock ∧ some k_ ≠ (v230 : Value).ownBlock) (.slice Ao53 t223.length co53) t223) := ⟨h1_⟩
           have n2_ : Aside0 (Kd.R (Kd.int .u8) 5 w58 w.heap.size (fun k_ => some k_ ≠ (.slice Ao53 t223.length co53 : Value).ownBlock ∧ some k_ ≠ (v230 : Value).ownBlock) v227 y226) := ⟨h2_⟩
           have n3_ : Aside0 (Kd.R (Kd.int .u8) 5 w58 w.heap.size (fun k_ => some k_ ≠ (.slice Ao53 t223.length co53 : Value).ownBlock ∧ some k_ ≠ (v227 : Value).ownBlock) v230 t229) := ⟨h3_⟩
           have n4_ : Aside0 (w58.heap[gb183]? = some (.cells #[.int .u8 a0_0, .int .u64 a0_1, .int .i64 a0_2, .int .u32 a0_3, .int .u8 a0_4, .int .u16 a0_5, .int .u16 a0_6] 28 (0, 0))) := ⟨h4_⟩
           have n5_ : Aside0 (Below w.heap.size w w58) := ⟨h5_⟩
           clear HO222
           clear HO225
           clear BK183
           clear HB
           clear h0_ h1_ h2_ h3_ h4_ h5_
           have HO222 := n0_
           have HO225 := n1_
           have HO228 := n2_
           have HO231 := n3_
           have BK183 := n4_
           have HB := n5_
           clear n0_ n1_ n2_ n3_ n4_ n5_
           have hHeld : w58.cell? ⟨gb183, 0, none⟩ = some (.int .u8 a0_0) ∧ w58.cell? ⟨gb183, 1, none⟩ = some (.int .u64 a0_1) ∧ w58.cell? ⟨gb183, 2, none⟩ = some (.int .i64 a0_2) ∧ w58.cell? ⟨gb183, 3, none⟩ = some (.int .u32 a0_3) ∧ w58.cell? ⟨gb183, 4, none⟩ = some (.int .u8 a0_4) ∧ w58.cell? ⟨gb183, 5, none⟩ = some (.int .u16 a0_5) ∧ w58.cell? ⟨gb183, 6, none⟩ = some (.int .u16 a0_6) := hS_
           obtain ⟨Ao60, co60, eo60⟩ := Kd.R_slice HO231.out
           (first | subst eo60)
           refine norm_ (a' := ?_) ?_ ?_
           rotate_left
           · simp only [putAll, Act.put, List.setIfInBounds_toArray, List.set_cons_zero, List.set_cons_succ]
             rfl
           refine one_ (i := 7) (N := some 65) #[true, true, true, true, true, true, true, true, true, false, false] rfl rfl (one_of HT_.out (by kernel_rfl)) (by decide) (fun K hK => ?_)
           refine Kd.R_append_rows_step (Kd.int .u8) (w0 := w) w.heap.size (by rfl) (.tmp 60) (.tmp 64) 30 5 (.int .u8 0) 1 rfl Try.underlying30 info5 rfl (by decide) (by omega) v227 y226 t229 _ _ _ (fun k_ => some k_ ≠ (.slice Ao53 t223.length co53 : Value).ownBlock ∧ some k_ ≠ (.slice Ao60 t229.length co60 : Value).ownBlock) (fun _ => False) rfl rfl ?aO ?aR (fun _ _ h => h) (fun _ h => h.elim) ?aF ?aB ?aS ?aL ?_
           (case aR => repeat (first | exact (Kd.R_reads' HO231.out).2.2 | (with_reducible refine Kd.C_drew ?_)))
           (case aB => exact (by repeat (first | (with_reducible first | exact HB.out | refine below_set ?_ GE183.out))))
           (case aF => exact (fun k_ hk => ⟨Kd.fresh' (Kd.R_lt (by exact HO225.out)) k_ hk, Kd.fresh' (Kd.R_lt (by exact HO231.out)) k_ hk⟩))
           (case aO => exact (by exact HO228.out))
           (case aS => exact (below_size (by repeat (first | (with_reducible first | exact HB.out | refine below_set ?_ GE183.out)))))
           (case aL => have := LMc45.out; omega)
           intro v233 w59 ho hb hg hat
           rw [← Ny232.out] at ho
           have n0_ := Aside0.mk (blk_grown (g := gb183) (o := .cells #[.int .u8 a0_0, .int .u64 a0_1, .int .i64 a0_2, .int .u32 a0_3, .int .u8 a0_4, .int .u16 a0_5, .int .u16 a0_6] 28 (0, 0)) (by exact BK183.out) hg (Kd.R_ne HO228.out BK183.out (by decide)))
           have n1_ := Aside0.mk (Kd.R_over' (by exact HO222.out) (Kd.R_typed (by exact HO228.out)) (by decide) hg)
           have n2_ := Aside0.mk (Kd.R_after (ok := (fun k_ => some k_ ≠ (.slice Ao60 t229.length co60 : Value).ownBlock)) (by exact Kd.R_mono HO225.out (fun _ hk => ⟨hk.2, hk.1⟩)) hg hat)
           have n3_ := Aside0.mk (Kd.R_after (ok := (fun k_ => some k_ ≠ (.slice Ao53 t223.length co53 : Value).ownBlock)) (by exact HO231.out) hg hat)
           have n4_ := Aside0.mk (hb)
           have n5_ := Aside0.mk (ho)
           clear BK183
           clear HO222
           clear HO225
           clear HO231
           clear HB
           clear HO228
           have BK183 := n0_
           have HO222 := n1_
           have HO225 := n2_
           have HO231 := n3_
           have HB := n4_
           have HO234 := n5_
           clear n0_ n1_ n2_ n3_ n4_ n5_
           clear ho hb hg hat
           refine hK.out _ _ ⟨(blk_cell BK183.out 0).trans rfl, (blk_cell BK183.out 1).trans rfl, (blk_cell BK183.out 2).trans rfl, (blk_cell BK183.out 3).trans rfl, (blk_cell BK183.out 4).trans rfl, (blk_cell BK183.out 5).trans rfl, (blk_cell BK183.out 6).trans rfl⟩ (fun hHeld => ?_)
           clear hK K
           refine norm_ (a' := ?_) ?_ ?_
           rotate_left
           · show Act.put _ (some 65) _ = _
             simp only [Act.put, List.setIfInBounds_toArray, List.set_cons_zero, List.set_cons_succ, i64_w, i32_w]
             rfl
           refine one_ (i := 9) (N := some 67) #[true, true, true, true, true, true, true, true, true, true, false] rfl rfl (one_of HT_.out (by kernel_rfl)) (by decide) (fun K hK => ?_)
           refine Kd.R_append_rows_step (Kd.int .u8) (w0 := w) w.heap.size (by rfl) (.tmp 65) (.tmp 66) 30 5 (.int .u8 0) 1 rfl Try.underlying30 info5 rfl (by decide) (by omega) v233 y232 t223 _ _ _ (fun k_ => some k_ ≠ (.slice Ao53 t223.length co53 : Value).ownBlock ∧ some k_ ≠ (.slice Ao60 t229.length co60 : Value).ownBlock) (fun _ => False) rfl rfl ?aO ?aR (fun _ _ h => h) (fun _ h => h.elim) ?aF ?aB ?aS ?aL ?_
           (case aR => repeat (first | exact (Kd.R_reads' HO225.out).2.2 | (with_reducible refine Kd.C_drew ?_)))
           (case aB => exact (by repeat (first | (with_reducible first | exact HB.out | refine below_set ?_ GE183.out))))
           (case aF => exact (fun k_ hk => ⟨Kd.fresh' (Kd.R_lt (by exact HO225.out)) k_ hk, Kd.fresh' (Kd.R_lt (by exact HO231.out)) k_ hk⟩))
           (case aO => exact (by exact HO234.out))
           (case aS => exact (below_size (by repeat (first | (with_reducible first | exact HB.out | refine below_set ?_ GE183.out)))))
           (case aL => have := LMc46.out; omega)
           intro v236 w61 ho hb hg hat
           rw [← Ny235.out] at ho
           have n0_ := Aside0.mk (blk_grown (g := gb183) (o := .cells #[.int .u8 a0_0, .int .u64 a0_1, .int .i64 a0_2, .int .u32 a0_3, .int .u8 a0_4, .int .u16 a0_5, .int .u16 a0_6] 28 (0, 0)) (by exact BK183.out) hg (Kd.R_ne HO234.out BK183.out (by decide)))
           have n1_ := Aside0.mk (Kd.R_over' (by exact HO222.out) (Kd.R_typed (by exact HO234.out)) (by decide) hg)
           have n2_ := Aside0.mk (Kd.R_after (ok := (fun k_ => some k_ ≠ (.slice Ao60 t229.length co60 : Value).ownBlock)) (by exact HO225.out) hg hat)
           have n3_ := Aside0.mk (Kd.R_after (ok := (fun k_ => some k_ ≠ (.slice Ao53 t223.length co53 : Value).ownBlock)) (by exact HO231.out) hg hat)
           have n4_ := Aside0.mk (hb)
           have n5_ := Aside0.mk (ho)
           clear BK183
           clear HO222
           clear HO225
           clear HO231
           clear HB
           clear HO234
           have BK183 := n0_
           have HO222 := n1_
           have HO225 := n2_
           have HO231 := n3_
           have HB := n4_
           have HO237 := n5_
           clear n0_ n1_ n2_ n3_ n4_ n5_
           clear ho hb hg hat
           refine hK.out _ _ ⟨(blk_cell BK183.out 0).trans rfl, (blk_cell BK183.out 1).trans rfl, (blk_cell BK183.out 2).trans rfl, (blk_cell BK183.out 3).trans rfl, (blk_cell BK183.out 4).trans rfl, (blk_cell BK183.out 5).trans rfl, (blk_cell BK183.out 6).trans rfl⟩ (fun hHeld => ?_)
           clear hK K
           refine norm_ (a' := ?_) ?_ ?_
           rotate_left
           · show Act.put _ (some 67) _ = _
             simp only [Act.put, List.setIfInBounds_toArray, List.set_cons_zero, List.set_cons_succ, i64_w, i32_w]
             rfl
           refine pure_ (i := 10) (N := some 2) (v := ?_) (a' := ?_) #[true, true, true, true, true, true, true, true, true, true, true] rfl rfl (any_of HT_.out (by kernel_rfl)) (fun _ _ _ h => h) (Or.inl ⟨by rfl, ?_⟩) ?_ ?_
           rotate_left
           · intro w'
             go_simp
             with_reducible rfl
           rotate_left
           · simp only [Act.put, List.setIfInBounds_toArray, List.set_cons_zero, List.set_cons_succ, i64_w, i32_w]
             rfl
           refine done_ (done_of HT_.out (by kernel_rfl)) ?_
           try go_wp2
           go_ret
           exact ⟨_, by first | rfl | (simp [*, errW_none, errW_some] <;> rfl), by exact Kd.R_mono HO237.out (fun _ hk => trivial), by repeat (first | (with_reducible first | exact HB.out | refine below_set ?_ GE183.out))⟩
         · rw [if_neg c46] at H
           exact absurd H (by simp)
       · rw [if_neg c45] at H
         exact absurd H (by simp)
     · rw [if_neg c42] at H
       have c42b0 : (a0_0 == 3) = false := beq_eq_false_iff_ne.mpr c42
       have c42b1 : (a0_0 != 3) = true := bne_iff_ne.mpr c42
       obtain ⟨y238, hy238⟩ : ∃ y_ : List Int, y_ = (([IntKind.u64.wrap (a0_3), IntKind.u64.wrap (a0_4), IntKind.u64.wrap (a0_5), a0_1] : List Int)) := ⟨_, rfl⟩
       replace H : ((milestoneref01_Coins.f k y238).bind fun t241 => ((some (([a0_0] : List Int) : List Int)).bind fun y244 => ((milestoneref01_Coin.f k (IntKind.u64.wrap ((t241.length : Int)))).bind fun t247 => (if y244.length + t247.length < 140737488355328 then ((some (y244 ++ t247 : List Int)).bind fun y250 => (if y250.length + t241.length < 140737488355328 then (some (y250 ++ t241)) else (none))) else (none))))) = some r := by first | (rw [hy238]; with_reducible exact H) | exact H
       have Ny238 := Aside0.mk hy238
       clear hy238
       replace H := Option.bind_eq_some_iff.mp H
       obtain ⟨t241, A620, H⟩ := H
       replace H : ((some (([a0_0] : List Int) : List Int)).bind fun y244 => ((milestoneref01_Coin.f k (IntKind.u64.wrap ((t241.length : Int)))).bind fun t247 => (if y244.length + t247.length < 140737488355328 then ((some (y244 ++ t247 : List Int)).bind fun y250 => (if y250.length + t241.length < 140737488355328 then (some (y250 ++ t241)) else (none))) else (none)))) = some r := H
       have A62 := Aside0.mk A620
       clear A620
       obtain ⟨y244, hy244⟩ : ∃ y_ : List Int, y_ = (([a0_0] : List Int)) := ⟨_, rfl⟩
       replace H : ((milestoneref01_Coin.f k (IntKind.u64.wrap ((t241.length : Int)))).bind fun t247 => (if y244.length + t247.length < 140737488355328 then ((some (y244 ++ t247 : List Int)).bind fun y250 => (if y250.length + t241.length < 140737488355328 then (some (y250 ++ t241)) else (none))) else (none))) = some r := by first | (have H2_ := (Option.bind_some _ _).symm.trans H; rw [hy244]; with_reducible exact H2_) | exact H
       have Ny244 := Aside0.mk hy244
       clear hy244
       replace H := Option.bind_eq_some_iff.mp H
       obtain ⟨t247, A630, H⟩ := H
       replace H : (if y244.length + t247.length < 140737488355328 then ((some (y244 ++ t247 : List Int)).bind fun y250 => (if y250.length + t241.length < 140737488355328 then (some (y250 ++ t241)) else (none))) else (none)) = some r := H
       have A63 := Aside0.mk A630
       clear A630
       by_cases c64 : y244.length + t247.length < 140737488355328
       · rw [if_pos c64] at H
         have LMc64 := Aside0.mk c64
         clear c64
         obtain ⟨y250, hy250⟩ : ∃ y_ : List Int, y_ = (y244 ++ t247) := ⟨_, rfl⟩
         replace H : (if y250.length + t241.length < 140737488355328 then (some (y250 ++ t241)) else (none)) = some r := by first | (have H2_ := (Option.bind_some _ _).symm.trans H; rw [hy250]; with_reducible exact H2_) | exact H
         have Ny250 := Aside0.mk hy250
         clear hy250
         by_cases c65 : y250.length + t241.length < 140737488355328
         · rw [if_pos c65] at H
           have LMc65 := Aside0.mk c65
           clear c65
           obtain ⟨y253, hy253⟩ : ∃ y_ : List Int, y_ = (y250 ++ t241) := ⟨_, rfl⟩
           replace H : (some y253) = some r := by first | (rw [hy253]; with_reducible exact H) | exact H
           have Ny253 := Aside0.mk hy253
           clear hy253
           obtain rfl := Option.some.inj H
           simp only [Option.some.injEq, Prod.mk.injEq] at H
           obtain ⟨rfl⟩ := H
           go_enter Try.func11, Try.ntmps11
           try go_wp2_with (first | ((with_reducible refine gate_dst (N := 1) rfl ?_); refine box_event ?hg (N := 1) ?hd (cs := #[.int .u8 a0_0, .int .u64 a0_1, .int .i64 a0_2, .int .u32 a0_3, .int .u8 a0_4, .int .u16 a0_5, .int .u16 a0_6]) (t := 28) ?hr ?_; (case hd => rfl); (case hg => rfl); (case hr => first | (go_simp; done)); intro gb183 hg w66 hbox hb; have n0_ := Aside0.mk (below_step (by repeat (first | (with_reducible first | exact HB.out | apply below_drew1))) hb); have n1_ := Aside0.mk (hbox); have n2_ := Aside0.mk ((by rw [hg]; exact (below_size (by repeat (first | (with_reducible first | exact HB.out | apply below_drew1)))) : w.heap.size ≤ gb183)); have n3_ := Aside0.mk ((by rw [hg]; exact (below_size (by repeat (first | (with_reducible first | exact HB.out | apply below_drew1)))) : w.heap.size ≤ gb183)); clear HB; have HB := n0_; have BK183 := n1_; have GW183 := n2_; have GE183 := n3_; clear n0_ n1_ n2_ n3_; clear hb hbox hg; have hcz67_0 : w66.cell? ⟨gb183, 0, none⟩ = some (.int .u8 a0_0) := (blk_cell BK183.out 0).trans rfl; have hcz67_1 : w66.cell? ⟨gb183, 1, none⟩ = some (.int .u64 a0_1) := (blk_cell BK183.out 1).trans rfl; have hcz67_2 : w66.cell? ⟨gb183, 2, none⟩ = some (.int .i64 a0_2) := (blk_cell BK183.out 2).trans rfl; have hcz67_3 : w66.cell? ⟨gb183, 3, none⟩ = some (.int .u32 a0_3) := (blk_cell BK183.out 3).trans rfl; have hcz67_4 : w66.cell? ⟨gb183, 4, none⟩ = some (.int .u8 a0_4) := (blk_cell BK183.out 4).trans rfl; have hcz67_5 : w66.cell? ⟨gb183, 5, none⟩ = some (.int .u16 a0_5) := (blk_cell BK183.out 5).trans rfl; have hcz67_6 : w66.cell? ⟨gb183, 6, none⟩ = some (.int .u16 a0_6) := (blk_cell BK183.out 6).trans rfl; have hfz67_0 := blk_frozen BK183.out 0; have hfz67_1 := blk_frozen BK183.out 1; have hfz67_2 := blk_frozen BK183.out 2; have hfz67_3 := blk_frozen BK183.out 3; have hfz67_4 := blk_frozen BK183.out 4; have hfz67_5 := blk_frozen BK183.out 5; have hfz67_6 := blk_frozen BK183.out 6) | ((with_reducible refine gate_dst (N := 19) rfl ?_); refine Kd.R_lit (Kd.int .u64) _ 22 ?hg (N := 19) ?hd (xs := ([IntKind.u64.wrap (a0_3), IntKind.u64.wrap (a0_4), IntKind.u64.wrap (a0_5), a0_1] : List Int)) (inner := [.int .u64 (IntKind.u64.wrap (a0_3)), .int .u64 (IntKind.u64.wrap (a0_4)), .int .u64 (IntKind.u64.wrap (a0_5)), .int .u64 a0_1]) (ok := fun _ => True) (okp := fun _ => True) ?hr ?hp (fun _ hk => hk) trivial (Below.refl _ _) (Nat.le_refl _) (by simp) ?_; (case hd => rfl); (case hg => rfl); (case hr => first | (go_simp; done)); (case hp => exact (Reps.one (show Kd.M (Kd.int .u64) _ _ _ (IntKind.u64.wrap (a0_3)) [.int .u64 (IntKind.u64.wrap (a0_3))] from rfl) (Reps.one (show Kd.M (Kd.int .u64) _ _ _ (IntKind.u64.wrap (a0_4)) [.int .u64 (IntKind.u64.wrap (a0_4))] from rfl) (Reps.one (show Kd.M (Kd.int .u64) _ _ _ (IntKind.u64.wrap (a0_5)) [.int .u64 (IntKind.u64.wrap (a0_5))] from rfl) (Reps.one (show Kd.M (Kd.int .u64) _ _ _ a0_1 [.int .u64 a0_1] from rfl) (Reps.none _ _)))))); intro v239 w68 ho69 hb hg_ hnew_; clear hg_ hnew_; (first | rw [← Ny238.out] at ho69); have n0_ := Aside0.mk (Kd.R_lower ho69 (below_size (by repeat (first | (with_reducible first | exact HB.out | refine below_set ?_ GE183.out))))); have n1_ := Aside0.mk (blk_below (g := gb183) (o := .cells #[.int .u8 a0_0, .int .u64 a0_1, .int .i64 a0_2, .int .u32 a0_3, .int .u8 a0_4, .int .u16 a0_5, .int .u16 a0_6] 28 (0, 0)) (by exact BK183.out) hb); have n2_ := Aside0.mk (below_step (by repeat (first | (with_reducible first | exact HB.out | refine below_set ?_ GE183.out))) hb); clear BK183; clear HB; have HO240 := n0_; have BK183 := n1_; have HB := n2_; clear n0_ n1_ n2_; clear hb ho69; obtain ⟨Ao70, co70, eo70⟩ := Kd.R_slice HO240.out; subst eo70) | ((with_reducible refine gate_callee (f := 24) rfl ?_); refine goesL_ (some 20) rfl rfl Try.func24 (by kernel_rfl) rfl #[.slice Ao70 y238.length co70] rfl (by (try simp only [List.map_toArray, List.map_cons, List.map_nil]); first | rfl | (refine qa_arr ?_; (repeat' (first | rfl | refine qa_cons ?_ ?_ | refine qa_int ?_ | refine qa_agg ?_ | refine qa_arr ?_ | omega)); done)) ?_; (with_reducible refine (milestoneref01_Coins.calls k _ _ y238 t241 _ ?side1 ?side2 A62.out).mono ?_); (case side1 => repeat (first | exact (Kd.R_reads' HO240.out).2.2 | (with_reducible refine Kd.C_drew ?_))); (case side2 => exact (Kd.R_reads' HO240.out).2.1); rintro e w71 ⟨v242, rfl, ho0, hb⟩; refine ⟨_, rfl, ?_⟩; have n0_ := Aside0.mk (Kd.R_below (by exact HO240.out) hb); have n1_ := Aside0.mk (Kd.R_lower ho0 (below_size (by repeat (first | (with_reducible first | exact HB.out | refine below_set ?_ GE183.out))))); have n2_ := Aside0.mk (blk_below (g := gb183) (o := .cells #[.int .u8 a0_0, .int .u64 a0_1, .int .i64 a0_2, .int .u32 a0_3, .int .u8 a0_4, .int .u16 a0_5, .int .u16 a0_6] 28 (0, 0)) (by exact BK183.out) hb); have n3_ := Aside0.mk (below_step (by repeat (first | (with_reducible first | exact HB.out | refine below_set ?_ GE183.out))) hb); clear HO240; clear BK183; clear HB; have HO240 := n0_; have HO243 := n1_; have BK183 := n2_; have HB := n3_; clear n0_ n1_ n2_ n3_; (try clear hb); (try clear hb2); (try clear hk); (try clear hi); (try clear ho0); obtain ⟨Ao72, co72, eo72⟩ := Kd.R_slice HO243.out; subst eo72))
           have n0_ := Aside0.mk (Kd.R_drew HO240.out)
           have n1_ := Aside0.mk (Kd.R_drew HO243.out)
           have n2_ := Aside0.mk (blk_drew BK183.out)
           have n3_ := Aside0.mk (below_drew1 HB.out)
           clear HO240
           clear HO243
           clear BK183
           clear HB
           have HO240 := n0_
           have HO243 := n1_
           have BK183 := n2_
           have HB := n3_
           clear n0_ n1_ n2_ n3_
           refine start_ (n := 11) (S := fun w' => w'.cell? ⟨gb183, 0, none⟩ = some (.int .u8 a0_0) ∧ w'.cell? ⟨gb183, 1, none⟩ = some (.int .u64 a0_1) ∧ w'.cell? ⟨gb183, 2, none⟩ = some (.int .i64 a0_2) ∧ w'.cell? ⟨gb183, 3, none⟩ = some (.int .u32 a0_3) ∧ w'.cell? ⟨gb183, 4, none⟩ = some (.int .u8 a0_4) ∧ w'.cell? ⟨gb183, 5, none⟩ = some (.int .u16 a0_5) ∧ w'.cell? ⟨gb183, 6, none⟩ = some (.int .u16 a0_6)) (ds := []) #[false, false, false, false, false, false, false, false, false, false, false] (by kernel_rfl) rfl rfl ⟨(blk_cell BK183.out 0).trans rfl, (blk_cell BK183.out 1).trans rfl, (blk_cell BK183.out 2).trans rfl, (blk_cell BK183.out 3).trans rfl, (blk_cell BK183.out 4).trans rfl, (blk_cell BK183.out 5).trans rfl, (blk_cell BK183.out 6).trans rfl⟩ (fun hHeld => ?_); refine with_tabW milestonelaw13_bytes.tab10 milestonelaw13_bytes.bits10 (fun HT_ HW_ => ?_)
           generalize w71.drew = w73 at HO240 HO243 BK183 HB hHeld ⊢
           refine pure_ (i := 0) (N := some 58) (v := ?_) (a' := ?_) #[true, false, false, false, false, false, false, false, false, false, false] rfl rfl (any_of HT_.out (by kernel_rfl)) (fun _ _ _ h => h) (Or.inl ⟨by rfl, ?_⟩) ?_ ?_
           rotate_left
           · intro w'
             go_simp
             with_reducible rfl
           rotate_left
           · simp only [Act.put, List.setIfInBounds_toArray, List.set_cons_zero, List.set_cons_succ, i64_w, i32_w]
             rfl
           refine pure_ (i := 3) (N := some 61) (v := ?_) (a' := ?_) #[true, false, false, true, false, false, false, false, false, false, false] rfl rfl (any_of HT_.out (by kernel_rfl)) (fun _ _ _ h => h) (Or.inl ⟨by rfl, ?_⟩) ?_ ?_
           rotate_left
           · intro w'
             go_simp
             with_reducible rfl
           rotate_left
           · simp only [Act.put, List.setIfInBounds_toArray, List.set_cons_zero, List.set_cons_succ, i64_w, i32_w]
             rfl
           refine pure_ (i := 4) (N := some 62) (v := ?_) (a' := ?_) #[true, false, false, true, true, false, false, false, false, false, false] rfl rfl (any_of HT_.out (by kernel_rfl)) (fun _ _ _ h => h) (Or.inl ⟨by rfl, ?_⟩) ?_ ?_
           rotate_left
           · intro w'
             go_simp
             with_reducible rfl
           rotate_left
           · simp only [Act.put, List.setIfInBounds_toArray, List.set_cons_zero, List.set_cons_succ, i64_w, i32_w]
             rfl
           refine pure_ (i := 5) (N := some 63) (v := ?_) (a' := ?_) #[true, false, false, true, true, true, false, false, false, false, false] rfl rfl (any_of HT_.out (by kernel_rfl)) (fun _ _ _ h => h) (Or.inl ⟨by rfl, ?_⟩) ?_ ?_
           rotate_left
           · intro w'
             go_simp
             with_reducible rfl
           rotate_left
           · simp only [Act.put, List.setIfInBounds_toArray, List.set_cons_zero, List.set_cons_succ, i64_w, i32_w]
             rfl
           refine pure_ (i := 8) (N := some 66) (v := ?_) (a' := ?_) #[true, false, false, true, true, true, false, false, true, false, false] rfl rfl (any_of HT_.out (by kernel_rfl)) (fun _ _ _ h => h) (Or.inl ⟨by rfl, ?_⟩) ?_ ?_
           rotate_left
           · intro w'
             go_simp
             with_reducible rfl
           rotate_left
           · simp only [Act.put, List.setIfInBounds_toArray, List.set_cons_zero, List.set_cons_succ, i64_w, i32_w]
             rfl
           refine take_ (i := 1) (N := some 59) (v := ?_) (a' := ?_) #[true, true, false, true, true, true, false, false, true, false, false] rfl rfl (take_ofW HT_.out HW_.out (by kernel_rfl)) (fun _ _ _ h => h) (Or.inl ⟨by rfl, ?_⟩) hHeld ?_ ?_
           rotate_left
           · rintro w' ⟨s0, s1, s2, s3, s4, s5, s6⟩
             go_simp
             with_reducible rfl
           rotate_left
           · simp only [Act.put, List.setIfInBounds_toArray, List.set_cons_zero, List.set_cons_succ, i64_w, i32_w]
             rfl
           refine join_ (σ := Value × Value) 3 #[true, true, true, true, true, true, true, false, true, false, false] (fun s_ => [(60, s_.1), (64, s_.2)]) (fun s_ w' => (w'.cell? ⟨gb183, 0, none⟩ = some (.int .u8 a0_0) ∧ w'.cell? ⟨gb183, 1, none⟩ = some (.int .u64 a0_1) ∧ w'.cell? ⟨gb183, 2, none⟩ = some (.int .i64 a0_2) ∧ w'.cell? ⟨gb183, 3, none⟩ = some (.int .u32 a0_3) ∧ w'.cell? ⟨gb183, 4, none⟩ = some (.int .u8 a0_4) ∧ w'.cell? ⟨gb183, 5, none⟩ = some (.int .u16 a0_5) ∧ w'.cell? ⟨gb183, 6, none⟩ = some (.int .u16 a0_6)) ∧ (Kd.R (Kd.int .u64) 22 w' w.heap.size (fun _ => True) (.slice Ao70 y238.length co70) y238) ∧ (Kd.R (Kd.int .u8) 5 w' w.heap.size (fun k_ => some k_ ≠ (s_.1 : Value).ownBlock ∧ some k_ ≠ (s_.2 : Value).ownBlock) (.slice Ao72 t241.length co72) t241) ∧ (Kd.R (Kd.int .u8) 5 w' w.heap.size (fun k_ => some k_ ≠ (.slice Ao72 t241.length co72 : Value).ownBlock ∧ some k_ ≠ (s_.2 : Value).ownBlock) s_.1 y244) ∧ (Kd.R (Kd.int .u8) 5 w' w.heap.size (fun k_ => some k_ ≠ (.slice Ao72 t241.length co72 : Value).ownBlock ∧ some k_ ≠ (s_.1 : Value).ownBlock) s_.2 t247) ∧ (w'.heap[gb183]? = some (.cells #[.int .u8 a0_0, .int .u64 a0_1, .int .i64 a0_2, .int .u32 a0_3, .int .u8 a0_4, .int .u16 a0_5, .int .u16 a0_6] 28 (0, 0))) ∧ (Below w.heap.size w w')) ?_ ?_
           rotate_left
           · intro hCont
             refine two_ (i := 2) (j := 6) (Ni := some 60) (Nj := some 64) #[true, true, true, true, true, true, false, false, true, false, false] #[true, true, false, true, true, true, true, false, true, false, false] rfl rfl rfl rfl (two_of HT_.out (by kernel_rfl)) (by decide) (by decide) (fun K hK => ?_) (fun K hK => ?_)
             · skip
               refine Kd.R_lit_step (Kd.int .u8) _ 5 ?hg (N := 60) ?hd (xs := ([a0_0] : List Int)) (inner := [.int .u8 a0_0]) (ok := fun _ => True) (okp := fun _ => True) ?hr ?hp (fun _ hk => hk) trivial (Below.refl _ _) (Nat.le_refl _) (by simp) ?_; (case hd => rfl); (case hg => rfl); (case hr => first | (go_simp; done)); (case hp => exact (Reps.one (show Kd.M (Kd.int .u8) _ _ _ a0_0 [.int .u8 a0_0] from rfl) (Reps.none _ _)))
               intro v245 w74 ho75 hb hg_ hnew_
               clear hg_ hnew_
               (first | rw [← Ny244.out] at ho75)
               have n0_ := Aside0.mk (Kd.R_below (by exact HO240.out) hb)
               have n1_ := Aside0.mk (Kd.R_elder' (by exact HO243.out) (Kd.R_base ho75) hb)
               have n2_ := Aside0.mk (Kd.R_lower (Kd.R_new' ho75 (Kd.R_lt (by exact HO243.out))) (below_size (by repeat (first | (with_reducible first | exact HB.out | refine below_set ?_ GE183.out)))))
               have n3_ := Aside0.mk (blk_below (g := gb183) (o := .cells #[.int .u8 a0_0, .int .u64 a0_1, .int .i64 a0_2, .int .u32 a0_3, .int .u8 a0_4, .int .u16 a0_5, .int .u16 a0_6] 28 (0, 0)) (by exact BK183.out) hb)
               have n4_ := Aside0.mk (below_step (by repeat (first | (with_reducible first | exact HB.out | refine below_set ?_ GE183.out))) hb)
               clear HO240
               clear HO243
               clear BK183
               clear HB
               have HO240 := n0_
               have HO243 := n1_
               have HO246 := n2_
               have BK183 := n3_
               have HB := n4_
               clear n0_ n1_ n2_ n3_ n4_
               clear hb ho75
               refine hK.out _ _ ⟨(blk_cell BK183.out 0).trans rfl, (blk_cell BK183.out 1).trans rfl, (blk_cell BK183.out 2).trans rfl, (blk_cell BK183.out 3).trans rfl, (blk_cell BK183.out 4).trans rfl, (blk_cell BK183.out 5).trans rfl, (blk_cell BK183.out 6).trans rfl⟩ (fun hHeld => ?_)
               clear hK K
               refine norm_ (a' := ?_) ?_ ?_
               rotate_left
               · show Act.put _ (some 60) _ = _
                 simp only [Act.put, List.setIfInBounds_toArray, List.set_cons_zero, List.set_cons_succ, i64_w, i32_w]
                 rfl
               refine one_ (i := 6) (N := some 64) #[true, true, true, true, true, true, true, false, true, false, false] rfl rfl (one_of HT_.out (by kernel_rfl)) (by decide) (fun K hK => ?_)
               refine goes_ Try.func15 (by kernel_rfl) rfl #[.int .u64 (IntKind.u64.wrap ((t241.length : Int)))] (by rfl) rfl rfl (by (try simp only [List.map_toArray, List.map_cons, List.map_nil]); first | rfl) ?_
               with_reducible refine (milestoneref01_Coin.calls k (IntKind.u64.wrap ((t241.length : Int))) t247 _ A63.out).mono ?_
               rintro e w76 ⟨v248, rfl, ho0, hb⟩
               refine ⟨_, rfl, ?_⟩
               have n0_ := Aside0.mk (Kd.R_below (by exact HO240.out) hb)
               have n1_ := Aside0.mk (Kd.R_elder' (by exact HO243.out) (Kd.R_base ho0) hb)
               have n2_ := Aside0.mk (Kd.R_elder' (by exact HO246.out) (Kd.R_base ho0) hb)
               have n3_ := Aside0.mk (Kd.R_lower (Kd.R_new' (Kd.R_new' ho0 (Kd.R_lt (by exact HO243.out))) (Kd.R_lt (by exact HO246.out))) (below_size (by repeat (first | (with_reducible first | exact HB.out | refine below_set ?_ GE183.out)))))
               have n4_ := Aside0.mk (blk_below (g := gb183) (o := .cells #[.int .u8 a0_0, .int .u64 a0_1, .int .i64 a0_2, .int .u32 a0_3, .int .u8 a0_4, .int .u16 a0_5, .int .u16 a0_6] 28 (0, 0)) (by exact BK183.out) hb)
               have n5_ := Aside0.mk (below_step (by repeat (first | (with_reducible first | exact HB.out | refine below_set ?_ GE183.out))) hb)
               clear HO240
               clear HO243
               clear HO246
               clear BK183
               clear HB
               have HO240 := n0_
               have HO243 := n1_
               have HO246 := n2_
               have HO249 := n3_
               have BK183 := n4_
               have HB := n5_
               clear n0_ n1_ n2_ n3_ n4_ n5_
               (try clear hb)
               (try clear hb2)
               (try clear hk)
               (try clear hi)
               (try clear ho0)
               refine hK.out _ _ ⟨(blk_cell BK183.out 0).trans rfl, (blk_cell BK183.out 1).trans rfl, (blk_cell BK183.out 2).trans rfl, (blk_cell BK183.out 3).trans rfl, (blk_cell BK183.out 4).trans rfl, (blk_cell BK183.out 5).trans rfl, (blk_cell BK183.out 6).trans rfl⟩ (fun hHeld => ?_)
               clear hK K
               refine norm_ (a' := ?_) ?_ ?_
               rotate_left
               · show Act.put _ (some 64) _ = _
                 simp only [Act.put, List.setIfInBounds_toArray, List.set_cons_zero, List.set_cons_succ, i64_w, i32_w]
                 rfl
               exact norm_ (by simp only [putAll, Act.put, List.setIfInBounds_toArray, List.set_cons_zero, List.set_cons_succ]) (hCont (v245, v248) _ ⟨hHeld, (by exact HO240.out), (by exact Kd.R_mono HO243.out (fun _ hk => ⟨hk.1.2, hk.2⟩)), (by exact Kd.R_mono HO246.out (fun _ hk => ⟨hk.1.2, hk.2⟩)), (by exact Kd.R_mono HO249.out (fun _ hk => ⟨hk.1.2, hk.2⟩)), (by exact BK183.out), (by repeat (first | (with_reducible first | exact HB.out | refine below_set ?_ GE183.out)))⟩)
             · skip
               refine goes_ Try.func15 (by kernel_rfl) rfl #[.int .u64 (IntKind.u64.wrap ((t241.length : Int)))] (by rfl) rfl rfl (by (try simp only [List.map_toArray, List.map_cons, List.map_nil]); first | rfl) ?_
               with_reducible refine (milestoneref01_Coin.calls k (IntKind.u64.wrap ((t241.length : Int))) t247 _ A63.out).mono ?_
               rintro e w74 ⟨v248, rfl, ho0, hb⟩
               refine ⟨_, rfl, ?_⟩
               have n0_ := Aside0.mk (Kd.R_below (by exact HO240.out) hb)
               have n1_ := Aside0.mk (Kd.R_elder' (by exact HO243.out) (Kd.R_base ho0) hb)
               have n2_ := Aside0.mk (Kd.R_lower (Kd.R_new' ho0 (Kd.R_lt (by exact HO243.out))) (below_size (by repeat (first | (with_reducible first | exact HB.out | refine below_set ?_ GE183.out)))))
               have n3_ := Aside0.mk (blk_below (g := gb183) (o := .cells #[.int .u8 a0_0, .int .u64 a0_1, .int .i64 a0_2, .int .u32 a0_3, .int .u8 a0_4, .int .u16 a0_5, .int .u16 a0_6] 28 (0, 0)) (by exact BK183.out) hb)
               have n4_ := Aside0.mk (below_step (by repeat (first | (with_reducible first | exact HB.out | refine below_set ?_ GE183.out))) hb)
               clear HO240
               clear HO243
               clear BK183
               clear HB
               have HO240 := n0_
               have HO243 := n1_
               have HO249 := n2_
               have BK183 := n3_
               have HB := n4_
               clear n0_ n1_ n2_ n3_ n4_
               (try clear hb)
               (try clear hb2)
               (try clear hk)
               (try clear hi)
               (try clear ho0)
               refine hK.out _ _ ⟨(blk_cell BK183.out 0).trans rfl, (blk_cell BK183.out 1).trans rfl, (blk_cell BK183.out 2).trans rfl, (blk_cell BK183.out 3).trans rfl, (blk_cell BK183.out 4).trans rfl, (blk_cell BK183.out 5).trans rfl, (blk_cell BK183.out 6).trans rfl⟩ (fun hHeld => ?_)
               clear hK K
               refine norm_ (a' := ?_) ?_ ?_
               rotate_left
               · show Act.put _ (some 64) _ = _
                 simp only [Act.put, List.setIfInBounds_toArray, List.set_cons_zero, List.set_cons_succ, i64_w, i32_w]
                 rfl
               refine one_ (i := 2) (N := some 60) #[true, true, true, true, true, true, true, false, true, false, false] rfl rfl (one_of HT_.out (by kernel_rfl)) (by decide) (fun K hK => ?_)
               refine Kd.R_lit_step (Kd.int .u8) _ 5 ?hg (N := 60) ?hd (xs := ([a0_0] : List Int)) (inner := [.int .u8 a0_0]) (ok := fun _ => True) (okp := fun _ => True) ?hr ?hp (fun _ hk => hk) trivial (Below.refl _ _) (Nat.le_refl _) (by simp) ?_; (case hd => rfl); (case hg => rfl); (case hr => first | (go_simp; done)); (case hp => exact (Reps.one (show Kd.M (Kd.int .u8) _ _ _ a0_0 [.int .u8 a0_0] from rfl) (Reps.none _ _)))
               intro v245 w75 ho76 hb hg_ hnew_
               clear hg_ hnew_
               (first | rw [← Ny244.out] at ho76)
               have n0_ := Aside0.mk (Kd.R_below (by exact HO240.out) hb)
               have n1_ := Aside0.mk (Kd.R_elder' (by exact HO243.out) (Kd.R_base ho76) hb)
               have n2_ := Aside0.mk (Kd.R_elder' (by exact HO249.out) (Kd.R_base ho76) hb)
               have n3_ := Aside0.mk (Kd.R_lower (Kd.R_new' (Kd.R_new' ho76 (Kd.R_lt (by exact HO243.out))) (Kd.R_lt (by exact HO249.out))) (below_size (by repeat (first | (with_reducible first | exact HB.out | refine below_set ?_ GE183.out)))))
               have n4_ := Aside0.mk (blk_below (g := gb183) (o := .cells #[.int .u8 a0_0, .int .u64 a0_1, .int .i64 a0_2, .int .u32 a0_3, .int .u8 a0_4, .int .u16 a0_5, .int .u16 a0_6] 28 (0, 0)) (by exact BK183.out) hb)
               have n5_ := Aside0.mk (below_step (by repeat (first | (with_reducible first | exact HB.out | refine below_set ?_ GE183.out))) hb)
               clear HO240
               clear HO243
               clear HO249
               clear BK183
               clear HB
               have HO240 := n0_
               have HO243 := n1_
               have HO249 := n2_
               have HO246 := n3_
               have BK183 := n4_
               have HB := n5_
               clear n0_ n1_ n2_ n3_ n4_ n5_
               clear hb ho76
               refine hK.out _ _ ⟨(blk_cell BK183.out 0).trans rfl, (blk_cell BK183.out 1).trans rfl, (blk_cell BK183.out 2).trans rfl, (blk_cell BK183.out 3).trans rfl, (blk_cell BK183.out 4).trans rfl, (blk_cell BK183.out 5).trans rfl, (blk_cell BK183.out 6).trans rfl⟩ (fun hHeld => ?_)
               clear hK K
               refine norm_ (a' := ?_) ?_ ?_
               rotate_left
               · show Act.put _ (some 60) _ = _
                 simp only [Act.put, List.setIfInBounds_toArray, List.set_cons_zero, List.set_cons_succ, i64_w, i32_w]
                 rfl
               exact norm_ (by simp only [putAll, Act.put, List.setIfInBounds_toArray, List.set_cons_zero, List.set_cons_succ]) (hCont (v245, v248) _ ⟨hHeld, (by exact HO240.out), (by exact Kd.R_mono HO243.out (fun _ hk => ⟨hk.2, hk.1.2⟩)), (by exact Kd.R_mono HO246.out (fun _ hk => ⟨hk.1.2, hk.2⟩)), (by exact Kd.R_mono HO249.out (fun _ hk => ⟨hk.1.2, hk.2⟩)), (by exact BK183.out), (by repeat (first | (with_reducible first | exact HB.out | refine below_set ?_ GE183.out)))⟩)
           rintro ⟨v245, v248⟩ w77 ⟨hS_, h0_, h1_, h2_, h3_, h4_, h5_⟩
           have n0_ : Aside0 (Kd.R (Kd.int .u64) 22 w77 w.heap.size (fun _ => True) (.slice Ao70 y238.length co70) y238) := ⟨h0_⟩
           have n1_ : Aside0 (Kd.R (Kd.int .u8) 5 w77 w.heap.size (fun k_ => some k_ ≠ (v245 : Value).ownBlock ∧ some k_ ≠ (v248 : Value).ownBlock) (.slice Ao72 t241.length co72) t241) := ⟨h1_⟩
           have n2_ : Aside0 (Kd.R (Kd.int .u8) 5 w77 w.heap.size (fun k_ => some k_ ≠ (.slice Ao72 t241.length co72 : Value).ownBlock ∧ some k_ ≠ (v248 : Value).ownBlock) v245 y244) := ⟨h2_⟩
           have n3_ : Aside0 (Kd.R (Kd.int .u8) 5 w77 w.heap.size (fun k_ => some k_ ≠ (.slice Ao72 t241.length co72 : Value).ownBlock ∧ some k_ ≠ (v245 : Value).ownBlock) v248 t247) := ⟨h3_⟩
           have n4_ : Aside0 (w77.heap[gb183]? = some (.cells #[.int .u8 a0_0, .int .u64 a0_1, .int .i64 a0_2, .int .u32 a0_3, .int .u8 a0_4, .int .u16 a0_5, .int .u16 a0_6] 28 (0, 0))) := ⟨h4_⟩
           have n5_ : Aside0 (Below w.heap.size w w77) := ⟨h5_⟩
           clear HO240
           clear HO243
           clear BK183
           clear HB
           clear h0_ h1_ h2_ h3_ h4_ h5_
           have HO240 := n0_
           have HO243 := n1_
           have HO246 := n2_
           have HO249 := n3_
           have BK183 := n4_
           have HB := n5_
           clear n0_ n1_ n2_ n3_ n4_ n5_
           have hHeld : w77.cell? ⟨gb183, 0, none⟩ = some (.int .u8 a0_0) ∧ w77.cell? ⟨gb183, 1, none⟩ = some (.int .u64 a0_1) ∧ w77.cell? ⟨gb183, 2, none⟩ = some (.int .i64 a0_2) ∧ w77.cell? ⟨gb183, 3, none⟩ = some (.int .u32 a0_3) ∧ w77.cell? ⟨gb183, 4, none⟩ = some (.int .u8 a0_4) ∧ w77.cell? ⟨gb183, 5, none⟩ = some (.int .u16 a0_5) ∧ w77.cell? ⟨gb183, 6, none⟩ = some (.int .u16 a0_6) := hS_
           obtain ⟨Ao79, co79, eo79⟩ := Kd.R_slice HO249.out
           (first | subst eo79)
           refine norm_ (a' := ?_) ?_ ?_
           rotate_left
           · simp only [putAll, Act.put, List.setIfInBounds_toArray, List.set_cons_zero, List.set_cons_succ]
             rfl
           refine one_ (i := 7) (N := some 65) #[true, true, true, true, true, true, true, true, true, false, false] rfl rfl (one_of HT_.out (by kernel_rfl)) (by decide) (fun K hK => ?_)
           refine Kd.R_append_rows_step (Kd.int .u8) (w0 := w) w.heap.size (by rfl) (.tmp 60) (.tmp 64) 30 5 (.int .u8 0) 1 rfl Try.underlying30 info5 rfl (by decide) (by omega) v245 y244 t247 _ _ _ (fun k_ => some k_ ≠ (.slice Ao72 t241.length co72 : Value).ownBlock ∧ some k_ ≠ (.slice Ao79 t247.length co79 : Value).ownBlock) (fun _ => False) rfl rfl ?aO ?aR (fun _ _ h => h) (fun _ h => h.elim) ?aF ?aB ?aS ?aL ?_
           (case aR => repeat (first | exact (Kd.R_reads' HO249.out).2.2 | (with_reducible refine Kd.C_drew ?_)))
           (case aB => exact (by repeat (first | (with_reducible first | exact HB.out | refine below_set ?_ GE183.out))))
           (case aF => exact (fun k_ hk => ⟨Kd.fresh' (Kd.R_lt (by exact HO243.out)) k_ hk, Kd.fresh' (Kd.R_lt (by exact HO249.out)) k_ hk⟩))
           (case aO => exact (by exact HO246.out))
           (case aS => exact (below_size (by repeat (first | (with_reducible first | exact HB.out | refine below_set ?_ GE183.out)))))
           (case aL => have := LMc64.out; omega)
           intro v251 w78 ho hb hg hat
           rw [← Ny250.out] at ho
           have n0_ := Aside0.mk (blk_grown (g := gb183) (o := .cells #[.int .u8 a0_0, .int .u64 a0_1, .int .i64 a0_2, .int .u32 a0_3, .int .u8 a0_4, .int .u16 a0_5, .int .u16 a0_6] 28 (0, 0)) (by exact BK183.out) hg (Kd.R_ne HO246.out BK183.out (by decide)))
           have n1_ := Aside0.mk (Kd.R_over' (by exact HO240.out) (Kd.R_typed (by exact HO246.out)) (by decide) hg)
           have n2_ := Aside0.mk (Kd.R_after (ok := (fun k_ => some k_ ≠ (.slice Ao79 t247.length co79 : Value).ownBlock)) (by exact Kd.R_mono HO243.out (fun _ hk => ⟨hk.2, hk.1⟩)) hg hat)
           have n3_ := Aside0.mk (Kd.R_after (ok := (fun k_ => some k_ ≠ (.slice Ao72 t241.length co72 : Value).ownBlock)) (by exact HO249.out) hg hat)
           have n4_ := Aside0.mk (hb)
           have n5_ := Aside0.mk (ho)
           clear BK183
           clear HO240
           clear HO243
           clear HO249
           clear HB
           clear HO246
           have BK183 := n0_
           have HO240 := n1_
           have HO243 := n2_
           have HO249 := n3_
           have HB := n4_
           have HO252 := n5_
           clear n0_ n1_ n2_ n3_ n4_ n5_
           clear ho hb hg hat
           refine hK.out _ _ ⟨(blk_cell BK183.out 0).trans rfl, (blk_cell BK183.out 1).trans rfl, (blk_cell BK183.out 2).trans rfl, (blk_cell BK183.out 3).trans rfl, (blk_cell BK183.out 4).trans rfl, (blk_cell BK183.out 5).trans rfl, (blk_cell BK183.out 6).trans rfl⟩ (fun hHeld => ?_)
           clear hK K
           refine norm_ (a' := ?_) ?_ ?_
           rotate_left
           · show Act.put _ (some 65) _ = _
             simp only [Act.put, List.setIfInBounds_toArray, List.set_cons_zero, List.set_cons_succ, i64_w, i32_w]
             rfl
           refine one_ (i := 9) (N := some 67) #[true, true, true, true, true, true, true, true, true, true, false] rfl rfl (one_of HT_.out (by kernel_rfl)) (by decide) (fun K hK => ?_)
           refine Kd.R_append_rows_step (Kd.int .u8) (w0 := w) w.heap.size (by rfl) (.tmp 65) (.tmp 66) 30 5 (.int .u8 0) 1 rfl Try.underlying30 info5 rfl (by decide) (by omega) v251 y250 t241 _ _ _ (fun k_ => some k_ ≠ (.slice Ao72 t241.length co72 : Value).ownBlock ∧ some k_ ≠ (.slice Ao79 t247.length co79 : Value).ownBlock) (fun _ => False) rfl rfl ?aO ?aR (fun _ _ h => h) (fun _ h => h.elim) ?aF ?aB ?aS ?aL ?_
           (case aR => repeat (first | exact (Kd.R_reads' HO243.out).2.2 | (with_reducible refine Kd.C_drew ?_)))
           (case aB => exact (by repeat (first | (with_reducible first | exact HB.out | refine below_set ?_ GE183.out))))
           (case aF => exact (fun k_ hk => ⟨Kd.fresh' (Kd.R_lt (by exact HO243.out)) k_ hk, Kd.fresh' (Kd.R_lt (by exact HO249.out)) k_ hk⟩))
           (case aO => exact (by exact HO252.out))
           (case aS => exact (below_size (by repeat (first | (with_reducible first | exact HB.out | refine below_set ?_ GE183.out)))))
           (case aL => have := LMc65.out; omega)
           intro v254 w80 ho hb hg hat
           rw [← Ny253.out] at ho
           have n0_ := Aside0.mk (blk_grown (g := gb183) (o := .cells #[.int .u8 a0_0, .int .u64 a0_1, .int .i64 a0_2, .int .u32 a0_3, .int .u8 a0_4, .int .u16 a0_5, .int .u16 a0_6] 28 (0, 0)) (by exact BK183.out) hg (Kd.R_ne HO252.out BK183.out (by decide)))
           have n1_ := Aside0.mk (Kd.R_over' (by exact HO240.out) (Kd.R_typed (by exact HO252.out)) (by decide) hg)
           have n2_ := Aside0.mk (Kd.R_after (ok := (fun k_ => some k_ ≠ (.slice Ao79 t247.length co79 : Value).ownBlock)) (by exact HO243.out) hg hat)
           have n3_ := Aside0.mk (Kd.R_after (ok := (fun k_ => some k_ ≠ (.slice Ao72 t241.length co72 : Value).ownBlock)) (by exact HO249.out) hg hat)
           have n4_ := Aside0.mk (hb)
           have n5_ := Aside0.mk (ho)
           clear BK183
           clear HO240
           clear HO243
           clear HO249
           clear HB
           clear HO252
           have BK183 := n0_
           have HO240 := n1_
           have HO243 := n2_
           have HO249 := n3_
           have HB := n4_
           have HO255 := n5_
           clear n0_ n1_ n2_ n3_ n4_ n5_
           clear ho hb hg hat
           refine hK.out _ _ ⟨(blk_cell BK183.out 0).trans rfl, (blk_cell BK183.out 1).trans rfl, (blk_cell BK183.out 2).trans rfl, (blk_cell BK183.out 3).trans rfl, (blk_cell BK183.out 4).trans rfl, (blk_cell BK183.out 5).trans rfl, (blk_cell BK183.out 6).trans rfl⟩ (fun hHeld => ?_)
           clear hK K
           refine norm_ (a' := ?_) ?_ ?_
           rotate_left
           · show Act.put _ (some 67) _ = _
             simp only [Act.put, List.setIfInBounds_toArray, List.set_cons_zero, List.set_cons_succ, i64_w, i32_w]
             rfl
           refine pure_ (i := 10) (N := some 2) (v := ?_) (a' := ?_) #[true, true, true, true, true, true, true, true, true, true, true] rfl rfl (any_of HT_.out (by kernel_rfl)) (fun _ _ _ h => h) (Or.inl ⟨by rfl, ?_⟩) ?_ ?_
           rotate_left
           · intro w'
             go_simp
             with_reducible rfl
           rotate_left
           · simp only [Act.put, List.setIfInBounds_toArray, List.set_cons_zero, List.set_cons_succ, i64_w, i32_w]
             rfl
           refine done_ (done_of HT_.out (by kernel_rfl)) ?_
           try go_wp2
           go_ret
           exact ⟨_, by first | rfl | (simp [*, errW_none, errW_some] <;> rfl), by exact Kd.R_mono HO255.out (fun _ hk => trivial), by repeat (first | (with_reducible first | exact HB.out | refine below_set ?_ GE183.out))⟩
         · rw [if_neg c65] at H
           exact absurd H (by simp)
       · rw [if_neg c64] at H
         exact absurd H (by simp)

end Go.Proofs.Ytnfdgpmdakciiaa.QMessageRights
