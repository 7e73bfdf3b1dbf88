-- Lines by a program of this session, for this claim.
import Derived.Test.YtmkjgiejnlmncaaQTableBytesx0
import Derived.Test.YtmkjgiejnlmncaaQTableBytesx1
import Derived.Test.YtmkjgiejnlmncaaQTableBytesx10
namespace Go.Proofs.Ytmkjgiejnlmncaa.QTableBytes
open Go.RowKit Go.Proofs.YtmkjgiejnlmncaaW.PrintWords Go.Proofs.YtmkjgiejnlmncaaW.PrintLast Go.Proofs.YtmkjgiejnlmncaaW.PrintMore
attribute [local go_sem] max2_int min2_int max_two min_two max_three min_three max_four min_four   -- for this text's walks alone
set_option linter.unusedVariables false
set_option linter.unusedSimpArgs false

attribute [local go_sem high] eqA33
/-! ### gb_Prefixes: function 28 -/
mutual
def gb_Prefixes.l0 : Nat → List (S38) → List (S33) → Int → Option ((List (S33)))
 | 0, _, _, _ => none
 | k + 1, x0, x3, x4 => if x4 < (x0.length : Int) then (if 0 ≤ x4 then (gb_Prefixes.l1 k x0 x3 x4 0 ((rd_T38 x0 x4).f3.f0.f0) ((rd_T38 x0 x4).f3.f0.f1)) else (none)) else (some x3)
def gb_Prefixes.l1 : Nat → List (S38) → List (S33) → Int → Int → Int → Int → Option ((List (S33)))
 | 0, _, _, _, _, _, _ => none
 | k + 1, x0, x3, x4, x6, x207000, x207001 => if x6 < (x3.length : Int) then (if 0 ≤ x6 then ((ga_Ahead.f ((rd_T33 x3 x6).f0) ((rd_T33 x3 x6).f1) x207000 x207001).bind fun t208 => (if t208 = true then (gb_Prefixes.l1 k x0 x3 x4 (wrap64 (x6 + 1)) x207000 x207001) else (if (((rd_T33 x3 x6).f0) == x207000 && (((rd_T33 x3 x6).f1) == x207001)) = true then (gb_Prefixes.l0 k x0 x3 (wrap64 (x4 + 1))) else (if x6 ≤ (x3.length : Int) then ((some (x3.take (x6 : Int).toNat : List (S33))).bind fun y210 => (if ([] : List (S33)).length + y210.length < 17592186044416 then ((some (([] : List (S33)) ++ y210 : List (S33))).bind fun y214 => (if y214.length < 17592186044416 then ((some (y214 ++ [(⟨x207000, x207001⟩ : S33)] : List (S33))).bind fun y217 => ((some (x3.drop (x6 : Int).toNat : List (S33))).bind fun y220 => (if y217.length + y220.length < 17592186044416 then (gb_Prefixes.l0 k x0 (y217 ++ y220) (wrap64 (x4 + 1))) else (none)))) else (none))) else (none))) else (none))))) else (none)) else (if 0 ≤ x6 then (if x6 ≤ (x3.length : Int) then ((some (x3.take (x6 : Int).toNat : List (S33))).bind fun y227 => (if ([] : List (S33)).length + y227.length < 17592186044416 then ((some (([] : List (S33)) ++ y227 : List (S33))).bind fun y231 => (if y231.length < 17592186044416 then ((some (y231 ++ [(⟨x207000, x207001⟩ : S33)] : List (S33))).bind fun y234 => ((some (x3.drop (x6 : Int).toNat : List (S33))).bind fun y237 => (if y234.length + y237.length < 17592186044416 then (gb_Prefixes.l0 k x0 (y234 ++ y237) (wrap64 (x4 + 1))) else (none)))) else (none))) else (none))) else (none)) else (none))
end
def gb_Prefixes.f (k : Nat) (l0 : List (S38)) : Option ((List (S33))) := gb_Prefixes.l0 k l0 ([] : List (S33)) 0
theorem gb_Prefixes.mono_l : ∀ k, (∀ y0 y1 y2, LeO (gb_Prefixes.l0 k y0 y1 y2) (gb_Prefixes.l0 (k + 1) y0 y1 y2)) ∧ (∀ y0 y1 y2 y3 y4 y5, LeO (gb_Prefixes.l1 k y0 y1 y2 y3 y4 y5) (gb_Prefixes.l1 (k + 1) y0 y1 y2 y3 y4 y5))
 | 0 => ⟨fun _ _ _ r h => by simp [gb_Prefixes.l0] at h, fun _ _ _ _ _ _ r h => by simp [gb_Prefixes.l1] at h⟩
 | k + 1 => by
  obtain ⟨ih0, ih1⟩ := gb_Prefixes.mono_l k; refine ⟨?_, ?_⟩
  · intro y0 y1 y2
    unfold gb_Prefixes.l0
    repeat' first
    | (with_reducible exact ih0 ..)
    | (with_reducible exact ih1 ..)
    | (with_reducible exact LeO.refl ..)
    | (with_reducible exact LeO.none ..)
    | (with_reducible refine LeO.ite ?_ ?_)
    | (with_reducible refine LeO.bind ?_ (fun _ => ?_))
  · intro y0 y1 y2 y3 y4 y5
    unfold gb_Prefixes.l1
    repeat' first
    | (with_reducible exact ih0 ..)
    | (with_reducible exact ih1 ..)
    | (with_reducible exact LeO.refl ..)
    | (with_reducible exact LeO.none ..)
    | (with_reducible refine LeO.ite ?_ ?_)
    | (with_reducible refine LeO.bind ?_ (fun _ => ?_))
theorem gb_Prefixes.mono : ∀ a0 k, LeO (gb_Prefixes.f k a0) (gb_Prefixes.f (k + 1) a0) := by
 intro a0 k; obtain ⟨ih0, ih1⟩ := gb_Prefixes.mono_l k
 unfold gb_Prefixes.f
 repeat' first
  | (with_reducible exact ih0 ..)
  | (with_reducible exact ih1 ..)
  | (with_reducible exact LeO.refl ..)
  | (with_reducible exact LeO.none ..)
  | (with_reducible refine LeO.ite ?_ ?_)
  | (with_reducible refine LeO.bind ?_ (fun _ => ?_))
def gb_Prefixes.T7 : Bool × List (List Nat × List Nat) := (true, [([], []), ([], []), ([1], [1]), ([0, 2], [0, 2]), ([3], [3]), ([4], [4]), ([4], [4]), ([5, 6, 4], [4, 5, 6]), ([7, 4], [4, 7]), ([4], [4]), ([8, 9, 4, 4], [4, 8, 9]), ([4, 10], [4, 10])])
def gb_Prefixes.B7 : List Nat := [0, 0, 2, 7, 15, 31, 31, 127, 255, 31, 1023, 2047]
theorem gb_Prefixes.tab7 : rtab .any (opsOf Try.f28 7) = gb_Prefixes.T7 := by kernel_rfl
theorem gb_Prefixes.bits7 : waitsOk gb_Prefixes.T7.2 gb_Prefixes.B7 = true := by kernel_rfl
def gb_Prefixes.T9 : Bool × List (List Nat × List Nat) := (true, [([], []), ([], []), ([1], [1]), ([0, 2], [0, 2]), ([3], [3]), ([4], [4]), ([4], [4]), ([5, 6, 4], [4, 5, 6]), ([7, 4], [4, 7]), ([4], [4]), ([8, 9, 4], [4, 8, 9]), ([4, 10], [4, 10])])
def gb_Prefixes.B9 : List Nat := [0, 0, 2, 7, 15, 31, 31, 127, 255, 31, 1023, 2047]
theorem gb_Prefixes.tab9 : rtab .any (opsOf Try.f28 9) = gb_Prefixes.T9 := by kernel_rfl
theorem gb_Prefixes.bits9 : waitsOk gb_Prefixes.T9.2 gb_Prefixes.B9 = true := by kernel_rfl
set_option maxHeartbeats 8000000 in
set_option maxRecDepth 100000 in
theorem gb_Prefixes.calls (k : Nat) (A0 : Option Addr) (c0 : Nat) (l0 : List (S38)) (r : List (S33)) (w : World) (hr0 : Kd.C k38 w A0 l0.length l0) (hc0 : l0.length ≤ c0) (h : gb_Prefixes.f k l0 = some r) :
 Calls Try.prog 28 #[.slice A0 l0.length c0] w fun e w' => ∃ v0_ : Value, e = .returned (v0_) ∧ Kd.R k33 33 w' w.heap.size (fun _ => True) v0_ r ∧ Below w.heap.size w w' := by
 have hu33 := Try.underlying33; have HR0 := Ad hr0; have HC0 := Ad hc0; clear hr0 hc0; have HB := Ad (Below.refl w.heap.size w); have H : (gb_Prefixes.l0 k l0 ([] : List (S33)) 0) = some r := h; clear h; have H' := Ad H; clear H
 go_enter Try.func28, Try.ntmps28
 go_wp2
 go_loopg [3, 4] k (fun kq v3 v4 w' => ∃ (x3_1 : List (S33)) (x4_1 : Int), v4 = .int .i64 x4_1 ∧ Aside0 (gb_Prefixes.l0 kq l0 x3_1 x4_1 = some r) ∧ Aside0 (kq ≤ k) ∧ Aside0 (Kd.R k33 33 w' w.heap.size (fun _ => True) v3 x3_1) ∧ Aside0 (Below w.heap.size w w'))
 case atStart => exact ⟨(([] : List (S33))), (0), (by first | rfl), H', ⟨Nat.le_refl _⟩, ⟨by first | exact Kd.R_nil _ _ _ _ _⟩, ⟨by repeat (first | (with_reducible first | exact HB.out))⟩⟩
 case round =>
  clear H'; obtain ⟨x3_1, x4_1, rfl, HA, HK1, HO_3, HB⟩ := hrel
  cases gk with
  | zero => exact absurd HA.out (by simp [gb_Prefixes.l0])
  | succ k1 =>
   have H := HA.out; clear HA
   simp only [gb_Prefixes.l0] at H
   by_cases c2 : x4_1 < (l0.length : Int)
   · rw [if_pos c2] at H
     have c2b0 : decide (x4_1 < (l0.length : Int)) = true := decide_eq_true c2; clear c2
     by_cases c3 : 0 ≤ x4_1
     · rw [if_pos c3] at H
       have c3b0 : decide (0 ≤ x4_1) = true := decide_eq_true c3; clear c3; have H' := Ad H; clear H; have p205 : 0 ≤ (x4_1 : Int) := of_decide_eq_true (by first | (with_reducible assumption)); have q205 : x4_1 < (l0.length : Int) := of_decide_eq_true (by first | (with_reducible assumption)); obtain ⟨ad205, e205, hx205_0, hx205_1, hx205_2, hx205_3, hx205_4, hx205_5, hx205_6, hx205_7⟩ := at_T38 HR0.out x4_1 p205 q205; cases e205; replace hx205_0 := (HB.out.cell (World.block_lt_of_cell? w _ hx205_0)).trans hx205_0; replace hx205_1 := (HB.out.cell (World.block_lt_of_cell? w _ hx205_1)).trans hx205_1; replace hx205_2 := (HB.out.cell (World.block_lt_of_cell? w _ hx205_2)).trans hx205_2; replace hx205_3 := (HB.out.cell (World.block_lt_of_cell? w _ hx205_3)).trans hx205_3; replace hx205_4 := (HB.out.cell (World.block_lt_of_cell? w _ hx205_4)).trans hx205_4; replace hx205_5 := (HB.out.cell (World.block_lt_of_cell? w _ hx205_5)).trans hx205_5; replace hx205_6 := (HB.out.cell (World.block_lt_of_cell? w _ hx205_6)).trans hx205_6; replace hx205_7 := (HB.out.cell (World.block_lt_of_cell? w _ hx205_7)).trans hx205_7; replace p205 := eq_true p205; replace q205 := eq_true q205
       go_wp2_with (first | ((with_reducible refine gate_dst (N := 5) rfl ?_); refine box_event ?hg (N := 5) ?hd (cs := #[.int .u32 0, .int .u8 0]) (t := 33) ?hr ?_; (case hd => rfl); (case hg => rfl); (case hr => first | (go_simp; done)); intro gb206 hg w4 hbox hb; replace HO_3 := Ad (Kd.R_below (Kd.R_elderB (by exact HO_3.out) gb206 (Nat.le_of_eq hg.symm)) hb); have BK206 := Ad (hbox); have GW206 := Ad ((by rw [hg]; exact (below_size HB.out) : w.heap.size ≤ gb206)); have GE206 := GW206; replace HB := Ad (below_step HB.out hb); clear hb hbox hg; have hcz5_0 : w4.cell? ⟨gb206, 0, none⟩ = some (.int .u32 0) := (blk_cell BK206.out 0).trans rfl; have hcz5_1 : w4.cell? ⟨gb206, 1, none⟩ = some (.int .u8 0) := (blk_cell BK206.out 1).trans rfl; have hfz5_0 := blk_frozen BK206.out 0; have hfz5_1 := blk_frozen BK206.out 1))
       go_loopg [6] k1 (fun kq v6 w' => ∃ (x6_2 : Int), v6 = .int .i64 x6_2 ∧ Aside0 (gb_Prefixes.l1 kq l0 x3_1 x4_1 x6_2 ((rd_T38 l0 x4_1).f3.f0.f0) ((rd_T38 l0 x4_1).f3.f0.f1) = some r) ∧ Aside0 (kq ≤ k1) ∧ Aside0 (Kd.R k33 33 w' w.heap.size (fun k_ => k_ ≠ gb206) u3 x3_1) ∧ Aside0 (w'.heap[gb206]? = some (.cells #[.int .u32 ((rd_T38 l0 x4_1).f3.f0.f0), .int .u8 ((rd_T38 l0 x4_1).f3.f0.f1)] 33 (0, 0))) ∧ Aside0 (Below w.heap.size w w'))
       case atStart => exact ⟨(0), (by first | rfl), H', ⟨Nat.le_refl _⟩, ⟨by exact Kd.R_mono (Kd.R_far (p := ⟨gb206, 1, none⟩) (Kd.R_far (p := ⟨gb206, 0, none⟩) (Kd.R_mono HO_3.out (fun k_ hk => (⟨hk, hk.2⟩ : _ ∧ k_ ≠ gb206))) (fun _ hk => hk.2) (.int .u32 ((rd_T38 l0 x4_1).f3.f0.f0))) (fun _ hk => hk.2) (.int .u8 ((rd_T38 l0 x4_1).f3.f0.f1))) (fun _ hk => hk.1.2)⟩, ⟨by refine blk_put (cs := #[.int .u32 ((rd_T38 l0 x4_1).f3.f0.f0), .int .u8 0]) ?_ 1 _ rfl; refine blk_put (cs := #[.int .u32 0, .int .u8 0]) ?_ 0 _ rfl; exact BK206.out⟩, ⟨by repeat (first | (with_reducible first | exact HB.out | refine below_set ?_ GE206.out))⟩⟩
       case round =>
        clear H'
        try clear c2
        try clear c2b0
        try clear p2
        try clear q2
        try clear hx2
        try clear c3
        try clear c3b0
        try clear hcz5_0
        try clear hcz5_1
        try clear hfz5_0
        try clear hfz5_1
        try clear hx205_0
        try clear hx205_1
        try clear hx205_2
        try clear hx205_3
        try clear hx205_4
        try clear hx205_5
        try clear hx205_6
        try clear hx205_7
        try clear p205
        try clear q205
        obtain ⟨x6_2, rfl, HA, HK2, HO_3, BK206, HB⟩ := hrel
        cases gk with
        | zero => exact absurd HA.out (by simp [gb_Prefixes.l1])
        | succ k2 =>
         have H := HA.out; clear HA
         simp only [gb_Prefixes.l1] at H
         by_cases c6 : x6_2 < (x3_1.length : Int)
         · rw [if_pos c6] at H
           have c6b0 : decide (x6_2 < (x3_1.length : Int)) = true := decide_eq_true c6; clear c6
           by_cases c7 : 0 ≤ x6_2
           · rw [if_pos c7] at H
             have c7b0 : decide (0 ≤ x6_2) = true := decide_eq_true c7; clear c7; replace H := Option.bind_eq_some_iff.mp H; obtain ⟨t208, A80, H⟩ := H; replace H : (if t208 = true then (gb_Prefixes.l1 k2 l0 x3_1 x4_1 (wrap64 (x6_2 + 1)) ((rd_T38 l0 x4_1).f3.f0.f0) ((rd_T38 l0 x4_1).f3.f0.f1)) else (if (((rd_T33 x3_1 x6_2).f0) == ((rd_T38 l0 x4_1).f3.f0.f0) && (((rd_T33 x3_1 x6_2).f1) == ((rd_T38 l0 x4_1).f3.f0.f1))) = true then (gb_Prefixes.l0 k2 l0 x3_1 (wrap64 (x4_1 + 1))) else (if x6_2 ≤ (x3_1.length : Int) then ((some (x3_1.take (x6_2 : Int).toNat : List (S33))).bind fun y210 => (if ([] : List (S33)).length + y210.length < 17592186044416 then ((some (([] : List (S33)) ++ y210 : List (S33))).bind fun y214 => (if y214.length < 17592186044416 then ((some (y214 ++ [(⟨((rd_T38 l0 x4_1).f3.f0.f0), ((rd_T38 l0 x4_1).f3.f0.f1)⟩ : S33)] : List (S33))).bind fun y217 => ((some (x3_1.drop (x6_2 : Int).toNat : List (S33))).bind fun y220 => (if y217.length + y220.length < 17592186044416 then (gb_Prefixes.l0 k2 l0 (y217 ++ y220) (wrap64 (x4_1 + 1))) else (none)))) else (none))) else (none))) else (none)))) = some r := H; have A8 := Ad A80; clear A80
             by_cases c9 : t208 = true
             · subst c9
               have H1 : (gb_Prefixes.l1 k2 l0 x3_1 x4_1 (wrap64 (x6_2 + 1)) ((rd_T38 l0 x4_1).f3.f0.f0) ((rd_T38 l0 x4_1).f3.f0.f1)) = some r := by rw [if_pos rfl] at H; exact H
               clear H; have H := H1; clear H1; have H' := Ad H; clear H
               try go_wp2
               replace HO_3 := Ad (Kd.R_drew HO_3.out); replace BK206 := Ad (blk_drew BK206.out); replace HB := Ad (below_drew1 HB.out); obtain ⟨Ao11, co11, eo11⟩ := Kd.R_slice HO_3.out
               (first | subst eo11)
               have p207 : 0 ≤ (x6_2 : Int) := of_decide_eq_true (by first | (with_reducible assumption)); have q207 : x6_2 < (x3_1.length : Int) := of_decide_eq_true (by first | (with_reducible assumption)); obtain ⟨ad207, e207, hx207_0, hx207_1⟩ := at_T33 (Kd.R_reads' HO_3.out).2.2 x6_2 p207 q207; cases e207; replace p207 := eq_true p207; replace q207 := eq_true q207
               refine start_ (n := 12) (S := fun w' => w'.cell? ⟨gb206, 0, none⟩ = some (.int .u32 ((rd_T38 l0 x4_1).f3.f0.f0)) ∧ w'.cell? ⟨gb206, 1, none⟩ = some (.int .u8 ((rd_T38 l0 x4_1).f3.f0.f1)) ∧ w'.cell? (ad207.add ((x6_2).toNat * 2)) = some (.int .u32 ((rd_T33 x3_1 x6_2).f0)) ∧ w'.cell? ⟨(ad207.add ((x6_2).toNat * 2)).block, (ad207.add ((x6_2).toNat * 2)).off + 1, none⟩ = some (.int .u8 ((rd_T33 x3_1 x6_2).f1))) (ds := []) (tf 12 0) (by kernel_rfl) rfl rfl ⟨(blk_cell BK206.out 0).trans rfl, (blk_cell BK206.out 1).trans rfl, hx207_0, hx207_1⟩ (fun hHeld => ?_); refine with_tabW gb_Prefixes.tab7 gb_Prefixes.bits7 (fun HT_ HW_ => ?_)
               generalize wr.drew = w10 at HO_3 BK206 HB hx207_0 hx207_1 hHeld ⊢; refine pu 0 20 ?_ (tf 12 1) rfl rfl (any_of HT_.out (by kernel_rfl)) (fun _ _ _ h => h) (by rfl) ?_ ?_ ?_ ?_; rotate_left; · intro w'; go_simp; with_reducible rfl
               rotate_left; · simp only [Act.put, lz]; rfl
               refine pu 1 21 ?_ (tf 12 2) rfl rfl (any_of HT_.out (by kernel_rfl)) (fun _ _ _ h => h) (by rfl) ?_ ?_ ?_ ?_; rotate_left; · intro w'; go_simp; with_reducible rfl
               rotate_left; · simp only [Act.put, lz]; rfl
               refine pu 2 22 ?_ (tf 12 3) rfl rfl (any_of HT_.out (by kernel_rfl)) (fun _ _ _ h => h) (by rfl) ?_ ?_ ?_ ?_; rotate_left; · intro w'; go_simp; with_reducible rfl
               rotate_left; · simp only [Act.put, lz]; rfl
               refine pu 3 23 ?_ (tf 12 4) rfl rfl (any_of HT_.out (by kernel_rfl)) (fun _ _ _ h => h) (by rfl) ?_ ?_ ?_ ?_; rotate_left; · intro w'; go_simp; with_reducible rfl
               rotate_left; · simp only [Act.put, lz]; rfl
               refine pu 4 24 ?_ (tf 12 5) rfl rfl (any_of HT_.out (by kernel_rfl)) (fun _ _ _ h => h) (by rfl) ?_ ?_ ?_ ?_; rotate_left; · intro w'; go_simp; with_reducible rfl
               rotate_left; · simp only [Act.put, lz]; rfl
               refine pu 5 25 ?_ (tf 12 6) rfl rfl (any_of HT_.out (by kernel_rfl)) (fun _ _ _ h => h) (by rfl) ?_ ?_ ?_ ?_; rotate_left; · intro w'; go_simp; with_reducible rfl
               rotate_left; · simp only [Act.put, lz]; rfl
               refine pu 6 26 ?_ (tf 12 7) rfl rfl (any_of HT_.out (by kernel_rfl)) (fun _ _ _ h => h) (by rfl) ?_ ?_ ?_ ?_; rotate_left; · intro w'; go_simp; with_reducible rfl
               rotate_left; · simp only [Act.put, lz]; rfl
               refine pu 7 27 ?_ (tf 12 8) rfl rfl (any_of HT_.out (by kernel_rfl)) (fun _ _ _ h => h) (by rfl) ?_ ?_ ?_ ?_; rotate_left; · intro w'; go_simp; with_reducible rfl
               rotate_left; · simp only [Act.put, lz]; rfl
               refine tu 8 28 ?_ (tf 12 9) rfl rfl (take_ofW HT_.out HW_.out (by kernel_rfl)) (fun _ _ _ h => h) (by rfl) ?_ hHeld ?_ ?_ ?_; rotate_left; · rintro w' ⟨s0, s1, s2, s3⟩; go_simp; with_reducible rfl
               rotate_left; · simp only [Act.put, lz]; rfl
               refine tu 9 29 ?_ (tf 12 10) rfl rfl (take_ofW HT_.out HW_.out (by kernel_rfl)) (fun _ _ _ h => h) (by rfl) ?_ hHeld ?_ ?_ ?_; rotate_left; · rintro w' ⟨s0, s1, s2, s3⟩; go_simp; with_reducible rfl
               rotate_left; · simp only [Act.put, lz]; rfl
               refine one_ (i := 10) (N := some 30) (tf 12 11) rfl rfl (one_of HT_.out (by kernel_rfl)) (by decide) (fun K hK => ?_); refine goes_ Try.func44 (by kernel_rfl) rfl #[.agg #[.int .u32 ((rd_T33 x3_1 x6_2).f0), .int .u8 ((rd_T33 x3_1 x6_2).f1)], .agg #[.int .u32 ((rd_T38 l0 x4_1).f3.f0.f0), .int .u8 ((rd_T38 l0 x4_1).f3.f0.f1)]] (by rfl) rfl rfl (by (try simp only [List.map_toArray, List.map_cons, List.map_nil]); first | rfl) ?_
               with_reducible refine (ga_Ahead.calls ((rd_T33 x3_1 x6_2).f0) ((rd_T33 x3_1 x6_2).f1) ((rd_T38 l0 x4_1).f3.f0.f0) ((rd_T38 l0 x4_1).f3.f0.f1) true _ A8.out).mono ?_
               rintro e w12 ⟨rfl, hb⟩; have HS2_ := (hb.cell (World.block_lt_of_cell? _ _ (hHeld.2.2.1))).trans (hHeld.2.2.1); have HS3_ := (hb.cell (World.block_lt_of_cell? _ _ (hHeld.2.2.2))).trans (hHeld.2.2.2); refine ⟨_, rfl, ?_⟩; replace HO_3 := Ad (Kd.R_below (by exact HO_3.out) hb); replace BK206 := Ad (blk_below (g := gb206) (o := .cells #[.int .u32 ((rd_T38 l0 x4_1).f3.f0.f0), .int .u8 ((rd_T38 l0 x4_1).f3.f0.f1)] 33 (0, 0)) (by exact BK206.out) hb); replace HB := Ad (below_step HB.out hb)
               (try clear hb)
               (try clear hb2)
               (try clear hk)
               (try clear hi)
               refine hK.out _ _ ⟨(blk_cell BK206.out 0).trans rfl, (blk_cell BK206.out 1).trans rfl, HS2_, HS3_⟩ (fun hHeld => ?_); clear hK K; refine norm_ (a' := ?_) ?_ ?_; rotate_left
               · show Act.put _ (some 30) _ = _; simp only [Act.put, lz]; rfl
               refine pu 11 31 ?_ (tf 12 12) rfl rfl (any_of HT_.out (by kernel_rfl)) (fun _ _ _ h => h) (by rfl) ?_ ?_ ?_ ?_; rotate_left; · intro w'; go_simp; with_reducible rfl
               rotate_left; · simp only [Act.put, lz]; rfl
               refine done_ (done_of HT_.out (by kernel_rfl)) ?_
               try go_wp2
               go_roundg k2
               case measure => have := HK1.out; have := HK2.out; omega
               case rel => exact ⟨(wrap64 (x6_2 + 1)), (by first | rfl), H', ⟨by have := HK1.out; have := HK2.out; omega⟩, ⟨by exact HO_3.out⟩, ⟨by exact BK206.out⟩, ⟨by repeat (first | (with_reducible first | exact HB.out))⟩⟩
             · replace c9 := Bool.eq_false_iff.mpr c9
               subst c9
               have H1 : (if (((rd_T33 x3_1 x6_2).f0) == ((rd_T38 l0 x4_1).f3.f0.f0) && (((rd_T33 x3_1 x6_2).f1) == ((rd_T38 l0 x4_1).f3.f0.f1))) = true then (gb_Prefixes.l0 k2 l0 x3_1 (wrap64 (x4_1 + 1))) else (if x6_2 ≤ (x3_1.length : Int) then ((some (x3_1.take (x6_2 : Int).toNat : List (S33))).bind fun y210 => (if ([] : List (S33)).length + y210.length < 17592186044416 then ((some (([] : List (S33)) ++ y210 : List (S33))).bind fun y214 => (if y214.length < 17592186044416 then ((some (y214 ++ [(⟨((rd_T38 l0 x4_1).f3.f0.f0), ((rd_T38 l0 x4_1).f3.f0.f1)⟩ : S33)] : List (S33))).bind fun y217 => ((some (x3_1.drop (x6_2 : Int).toNat : List (S33))).bind fun y220 => (if y217.length + y220.length < 17592186044416 then (gb_Prefixes.l0 k2 l0 (y217 ++ y220) (wrap64 (x4_1 + 1))) else (none)))) else (none))) else (none))) else (none))) = some r := by rw [if_neg (show ¬ (false = true) by decide)] at H; exact H
               clear H; have H := H1; clear H1
               by_cases c13 : (((rd_T33 x3_1 x6_2).f0) == ((rd_T38 l0 x4_1).f3.f0.f0) && (((rd_T33 x3_1 x6_2).f1) == ((rd_T38 l0 x4_1).f3.f0.f1))) = true
               · rw [if_pos c13] at H
                 have c13b0 : (((rd_T33 x3_1 x6_2).f0) == ((rd_T38 l0 x4_1).f3.f0.f0) && (((rd_T33 x3_1 x6_2).f1) == ((rd_T38 l0 x4_1).f3.f0.f1))) = true := c13
                 (try (have c13b1 : decide (((rd_T33 x3_1 x6_2).f0) = ((rd_T38 l0 x4_1).f3.f0.f0) && (((rd_T33 x3_1 x6_2).f1) == ((rd_T38 l0 x4_1).f3.f0.f1))) = true := by simpa using c13))
                 (try (have c13b2 : (((rd_T33 x3_1 x6_2).f0) == ((rd_T38 l0 x4_1).f3.f0.f0) && (((rd_T33 x3_1 x6_2).f1) == ((rd_T38 l0 x4_1).f3.f0.f1))) = true := by simpa using c13))
                 clear c13; have H' := Ad H; clear H
                 try go_wp2
                 replace HO_3 := Ad (Kd.R_drew HO_3.out); replace BK206 := Ad (blk_drew BK206.out); replace HB := Ad (below_drew1 HB.out); obtain ⟨Ao15, co15, eo15⟩ := Kd.R_slice HO_3.out
                 (first | subst eo15)
                 have p207 : 0 ≤ (x6_2 : Int) := of_decide_eq_true (by first | (with_reducible assumption)); have q207 : x6_2 < (x3_1.length : Int) := of_decide_eq_true (by first | (with_reducible assumption)); obtain ⟨ad207, e207, hx207_0, hx207_1⟩ := at_T33 (Kd.R_reads' HO_3.out).2.2 x6_2 p207 q207; cases e207; replace p207 := eq_true p207; replace q207 := eq_true q207
                 refine start_ (n := 12) (S := fun w' => w'.cell? ⟨gb206, 0, none⟩ = some (.int .u32 ((rd_T38 l0 x4_1).f3.f0.f0)) ∧ w'.cell? ⟨gb206, 1, none⟩ = some (.int .u8 ((rd_T38 l0 x4_1).f3.f0.f1)) ∧ w'.cell? (ad207.add ((x6_2).toNat * 2)) = some (.int .u32 ((rd_T33 x3_1 x6_2).f0)) ∧ w'.cell? ⟨(ad207.add ((x6_2).toNat * 2)).block, (ad207.add ((x6_2).toNat * 2)).off + 1, none⟩ = some (.int .u8 ((rd_T33 x3_1 x6_2).f1))) (ds := []) (tf 12 0) (by kernel_rfl) rfl rfl ⟨(blk_cell BK206.out 0).trans rfl, (blk_cell BK206.out 1).trans rfl, hx207_0, hx207_1⟩ (fun hHeld => ?_); refine with_tabW gb_Prefixes.tab7 gb_Prefixes.bits7 (fun HT_ HW_ => ?_)
                 generalize wr.drew = w14 at HO_3 BK206 HB hx207_0 hx207_1 hHeld ⊢; refine pu 0 20 ?_ (tf 12 1) rfl rfl (any_of HT_.out (by kernel_rfl)) (fun _ _ _ h => h) (by rfl) ?_ ?_ ?_ ?_; rotate_left; · intro w'; go_simp; with_reducible rfl
                 rotate_left; · simp only [Act.put, lz]; rfl
                 refine pu 1 21 ?_ (tf 12 2) rfl rfl (any_of HT_.out (by kernel_rfl)) (fun _ _ _ h => h) (by rfl) ?_ ?_ ?_ ?_; rotate_left; · intro w'; go_simp; with_reducible rfl
                 rotate_left; · simp only [Act.put, lz]; rfl
                 refine pu 2 22 ?_ (tf 12 3) rfl rfl (any_of HT_.out (by kernel_rfl)) (fun _ _ _ h => h) (by rfl) ?_ ?_ ?_ ?_; rotate_left; · intro w'; go_simp; with_reducible rfl
                 rotate_left; · simp only [Act.put, lz]; rfl
                 refine pu 3 23 ?_ (tf 12 4) rfl rfl (any_of HT_.out (by kernel_rfl)) (fun _ _ _ h => h) (by rfl) ?_ ?_ ?_ ?_; rotate_left; · intro w'; go_simp; with_reducible rfl
                 rotate_left; · simp only [Act.put, lz]; rfl
                 refine pu 4 24 ?_ (tf 12 5) rfl rfl (any_of HT_.out (by kernel_rfl)) (fun _ _ _ h => h) (by rfl) ?_ ?_ ?_ ?_; rotate_left; · intro w'; go_simp; with_reducible rfl
                 rotate_left; · simp only [Act.put, lz]; rfl
                 refine pu 5 25 ?_ (tf 12 6) rfl rfl (any_of HT_.out (by kernel_rfl)) (fun _ _ _ h => h) (by rfl) ?_ ?_ ?_ ?_; rotate_left; · intro w'; go_simp; with_reducible rfl
                 rotate_left; · simp only [Act.put, lz]; rfl
                 refine pu 6 26 ?_ (tf 12 7) rfl rfl (any_of HT_.out (by kernel_rfl)) (fun _ _ _ h => h) (by rfl) ?_ ?_ ?_ ?_; rotate_left; · intro w'; go_simp; with_reducible rfl
                 rotate_left; · simp only [Act.put, lz]; rfl
                 refine pu 7 27 ?_ (tf 12 8) rfl rfl (any_of HT_.out (by kernel_rfl)) (fun _ _ _ h => h) (by rfl) ?_ ?_ ?_ ?_; rotate_left; · intro w'; go_simp; with_reducible rfl
                 rotate_left; · simp only [Act.put, lz]; rfl
                 refine tu 8 28 ?_ (tf 12 9) rfl rfl (take_ofW HT_.out HW_.out (by kernel_rfl)) (fun _ _ _ h => h) (by rfl) ?_ hHeld ?_ ?_ ?_; rotate_left; · rintro w' ⟨s0, s1, s2, s3⟩; go_simp; with_reducible rfl
                 rotate_left; · simp only [Act.put, lz]; rfl
                 refine tu 9 29 ?_ (tf 12 10) rfl rfl (take_ofW HT_.out HW_.out (by kernel_rfl)) (fun _ _ _ h => h) (by rfl) ?_ hHeld ?_ ?_ ?_; rotate_left; · rintro w' ⟨s0, s1, s2, s3⟩; go_simp; with_reducible rfl
                 rotate_left; · simp only [Act.put, lz]; rfl
                 refine one_ (i := 10) (N := some 30) (tf 12 11) rfl rfl (one_of HT_.out (by kernel_rfl)) (by decide) (fun K hK => ?_); refine goes_ Try.func44 (by kernel_rfl) rfl #[.agg #[.int .u32 ((rd_T33 x3_1 x6_2).f0), .int .u8 ((rd_T33 x3_1 x6_2).f1)], .agg #[.int .u32 ((rd_T38 l0 x4_1).f3.f0.f0), .int .u8 ((rd_T38 l0 x4_1).f3.f0.f1)]] (by rfl) rfl rfl (by (try simp only [List.map_toArray, List.map_cons, List.map_nil]); first | rfl) ?_
                 with_reducible refine (ga_Ahead.calls ((rd_T33 x3_1 x6_2).f0) ((rd_T33 x3_1 x6_2).f1) ((rd_T38 l0 x4_1).f3.f0.f0) ((rd_T38 l0 x4_1).f3.f0.f1) false _ A8.out).mono ?_
                 rintro e w16 ⟨rfl, hb⟩; have HS2_ := (hb.cell (World.block_lt_of_cell? _ _ (hHeld.2.2.1))).trans (hHeld.2.2.1); have HS3_ := (hb.cell (World.block_lt_of_cell? _ _ (hHeld.2.2.2))).trans (hHeld.2.2.2); refine ⟨_, rfl, ?_⟩; replace HO_3 := Ad (Kd.R_below (by exact HO_3.out) hb); replace BK206 := Ad (blk_below (g := gb206) (o := .cells #[.int .u32 ((rd_T38 l0 x4_1).f3.f0.f0), .int .u8 ((rd_T38 l0 x4_1).f3.f0.f1)] 33 (0, 0)) (by exact BK206.out) hb); replace HB := Ad (below_step HB.out hb)
                 (try clear hb)
                 (try clear hb2)
                 (try clear hk)
                 (try clear hi)
                 refine hK.out _ _ ⟨(blk_cell BK206.out 0).trans rfl, (blk_cell BK206.out 1).trans rfl, HS2_, HS3_⟩ (fun hHeld => ?_); clear hK K; refine norm_ (a' := ?_) ?_ ?_; rotate_left
                 · show Act.put _ (some 30) _ = _; simp only [Act.put, lz]; rfl
                 refine pu 11 31 ?_ (tf 12 12) rfl rfl (any_of HT_.out (by kernel_rfl)) (fun _ _ _ h => h) (by rfl) ?_ ?_ ?_ ?_; rotate_left; · intro w'; go_simp; with_reducible rfl
                 rotate_left; · simp only [Act.put, lz]; rfl
                 refine done_ (done_of HT_.out (by kernel_rfl)) ?_
                 try go_wp2
                 replace HO_3 := Ad (Kd.R_drew HO_3.out); replace BK206 := Ad (blk_drew BK206.out); replace HB := Ad (below_drew1 HB.out); have p209 : 0 ≤ (x6_2 : Int) := of_decide_eq_true (by first | (with_reducible assumption)); have q209 : x6_2 < (x3_1.length : Int) := of_decide_eq_true (by first | (with_reducible assumption)); obtain ⟨ad209, e209, hx209_0, hx209_1⟩ := at_T33 (Kd.R_reads' HO_3.out).2.2 x6_2 p209 q209; obtain rfl : ad207 = ad209 := (by injection e209); replace p209 := eq_true p209; replace q209 := eq_true q209
                 refine start_ (n := 12) (S := fun w' => w'.cell? ⟨gb206, 0, none⟩ = some (.int .u32 ((rd_T38 l0 x4_1).f3.f0.f0)) ∧ w'.cell? ⟨gb206, 1, none⟩ = some (.int .u8 ((rd_T38 l0 x4_1).f3.f0.f1)) ∧ w'.cell? (ad207.add ((x6_2).toNat * 2)) = some (.int .u32 ((rd_T33 x3_1 x6_2).f0)) ∧ w'.cell? ⟨(ad207.add ((x6_2).toNat * 2)).block, (ad207.add ((x6_2).toNat * 2)).off + 1, none⟩ = some (.int .u8 ((rd_T33 x3_1 x6_2).f1))) (ds := []) (tf 12 0) (by kernel_rfl) rfl rfl ⟨(blk_cell BK206.out 0).trans rfl, (blk_cell BK206.out 1).trans rfl, hx209_0, hx209_1⟩ (fun hHeld => ?_); refine with_tabW gb_Prefixes.tab9 gb_Prefixes.bits9 (fun HT_ HW_ => ?_)
                 generalize w16.drew = w17 at HO_3 BK206 HB hx209_0 hx209_1 hHeld ⊢; refine pu 0 34 ?_ (tf 12 1) rfl rfl (any_of HT_.out (by kernel_rfl)) (fun _ _ _ h => h) (by rfl) ?_ ?_ ?_ ?_; rotate_left; · intro w'; go_simp; with_reducible rfl
                 rotate_left; · simp only [Act.put, lz]; rfl
                 refine pu 1 35 ?_ (tf 12 2) rfl rfl (any_of HT_.out (by kernel_rfl)) (fun _ _ _ h => h) (by rfl) ?_ ?_ ?_ ?_; rotate_left; · intro w'; go_simp; with_reducible rfl
                 rotate_left; · simp only [Act.put, lz]; rfl
                 refine pu 2 36 ?_ (tf 12 3) rfl rfl (any_of HT_.out (by kernel_rfl)) (fun _ _ _ h => h) (by rfl) ?_ ?_ ?_ ?_; rotate_left; · intro w'; go_simp; with_reducible rfl
                 rotate_left; · simp only [Act.put, lz]; rfl
                 refine pu 3 37 ?_ (tf 12 4) rfl rfl (any_of HT_.out (by kernel_rfl)) (fun _ _ _ h => h) (by rfl) ?_ ?_ ?_ ?_; rotate_left; · intro w'; go_simp; with_reducible rfl
                 rotate_left; · simp only [Act.put, lz]; rfl
                 refine pu 4 38 ?_ (tf 12 5) rfl rfl (any_of HT_.out (by kernel_rfl)) (fun _ _ _ h => h) (by rfl) ?_ ?_ ?_ ?_; rotate_left; · intro w'; go_simp; with_reducible rfl
                 rotate_left; · simp only [Act.put, lz]; rfl
                 refine pu 5 39 ?_ (tf 12 6) rfl rfl (any_of HT_.out (by kernel_rfl)) (fun _ _ _ h => h) (by rfl) ?_ ?_ ?_ ?_; rotate_left; · intro w'; go_simp; with_reducible rfl
                 rotate_left; · simp only [Act.put, lz]; rfl
                 refine pu 6 40 ?_ (tf 12 7) rfl rfl (any_of HT_.out (by kernel_rfl)) (fun _ _ _ h => h) (by rfl) ?_ ?_ ?_ ?_; rotate_left; · intro w'; go_simp; with_reducible rfl
                 rotate_left; · simp only [Act.put, lz]; rfl
                 refine pu 7 41 ?_ (tf 12 8) rfl rfl (any_of HT_.out (by kernel_rfl)) (fun _ _ _ h => h) (by rfl) ?_ ?_ ?_ ?_; rotate_left; · intro w'; go_simp; with_reducible rfl
                 rotate_left; · simp only [Act.put, lz]; rfl
                 refine tu 8 42 ?_ (tf 12 9) rfl rfl (take_ofW HT_.out HW_.out (by kernel_rfl)) (fun _ _ _ h => h) (by rfl) ?_ hHeld ?_ ?_ ?_; rotate_left; · rintro w' ⟨s0, s1, s2, s3⟩; go_simp; with_reducible rfl
                 rotate_left; · simp only [Act.put, lz]; rfl
                 refine tu 9 43 ?_ (tf 12 10) rfl rfl (take_ofW HT_.out HW_.out (by kernel_rfl)) (fun _ _ _ h => h) (by rfl) ?_ hHeld ?_ ?_ ?_; rotate_left; · rintro w' ⟨s0, s1, s2, s3⟩; go_simp; with_reducible rfl
                 rotate_left; · simp only [Act.put, lz]; rfl
                 refine pu 10 44 ?_ (tf 12 11) rfl rfl (any_of HT_.out (by kernel_rfl)) (fun _ _ _ h => h) (by rfl) ?_ ?_ ?_ ?_; rotate_left; · intro w'; go_simp; with_reducible rfl
                 rotate_left; · simp only [Act.put, lz]; rfl
                 refine pu 11 45 ?_ (tf 12 12) rfl rfl (any_of HT_.out (by kernel_rfl)) (fun _ _ _ h => h) (by rfl) ?_ ?_ ?_ ?_; rotate_left; · intro w'; go_simp; with_reducible rfl
                 rotate_left; · simp only [Act.put, lz]; rfl
                 refine done_ (done_of HT_.out (by kernel_rfl)) ?_
                 try go_wp2
                 go_roundg k2
                 case measure => have := HK1.out; have := HK2.out; omega
                 case rel => exact ⟨(x3_1), (wrap64 (x4_1 + 1)), (by first | rfl), H', ⟨by have := HK1.out; have := HK2.out; omega⟩, ⟨by exact Kd.R_mono HO_3.out (fun _ hk => trivial)⟩, ⟨by repeat (first | (with_reducible first | exact HB.out))⟩⟩
               · rw [if_neg c13] at H
                 have c13b0 : (((rd_T33 x3_1 x6_2).f0) == ((rd_T38 l0 x4_1).f3.f0.f0) && (((rd_T33 x3_1 x6_2).f1) == ((rd_T38 l0 x4_1).f3.f0.f1))) = false := by simpa using c13
                 (try (have c13b1 : decide (((rd_T33 x3_1 x6_2).f0) = ((rd_T38 l0 x4_1).f3.f0.f0) && (((rd_T33 x3_1 x6_2).f1) == ((rd_T38 l0 x4_1).f3.f0.f1))) = false := by simpa using c13))
                 (try (have c13b2 : (((rd_T33 x3_1 x6_2).f0) == ((rd_T38 l0 x4_1).f3.f0.f0) && (((rd_T33 x3_1 x6_2).f1) == ((rd_T38 l0 x4_1).f3.f0.f1))) = false := by simpa using c13))
                 (try (have c13b3 : ¬ (((rd_T33 x3_1 x6_2).f0) = ((rd_T38 l0 x4_1).f3.f0.f0) && (((rd_T33 x3_1 x6_2).f1) == ((rd_T38 l0 x4_1).f3.f0.f1))) := by simpa using c13))
                 clear c13; have c18b0 := eq_true (of_decide_eq_true (by first | (with_reducible assumption)) : 0 ≤ x6_2)
                 by_cases c19 : x6_2 ≤ (x3_1.length : Int)
                 · rw [if_pos c19] at H
                   have c19b0 := eq_true c19; have c19b1 : decide (x6_2 ≤ (x3_1.length : Int)) = true := decide_eq_true c19; clear c19
                   obtain ⟨y210, hy210⟩ : ∃ y_ : List (S33), y_ = (x3_1.take (x6_2 : Int).toNat) := ⟨_, rfl⟩
                   replace H : (if ([] : List (S33)).length + y210.length < 17592186044416 then ((some (([] : List (S33)) ++ y210 : List (S33))).bind fun y214 => (if y214.length < 17592186044416 then ((some (y214 ++ [(⟨((rd_T38 l0 x4_1).f3.f0.f0), ((rd_T38 l0 x4_1).f3.f0.f1)⟩ : S33)] : List (S33))).bind fun y217 => ((some (x3_1.drop (x6_2 : Int).toNat : List (S33))).bind fun y220 => (if y217.length + y220.length < 17592186044416 then (gb_Prefixes.l0 k2 l0 (y217 ++ y220) (wrap64 (x4_1 + 1))) else (none)))) else (none))) else (none)) = some r := by first | (have H2_ := (Option.bind_some _ _).symm.trans H; rw [hy210]; with_reducible exact H2_)
                   have Ny210 := Ad hy210; clear hy210
                   by_cases c20 : ([] : List (S33)).length + y210.length < 17592186044416
                   · rw [if_pos c20] at H
                     have LMc20 := Ad c20; clear c20
                     obtain ⟨y214, hy214⟩ : ∃ y_ : List (S33), y_ = (([] : List (S33)) ++ y210) := ⟨_, rfl⟩
                     replace H : (if y214.length < 17592186044416 then ((some (y214 ++ [(⟨((rd_T38 l0 x4_1).f3.f0.f0), ((rd_T38 l0 x4_1).f3.f0.f1)⟩ : S33)] : List (S33))).bind fun y217 => ((some (x3_1.drop (x6_2 : Int).toNat : List (S33))).bind fun y220 => (if y217.length + y220.length < 17592186044416 then (gb_Prefixes.l0 k2 l0 (y217 ++ y220) (wrap64 (x4_1 + 1))) else (none)))) else (none)) = some r := by first | (have H2_ := (Option.bind_some _ _).symm.trans H; rw [hy214]; with_reducible exact H2_)
                     have Ny214 := Ad hy214; clear hy214
                     by_cases c21 : y214.length < 17592186044416
                     · rw [if_pos c21] at H
                       have LMc21 := Ad c21; clear c21
                       obtain ⟨y217, hy217⟩ : ∃ y_ : List (S33), y_ = (y214 ++ [(⟨((rd_T38 l0 x4_1).f3.f0.f0), ((rd_T38 l0 x4_1).f3.f0.f1)⟩ : S33)]) := ⟨_, rfl⟩
                       replace H : ((some (x3_1.drop (x6_2 : Int).toNat : List (S33))).bind fun y220 => (if y217.length + y220.length < 17592186044416 then (gb_Prefixes.l0 k2 l0 (y217 ++ y220) (wrap64 (x4_1 + 1))) else (none))) = some r := by first | (have H2_ := (Option.bind_some _ _).symm.trans H; rw [hy217]; with_reducible exact H2_)
                       have Ny217 := Ad hy217; clear hy217; have c22b0 := eq_true (of_decide_eq_true (by first | (with_reducible assumption)) : 0 ≤ x6_2); have c23b0 := eq_true (of_decide_eq_true (by first | (with_reducible assumption)) : x6_2 ≤ (x3_1.length : Int))
                       obtain ⟨y220, hy220⟩ : ∃ y_ : List (S33), y_ = (x3_1.drop (x6_2 : Int).toNat) := ⟨_, rfl⟩
                       replace H : (if y217.length + y220.length < 17592186044416 then (gb_Prefixes.l0 k2 l0 (y217 ++ y220) (wrap64 (x4_1 + 1))) else (none)) = some r := by first | (have H2_ := (Option.bind_some _ _).symm.trans H; rw [hy220]; with_reducible exact H2_)
                       have Ny220 := Ad hy220; clear hy220
                       by_cases c24 : y217.length + y220.length < 17592186044416
                       · rw [if_pos c24] at H
                         have LMc24 := Ad c24; clear c24
                         obtain ⟨y224, hy224⟩ : ∃ y_ : List (S33), y_ = (y217 ++ y220) := ⟨_, rfl⟩
                         replace H : (gb_Prefixes.l0 k2 l0 y224 (wrap64 (x4_1 + 1))) = some r := by first | (rw [hy224]; with_reducible exact H)
                         have Ny224 := Ad hy224; clear hy224; have H' := Ad H; clear H
                         try go_wp2
                         replace HO_3 := Ad (Kd.R_drew HO_3.out); replace BK206 := Ad (blk_drew BK206.out); replace HB := Ad (below_drew1 HB.out); obtain ⟨Ao26, co26, eo26⟩ := Kd.R_slice HO_3.out
                         (first | subst eo26)
                         have p207 : 0 ≤ (x6_2 : Int) := of_decide_eq_true (by first | (with_reducible assumption)); have q207 : x6_2 < (x3_1.length : Int) := of_decide_eq_true (by first | (with_reducible assumption)); obtain ⟨ad207, e207, hx207_0, hx207_1⟩ := at_T33 (Kd.R_reads' HO_3.out).2.2 x6_2 p207 q207; cases e207; replace p207 := eq_true p207; replace q207 := eq_true q207
                         refine start_ (n := 12) (S := fun w' => w'.cell? ⟨gb206, 0, none⟩ = some (.int .u32 ((rd_T38 l0 x4_1).f3.f0.f0)) ∧ w'.cell? ⟨gb206, 1, none⟩ = some (.int .u8 ((rd_T38 l0 x4_1).f3.f0.f1)) ∧ w'.cell? (ad207.add ((x6_2).toNat * 2)) = some (.int .u32 ((rd_T33 x3_1 x6_2).f0)) ∧ w'.cell? ⟨(ad207.add ((x6_2).toNat * 2)).block, (ad207.add ((x6_2).toNat * 2)).off + 1, none⟩ = some (.int .u8 ((rd_T33 x3_1 x6_2).f1))) (ds := []) (tf 12 0) (by kernel_rfl) rfl rfl ⟨(blk_cell BK206.out 0).trans rfl, (blk_cell BK206.out 1).trans rfl, hx207_0, hx207_1⟩ (fun hHeld => ?_); refine with_tabW gb_Prefixes.tab7 gb_Prefixes.bits7 (fun HT_ HW_ => ?_)
                         generalize wr.drew = w25 at HO_3 BK206 HB hx207_0 hx207_1 hHeld ⊢; refine pu 0 20 ?_ (tf 12 1) rfl rfl (any_of HT_.out (by kernel_rfl)) (fun _ _ _ h => h) (by rfl) ?_ ?_ ?_ ?_; rotate_left; · intro w'; go_simp; with_reducible rfl
                         rotate_left; · simp only [Act.put, lz]; rfl
                         refine pu 1 21 ?_ (tf 12 2) rfl rfl (any_of HT_.out (by kernel_rfl)) (fun _ _ _ h => h) (by rfl) ?_ ?_ ?_ ?_; rotate_left; · intro w'; go_simp; with_reducible rfl
                         rotate_left; · simp only [Act.put, lz]; rfl
                         refine pu 2 22 ?_ (tf 12 3) rfl rfl (any_of HT_.out (by kernel_rfl)) (fun _ _ _ h => h) (by rfl) ?_ ?_ ?_ ?_; rotate_left; · intro w'; go_simp; with_reducible rfl
                         rotate_left; · simp only [Act.put, lz]; rfl
                         refine pu 3 23 ?_ (tf 12 4) rfl rfl (any_of HT_.out (by kernel_rfl)) (fun _ _ _ h => h) (by rfl) ?_ ?_ ?_ ?_; rotate_left; · intro w'; go_simp; with_reducible rfl
                         rotate_left; · simp only [Act.put, lz]; rfl
                         refine pu 4 24 ?_ (tf 12 5) rfl rfl (any_of HT_.out (by kernel_rfl)) (fun _ _ _ h => h) (by rfl) ?_ ?_ ?_ ?_; rotate_left; · intro w'; go_simp; with_reducible rfl
                         rotate_left; · simp only [Act.put, lz]; rfl
                         refine pu 5 25 ?_ (tf 12 6) rfl rfl (any_of HT_.out (by kernel_rfl)) (fun _ _ _ h => h) (by rfl) ?_ ?_ ?_ ?_; rotate_left; · intro w'; go_simp; with_reducible rfl
                         rotate_left; · simp only [Act.put, lz]; rfl
                         refine pu 6 26 ?_ (tf 12 7) rfl rfl (any_of HT_.out (by kernel_rfl)) (fun _ _ _ h => h) (by rfl) ?_ ?_ ?_ ?_; rotate_left; · intro w'; go_simp; with_reducible rfl
                         rotate_left; · simp only [Act.put, lz]; rfl
                         refine pu 7 27 ?_ (tf 12 8) rfl rfl (any_of HT_.out (by kernel_rfl)) (fun _ _ _ h => h) (by rfl) ?_ ?_ ?_ ?_; rotate_left; · intro w'; go_simp; with_reducible rfl
                         rotate_left; · simp only [Act.put, lz]; rfl
                         refine tu 8 28 ?_ (tf 12 9) rfl rfl (take_ofW HT_.out HW_.out (by kernel_rfl)) (fun _ _ _ h => h) (by rfl) ?_ hHeld ?_ ?_ ?_; rotate_left; · rintro w' ⟨s0, s1, s2, s3⟩; go_simp; with_reducible rfl
                         rotate_left; · simp only [Act.put, lz]; rfl
                         refine tu 9 29 ?_ (tf 12 10) rfl rfl (take_ofW HT_.out HW_.out (by kernel_rfl)) (fun _ _ _ h => h) (by rfl) ?_ hHeld ?_ ?_ ?_; rotate_left; · rintro w' ⟨s0, s1, s2, s3⟩; go_simp; with_reducible rfl
                         rotate_left; · simp only [Act.put, lz]; rfl
                         refine one_ (i := 10) (N := some 30) (tf 12 11) rfl rfl (one_of HT_.out (by kernel_rfl)) (by decide) (fun K hK => ?_); refine goes_ Try.func44 (by kernel_rfl) rfl #[.agg #[.int .u32 ((rd_T33 x3_1 x6_2).f0), .int .u8 ((rd_T33 x3_1 x6_2).f1)], .agg #[.int .u32 ((rd_T38 l0 x4_1).f3.f0.f0), .int .u8 ((rd_T38 l0 x4_1).f3.f0.f1)]] (by rfl) rfl rfl (by (try simp only [List.map_toArray, List.map_cons, List.map_nil]); first | rfl) ?_
                         with_reducible refine (ga_Ahead.calls ((rd_T33 x3_1 x6_2).f0) ((rd_T33 x3_1 x6_2).f1) ((rd_T38 l0 x4_1).f3.f0.f0) ((rd_T38 l0 x4_1).f3.f0.f1) false _ A8.out).mono ?_
                         rintro e w27 ⟨rfl, hb⟩; have HS2_ := (hb.cell (World.block_lt_of_cell? _ _ (hHeld.2.2.1))).trans (hHeld.2.2.1); have HS3_ := (hb.cell (World.block_lt_of_cell? _ _ (hHeld.2.2.2))).trans (hHeld.2.2.2); refine ⟨_, rfl, ?_⟩; replace HO_3 := Ad (Kd.R_below (by exact HO_3.out) hb); replace BK206 := Ad (blk_below (g := gb206) (o := .cells #[.int .u32 ((rd_T38 l0 x4_1).f3.f0.f0), .int .u8 ((rd_T38 l0 x4_1).f3.f0.f1)] 33 (0, 0)) (by exact BK206.out) hb); replace HB := Ad (below_step HB.out hb)
                         (try clear hb)
                         (try clear hb2)
                         (try clear hk)
                         (try clear hi)
                         refine hK.out _ _ ⟨(blk_cell BK206.out 0).trans rfl, (blk_cell BK206.out 1).trans rfl, HS2_, HS3_⟩ (fun hHeld => ?_); clear hK K; refine norm_ (a' := ?_) ?_ ?_; rotate_left
                         · show Act.put _ (some 30) _ = _; simp only [Act.put, lz]; rfl
                         refine pu 11 31 ?_ (tf 12 12) rfl rfl (any_of HT_.out (by kernel_rfl)) (fun _ _ _ h => h) (by rfl) ?_ ?_ ?_ ?_; rotate_left; · intro w'; go_simp; with_reducible rfl
                         rotate_left; · simp only [Act.put, lz]; rfl
                         refine done_ (done_of HT_.out (by kernel_rfl)) ?_
                         try go_wp2
                         replace HO_3 := Ad (Kd.R_drew HO_3.out); replace BK206 := Ad (blk_drew BK206.out); replace HB := Ad (below_drew1 HB.out); have p209 : 0 ≤ (x6_2 : Int) := of_decide_eq_true (by first | (with_reducible assumption)); have q209 : x6_2 < (x3_1.length : Int) := of_decide_eq_true (by first | (with_reducible assumption)); obtain ⟨ad209, e209, hx209_0, hx209_1⟩ := at_T33 (Kd.R_reads' HO_3.out).2.2 x6_2 p209 q209; obtain rfl : ad207 = ad209 := (by injection e209); replace p209 := eq_true p209; replace q209 := eq_true q209
                         refine start_ (n := 12) (S := fun w' => w'.cell? ⟨gb206, 0, none⟩ = some (.int .u32 ((rd_T38 l0 x4_1).f3.f0.f0)) ∧ w'.cell? ⟨gb206, 1, none⟩ = some (.int .u8 ((rd_T38 l0 x4_1).f3.f0.f1)) ∧ w'.cell? (ad207.add ((x6_2).toNat * 2)) = some (.int .u32 ((rd_T33 x3_1 x6_2).f0)) ∧ w'.cell? ⟨(ad207.add ((x6_2).toNat * 2)).block, (ad207.add ((x6_2).toNat * 2)).off + 1, none⟩ = some (.int .u8 ((rd_T33 x3_1 x6_2).f1))) (ds := []) (tf 12 0) (by kernel_rfl) rfl rfl ⟨(blk_cell BK206.out 0).trans rfl, (blk_cell BK206.out 1).trans rfl, hx209_0, hx209_1⟩ (fun hHeld => ?_); refine with_tabW gb_Prefixes.tab9 gb_Prefixes.bits9 (fun HT_ HW_ => ?_)
                         generalize w27.drew = w28 at HO_3 BK206 HB hx209_0 hx209_1 hHeld ⊢; refine pu 0 34 ?_ (tf 12 1) rfl rfl (any_of HT_.out (by kernel_rfl)) (fun _ _ _ h => h) (by rfl) ?_ ?_ ?_ ?_; rotate_left; · intro w'; go_simp; with_reducible rfl
                         rotate_left; · simp only [Act.put, lz]; rfl
                         refine pu 1 35 ?_ (tf 12 2) rfl rfl (any_of HT_.out (by kernel_rfl)) (fun _ _ _ h => h) (by rfl) ?_ ?_ ?_ ?_; rotate_left; · intro w'; go_simp; with_reducible rfl
                         rotate_left; · simp only [Act.put, lz]; rfl
                         refine pu 2 36 ?_ (tf 12 3) rfl rfl (any_of HT_.out (by kernel_rfl)) (fun _ _ _ h => h) (by rfl) ?_ ?_ ?_ ?_; rotate_left; · intro w'; go_simp; with_reducible rfl
                         rotate_left; · simp only [Act.put, lz]; rfl
                         refine pu 3 37 ?_ (tf 12 4) rfl rfl (any_of HT_.out (by kernel_rfl)) (fun _ _ _ h => h) (by rfl) ?_ ?_ ?_ ?_; rotate_left; · intro w'; go_simp; with_reducible rfl
                         rotate_left; · simp only [Act.put, lz]; rfl
                         refine pu 4 38 ?_ (tf 12 5) rfl rfl (any_of HT_.out (by kernel_rfl)) (fun _ _ _ h => h) (by rfl) ?_ ?_ ?_ ?_; rotate_left; · intro w'; go_simp; with_reducible rfl
                         rotate_left; · simp only [Act.put, lz]; rfl
                         refine pu 5 39 ?_ (tf 12 6) rfl rfl (any_of HT_.out (by kernel_rfl)) (fun _ _ _ h => h) (by rfl) ?_ ?_ ?_ ?_; rotate_left; · intro w'; go_simp; with_reducible rfl
                         rotate_left; · simp only [Act.put, lz]; rfl
                         refine pu 6 40 ?_ (tf 12 7) rfl rfl (any_of HT_.out (by kernel_rfl)) (fun _ _ _ h => h) (by rfl) ?_ ?_ ?_ ?_; rotate_left; · intro w'; go_simp; with_reducible rfl
                         rotate_left; · simp only [Act.put, lz]; rfl
                         refine pu 7 41 ?_ (tf 12 8) rfl rfl (any_of HT_.out (by kernel_rfl)) (fun _ _ _ h => h) (by rfl) ?_ ?_ ?_ ?_; rotate_left; · intro w'; go_simp; with_reducible rfl
                         rotate_left; · simp only [Act.put, lz]; rfl
                         refine tu 8 42 ?_ (tf 12 9) rfl rfl (take_ofW HT_.out HW_.out (by kernel_rfl)) (fun _ _ _ h => h) (by rfl) ?_ hHeld ?_ ?_ ?_; rotate_left; · rintro w' ⟨s0, s1, s2, s3⟩; go_simp; with_reducible rfl
                         rotate_left; · simp only [Act.put, lz]; rfl
                         refine tu 9 43 ?_ (tf 12 10) rfl rfl (take_ofW HT_.out HW_.out (by kernel_rfl)) (fun _ _ _ h => h) (by rfl) ?_ hHeld ?_ ?_ ?_; rotate_left; · rintro w' ⟨s0, s1, s2, s3⟩; go_simp; with_reducible rfl
                         rotate_left; · simp only [Act.put, lz]; rfl
                         refine pu 10 44 ?_ (tf 12 11) rfl rfl (any_of HT_.out (by kernel_rfl)) (fun _ _ _ h => h) (by rfl) ?_ ?_ ?_ ?_; rotate_left; · intro w'; go_simp; with_reducible rfl
                         rotate_left; · simp only [Act.put, lz]; rfl
                         refine pu 11 45 ?_ (tf 12 12) rfl rfl (any_of HT_.out (by kernel_rfl)) (fun _ _ _ h => h) (by rfl) ?_ ?_ ?_ ?_; rotate_left; · intro w'; go_simp; with_reducible rfl
                         rotate_left; · simp only [Act.put, lz]; rfl
                         refine done_ (done_of HT_.out (by kernel_rfl)) ?_; have q29 : (x6_2 : Int) ≤ ((x3_1.length : Int) : Int) := of_decide_eq_true (by first | (with_reducible assumption)); obtain ⟨i029, hi029, _, hsz29, _⟩ := info_parts info33; have hroom29 : x3_1.length ≤ co26 := (Kd.R_reads' HO_3.out).2.1; have hC29 : Kd.C k33 _ (some ad207) x3_1.length x3_1 := (Kd.R_reads' HO_3.out).2.2; have hcut29 := cut_to (P := Try.prog) 77 33 .i64 Try.underlying77 hi029 (some ad207) x3_1.length co26 x6_2 (of_decide_eq_true (by first | (with_reducible assumption))) q29 hroom29; have hr29 := Kd.C_take (m := (x6_2 : Int).toNat) hC29 (by omega); have hy29 : y210.length = (x6_2 : Int).toNat := (by rw [Ny210.out, List.length_take]; omega); rw [← Ny210.out] at hr29; rw [← hy29] at hcut29; have HR213 := Ad hr29; have HC213 := Ad (show y210.length ≤ co26 from by omega); clear hr29 hC29 hroom29 hi029 hsz29; have KY29 := Ad hy29; clear hy29; have KL29 := Ad (show (x6_2 : Int).toNat ≤ x3_1.length from by omega); replace q29 := eq_true q29
                         try go_wp2_with (first | ((with_reducible refine gate_builtin (b := .append) (xs := #[.tmp 46, .tmp 49]) rfl ?_); at_builtin; refine Kd.R_append_rows k33 (w0 := w) w.heap.size rfl (.tmp 46) (.tmp 49) 77 33 (.agg #[(.int .u32 0), (.int .u8 0)]) 8 rfl Try.underlying77 info33 rfl (by decide) (by omega) (.slice none 0 0) ([] : List (S33)) y210 _ _ _ (fun k_ => some k_ ≠ (.slice (some ad207) x3_1.length co26 : Value).ownBlock ∧ k_ ≠ gb206) (fun _ => False) rfl rfl ?aO ?aR (fun _ _ h => h) (fun _ h => h.elim) ?aF ?aB ?aS ?aL ?_; (case aR => repeat (first | exact (by repeat (first | exact HR213.out)))); (case aB => exact HB.out); (case aF => exact (fun k_ hk => ⟨Kd.fresh' (Kd.R_lt (by exact HO_3.out)) k_ hk, Kd.freshB (g := gb206) (o := .cells #[.int .u32 ((rd_T38 l0 x4_1).f3.f0.f0), .int .u8 ((rd_T38 l0 x4_1).f3.f0.f1)] 33 (0, 0)) (by exact BK206.out) k_ hk⟩)); (case aO => exact ((Kd.R_nil _ _ _ _ (fun k_ => some k_ ≠ (.slice (some ad207) x3_1.length co26 : Value).ownBlock ∧ k_ ≠ gb206)))); (case aS => exact (below_size HB.out)); (case aL => have := LMc20.out; omega); intro v215 w30 ho hb hg hat; rw [← Ny214.out] at ho; replace BK206 := Ad (blk_grown (g := gb206) (o := .cells #[.int .u32 ((rd_T38 l0 x4_1).f3.f0.f0), .int .u8 ((rd_T38 l0 x4_1).f3.f0.f1)] 33 (0, 0)) (by exact BK206.out) hg (by simp [Value.ownBlock])); replace HB := Ad (hb); replace HR213 := Ad ((show Kd.C k33 w30 (some ad207) y210.length y210 from by rw [Ny210.out]; exact Kd.C_take (m := (x6_2 : Int).toNat) ((Kd.R_reads' (Kd.R_after (Kd.R_apart_nil (by exact HO_3.out)) hg hat)).2.2) KL29.out)); replace HO_3 := Ad (Kd.R_after (Kd.R_apart_nil (by exact HO_3.out)) hg hat); have HO216 := Ad (ho); clear ho hb hg hat; have hcz31_0 : w30.cell? ⟨gb206, 0, none⟩ = some (.int .u32 ((rd_T38 l0 x4_1).f3.f0.f0)) := (blk_cell BK206.out 0).trans rfl; have hcz31_1 : w30.cell? ⟨gb206, 1, none⟩ = some (.int .u8 ((rd_T38 l0 x4_1).f3.f0.f1)) := (blk_cell BK206.out 1).trans rfl; have hfz31_0 := blk_frozen BK206.out 0; have hfz31_1 := blk_frozen BK206.out 1) | ((with_reducible refine gate_builtin (b := .append) (xs := #[.tmp 51, .tmp 53]) rfl ?_); at_builtin; refine Kd.R_append k33 (w0 := w) w.heap.size rfl (.tmp 51) (.tmp 53) 77 33 (.agg #[(.int .u32 0), (.int .u8 0)]) 8 rfl Try.underlying77 info33 rfl (by decide) (by omega) v215 y214 (⟨((rd_T38 l0 x4_1).f3.f0.f0), ((rd_T38 l0 x4_1).f3.f0.f1)⟩ : S33) [.int .u32 ((rd_T38 l0 x4_1).f3.f0.f0), .int .u8 ((rd_T38 l0 x4_1).f3.f0.f1)] (fun k_ => some k_ ≠ (.slice (some ad207) x3_1.length co26 : Value).ownBlock ∧ k_ ≠ gb206) (fun _ => False) rfl rfl ?aP (fun _ hk => hk.elim) ?aF ?aO ?aB ?aS ?aL ?_; (case aP => exact k33_mkM _ _ _ (⟨((rd_T38 l0 x4_1).f3.f0.f0), ((rd_T38 l0 x4_1).f3.f0.f1)⟩ : S33)); (case aB => exact HB.out); (case aF => exact (fun k_ hk => ⟨Kd.fresh' (Kd.R_lt (by exact HO_3.out)) k_ hk, Kd.freshB (g := gb206) (o := .cells #[.int .u32 ((rd_T38 l0 x4_1).f3.f0.f0), .int .u8 ((rd_T38 l0 x4_1).f3.f0.f1)] 33 (0, 0)) (by exact BK206.out) k_ hk⟩)); (case aO => exact (by exact HO216.out)); (case aS => exact (below_size HB.out)); (case aL => have := LMc21.out; omega); intro v218 w32 ho hb hg hat; rw [← Ny217.out] at ho; replace BK206 := Ad (blk_grown (g := gb206) (o := .cells #[.int .u32 ((rd_T38 l0 x4_1).f3.f0.f0), .int .u8 ((rd_T38 l0 x4_1).f3.f0.f1)] 33 (0, 0)) (by exact BK206.out) hg (Kd.R_away HO216.out (fun _ hk => hk.2))); replace HB := Ad (hb); replace HR213 := Ad ((show Kd.C k33 w32 (some ad207) y210.length y210 from by rw [Ny210.out]; exact Kd.C_take (m := (x6_2 : Int).toNat) ((Kd.R_reads' (Kd.R_after (ok := (fun k_ => k_ ≠ gb206)) (by exact HO_3.out) hg hat)).2.2) KL29.out)); replace HO_3 := Ad (Kd.R_after (ok := (fun k_ => k_ ≠ gb206)) (by exact HO_3.out) hg hat); have HO219 := Ad (ho); clear HO216; clear ho hb hg hat; have q33 : (x6_2 : Int) ≤ ((x3_1.length : Int) : Int) := of_decide_eq_true (by first | (with_reducible assumption)); obtain ⟨i033, hi033, _, hsz33, _⟩ := info_parts info33; have hroom33 : x3_1.length ≤ co26 := (Kd.R_reads' HO_3.out).2.1; have hC33 : Kd.C k33 _ (some ad207) x3_1.length x3_1 := (Kd.R_reads' HO_3.out).2.2; have q033 : (0 : Int) ≤ (x6_2 : Int) := of_decide_eq_true (by first | (with_reducible assumption)); have hcut33 := cut_from (P := Try.prog) 77 33 .i64 Try.underlying77 hi033 2 hsz33 (some ad207) x3_1.length co26 x6_2 q033 q33; have hr33 := Kd.C_drop (m := (x6_2 : Int).toNat) (c := co26) hC33 (by omega) hroom33; obtain ⟨A33, hA33⟩ : ∃ A1, A1 = (if co26 = (x6_2 : Int).toNat then (some ad207) else ((some ad207) : Option Addr).map (·.add ((x6_2 : Int).toNat * 2))) := ⟨_, rfl⟩; obtain ⟨c33, hc33⟩ : ∃ c1, c1 = co26 - (x6_2 : Int).toNat := ⟨_, rfl⟩; have hy33 : y220.length = x3_1.length - (x6_2 : Int).toNat := (by rw [Ny220.out, List.length_drop] <;> omega); rw [show (x3_1).drop (x6_2 : Int).toNat = y220 from Ny220.out.symm] at hr33; replace hr33 : Kd.C k33 _ A33 y220.length y220 := (by rw [hA33]; exact hr33); rw [← hy33, ← hA33, ← hc33] at hcut33; have HR223 := Ad hr33; have HC223 := Ad (show y220.length ≤ c33 from by rw [hy33, hc33]; exact Nat.sub_le_sub_right hroom33 _); clear hr33 hC33 hroom33 hi033 hsz33 hc33; have KY33 := Ad hy33; have KA33 := Ad hA33; clear hy33 hA33; have KL33 := Ad (show (x6_2 : Int).toNat ≤ x3_1.length from by omega); replace q33 := eq_true q33) | ((with_reducible refine gate_builtin (b := .append) (xs := #[.tmp 55, .tmp 58]) rfl ?_); at_builtin; refine Kd.R_append_rows k33 (w0 := w) w.heap.size rfl (.tmp 55) (.tmp 58) 77 33 (.agg #[(.int .u32 0), (.int .u8 0)]) 8 rfl Try.underlying77 info33 rfl (by decide) (by omega) v218 y217 y220 _ _ _ (fun k_ => some k_ ≠ (.slice (some ad207) x3_1.length co26 : Value).ownBlock ∧ k_ ≠ gb206) (fun _ => False) rfl rfl ?aO ?aR (fun _ _ h => h) (fun _ h => h.elim) ?aF ?aB ?aS ?aL ?_; (case aR => repeat (first | exact (by repeat (first | exact HR223.out)))); (case aB => exact HB.out); (case aF => exact (fun k_ hk => ⟨Kd.fresh' (Kd.R_lt (by exact HO_3.out)) k_ hk, Kd.freshB (g := gb206) (o := .cells #[.int .u32 ((rd_T38 l0 x4_1).f3.f0.f0), .int .u8 ((rd_T38 l0 x4_1).f3.f0.f1)] 33 (0, 0)) (by exact BK206.out) k_ hk⟩)); (case aO => exact (by exact HO219.out)); (case aS => exact (below_size HB.out)); (case aL => have := LMc24.out; omega); intro v225 w34 ho hb hg hat; rw [← Ny224.out] at ho; replace BK206 := Ad (blk_grown (g := gb206) (o := .cells #[.int .u32 ((rd_T38 l0 x4_1).f3.f0.f0), .int .u8 ((rd_T38 l0 x4_1).f3.f0.f1)] 33 (0, 0)) (by exact BK206.out) hg (Kd.R_away HO219.out (fun _ hk => hk.2))); replace HB := Ad (hb); replace HR213 := Ad ((show Kd.C k33 w34 (some ad207) y210.length y210 from by rw [Ny210.out]; exact Kd.C_take (m := (x6_2 : Int).toNat) ((Kd.R_reads' (Kd.R_after (ok := (fun k_ => k_ ≠ gb206)) (by exact HO_3.out) hg hat)).2.2) KL29.out)); replace HR223 := Ad ((show Kd.C k33 w34 A33 y220.length y220 from by rw [Ny220.out, KA33.out]; exact Kd.C_drop (m := (x6_2 : Int).toNat) (c := co26) ((Kd.R_reads' (Kd.R_after (ok := (fun k_ => k_ ≠ gb206)) (by exact HO_3.out) hg hat)).2.2) KL33.out ((Kd.R_reads' (Kd.R_after (ok := (fun k_ => k_ ≠ gb206)) (by exact HO_3.out) hg hat)).2.1))); replace HO_3 := Ad (Kd.R_after (ok := (fun k_ => k_ ≠ gb206)) (by exact HO_3.out) hg hat); have HO226 := Ad (ho); clear HO219; clear ho hb hg hat))
                         go_roundg k2
                         case measure => have := HK1.out; have := HK2.out; omega
                         case rel => exact ⟨(y224), (wrap64 (x4_1 + 1)), (by first | rfl), H', ⟨by have := HK1.out; have := HK2.out; omega⟩, ⟨by exact Kd.R_mono HO226.out (fun _ hk => trivial)⟩, ⟨by repeat (first | (with_reducible first | exact HB.out))⟩⟩
                       · rw [if_neg c24] at H; exact absurd H (by simp)
                     · rw [if_neg c21] at H; exact absurd H (by simp)
                   · rw [if_neg c20] at H; exact absurd H (by simp)
                 · rw [if_neg c19] at H; exact absurd H (by simp)
           · rw [if_neg c7] at H; exact absurd H (by simp)
         · rw [if_neg c6] at H
           have c6b0 : decide (x6_2 < (x3_1.length : Int)) = false := decide_eq_false c6; clear c6
           by_cases c35 : 0 ≤ x6_2
           · rw [if_pos c35] at H
             have c35b0 := eq_true c35; have c35b1 : decide (0 ≤ x6_2) = true := decide_eq_true c35; clear c35
             by_cases c36 : x6_2 ≤ (x3_1.length : Int)
             · rw [if_pos c36] at H
               have c36b0 := eq_true c36; have c36b1 : decide (x6_2 ≤ (x3_1.length : Int)) = true := decide_eq_true c36; clear c36
               obtain ⟨y227, hy227⟩ : ∃ y_ : List (S33), y_ = (x3_1.take (x6_2 : Int).toNat) := ⟨_, rfl⟩
               replace H : (if ([] : List (S33)).length + y227.length < 17592186044416 then ((some (([] : List (S33)) ++ y227 : List (S33))).bind fun y231 => (if y231.length < 17592186044416 then ((some (y231 ++ [(⟨((rd_T38 l0 x4_1).f3.f0.f0), ((rd_T38 l0 x4_1).f3.f0.f1)⟩ : S33)] : List (S33))).bind fun y234 => ((some (x3_1.drop (x6_2 : Int).toNat : List (S33))).bind fun y237 => (if y234.length + y237.length < 17592186044416 then (gb_Prefixes.l0 k2 l0 (y234 ++ y237) (wrap64 (x4_1 + 1))) else (none)))) else (none))) else (none)) = some r := by first | (have H2_ := (Option.bind_some _ _).symm.trans H; rw [hy227]; with_reducible exact H2_)
               have Ny227 := Ad hy227; clear hy227
               by_cases c37 : ([] : List (S33)).length + y227.length < 17592186044416
               · rw [if_pos c37] at H
                 have LMc37 := Ad c37; clear c37
                 obtain ⟨y231, hy231⟩ : ∃ y_ : List (S33), y_ = (([] : List (S33)) ++ y227) := ⟨_, rfl⟩
                 replace H : (if y231.length < 17592186044416 then ((some (y231 ++ [(⟨((rd_T38 l0 x4_1).f3.f0.f0), ((rd_T38 l0 x4_1).f3.f0.f1)⟩ : S33)] : List (S33))).bind fun y234 => ((some (x3_1.drop (x6_2 : Int).toNat : List (S33))).bind fun y237 => (if y234.length + y237.length < 17592186044416 then (gb_Prefixes.l0 k2 l0 (y234 ++ y237) (wrap64 (x4_1 + 1))) else (none)))) else (none)) = some r := by first | (have H2_ := (Option.bind_some _ _).symm.trans H; rw [hy231]; with_reducible exact H2_)
                 have Ny231 := Ad hy231; clear hy231
                 by_cases c38 : y231.length < 17592186044416
                 · rw [if_pos c38] at H
                   have LMc38 := Ad c38; clear c38
                   obtain ⟨y234, hy234⟩ : ∃ y_ : List (S33), y_ = (y231 ++ [(⟨((rd_T38 l0 x4_1).f3.f0.f0), ((rd_T38 l0 x4_1).f3.f0.f1)⟩ : S33)]) := ⟨_, rfl⟩
                   replace H : ((some (x3_1.drop (x6_2 : Int).toNat : List (S33))).bind fun y237 => (if y234.length + y237.length < 17592186044416 then (gb_Prefixes.l0 k2 l0 (y234 ++ y237) (wrap64 (x4_1 + 1))) else (none))) = some r := by first | (have H2_ := (Option.bind_some _ _).symm.trans H; rw [hy234]; with_reducible exact H2_)
                   have Ny234 := Ad hy234; clear hy234; have c39b0 := eq_true (of_decide_eq_true (by first | (with_reducible assumption)) : 0 ≤ x6_2); have c40b0 := eq_true (of_decide_eq_true (by first | (with_reducible assumption)) : x6_2 ≤ (x3_1.length : Int))
                   obtain ⟨y237, hy237⟩ : ∃ y_ : List (S33), y_ = (x3_1.drop (x6_2 : Int).toNat) := ⟨_, rfl⟩
                   replace H : (if y234.length + y237.length < 17592186044416 then (gb_Prefixes.l0 k2 l0 (y234 ++ y237) (wrap64 (x4_1 + 1))) else (none)) = some r := by first | (have H2_ := (Option.bind_some _ _).symm.trans H; rw [hy237]; with_reducible exact H2_)
                   have Ny237 := Ad hy237; clear hy237
                   by_cases c41 : y234.length + y237.length < 17592186044416
                   · rw [if_pos c41] at H
                     have LMc41 := Ad c41; clear c41
                     obtain ⟨y241, hy241⟩ : ∃ y_ : List (S33), y_ = (y234 ++ y237) := ⟨_, rfl⟩
                     replace H : (gb_Prefixes.l0 k2 l0 y241 (wrap64 (x4_1 + 1))) = some r := by first | (rw [hy241]; with_reducible exact H)
                     have Ny241 := Ad hy241; clear hy241; have H' := Ad H; clear H
                     try go_wp2
                     replace HO_3 := Ad (Kd.R_drew HO_3.out); replace BK206 := Ad (blk_drew BK206.out); replace HB := Ad (below_drew1 HB.out); obtain ⟨Ao43, co43, eo43⟩ := Kd.R_slice HO_3.out
                     (first | subst eo43)
                     refine start_ (n := 12) (S := fun w' => True) (ds := []) (tf 12 0) (by kernel_rfl) rfl rfl trivial (fun hHeld => ?_); refine with_tabW gb_Prefixes.tab7 gb_Prefixes.bits7 (fun HT_ HW_ => ?_)
                     generalize wr.drew = w42 at HO_3 BK206 HB hHeld ⊢; refine pu 0 20 ?_ (tf 12 1) rfl rfl (any_of HT_.out (by kernel_rfl)) (fun _ _ _ h => h) (by rfl) ?_ ?_ ?_ ?_; rotate_left; · intro w'; go_simp; with_reducible rfl
                     rotate_left; · simp only [Act.put, lz]; rfl
                     refine pu 1 21 ?_ (tf 12 2) rfl rfl (any_of HT_.out (by kernel_rfl)) (fun _ _ _ h => h) (by rfl) ?_ ?_ ?_ ?_; rotate_left; · intro w'; go_simp; with_reducible rfl
                     rotate_left; · simp only [Act.put, lz]; rfl
                     refine pu 2 22 ?_ (tf 12 3) rfl rfl (any_of HT_.out (by kernel_rfl)) (fun _ _ _ h => h) (by rfl) ?_ ?_ ?_ ?_; rotate_left; · intro w'; go_simp; with_reducible rfl
                     rotate_left; · simp only [Act.put, lz]; rfl
                     refine pu 3 23 ?_ (tf 12 4) rfl rfl (any_of HT_.out (by kernel_rfl)) (fun _ _ _ h => h) (by rfl) ?_ ?_ ?_ ?_; rotate_left; · intro w'; go_simp; with_reducible rfl
                     rotate_left; · simp only [Act.put, lz]; rfl
                     refine pu 4 24 ?_ (tf 12 5) rfl rfl (any_of HT_.out (by kernel_rfl)) (fun _ _ _ h => h) (by rfl) ?_ ?_ ?_ ?_; rotate_left; · intro w'; go_simp; with_reducible rfl
                     rotate_left; · simp only [Act.put, lz]; rfl
                     refine un 5 25 (tf 12 6) rfl rfl (any_of HT_.out (by kernel_rfl)) (fun _ _ _ h => h) (by rfl) ?_ ?_ ?_; rotate_left; · simp only [Act.put, lz]; rfl
                     refine un 6 26 (tf 12 7) rfl rfl (any_of HT_.out (by kernel_rfl)) (fun _ _ _ h => h) (by rfl) ?_ ?_ ?_; rotate_left; · simp only [Act.put, lz]; rfl
                     refine un 7 27 (tf 12 8) rfl rfl (any_of HT_.out (by kernel_rfl)) (fun _ _ _ h => h) (by rfl) ?_ ?_ ?_; rotate_left; · simp only [Act.put, lz]; rfl
                     refine un 8 28 (tf 12 9) rfl rfl (any_of HT_.out (by kernel_rfl)) (fun _ _ _ h => h) (by rfl) ?_ ?_ ?_; rotate_left; · simp only [Act.put, lz]; rfl
                     refine un 9 29 (tf 12 10) rfl rfl (any_of HT_.out (by kernel_rfl)) (fun _ _ _ h => h) (by rfl) ?_ ?_ ?_; rotate_left; · simp only [Act.put, lz]; rfl
                     refine un 10 30 (tf 12 11) rfl rfl (any_of HT_.out (by kernel_rfl)) (fun _ _ _ h => h) (by rfl) ?_ ?_ ?_; rotate_left; · simp only [Act.put, lz]; rfl
                     refine pu 11 31 ?_ (tf 12 12) rfl rfl (any_of HT_.out (by kernel_rfl)) (fun _ _ _ h => h) (by rfl) ?_ ?_ ?_ ?_; rotate_left; · intro w'; go_simp; with_reducible rfl
                     rotate_left; · simp only [Act.put, lz]; rfl
                     refine done_ (done_of HT_.out (by kernel_rfl)) ?_
                     try go_wp2
                     replace HO_3 := Ad (Kd.R_drew HO_3.out); replace BK206 := Ad (blk_drew BK206.out); replace HB := Ad (below_drew1 HB.out)
                     refine start_ (n := 12) (S := fun w' => True) (ds := []) (tf 12 0) (by kernel_rfl) rfl rfl trivial (fun hHeld => ?_); refine with_tabW gb_Prefixes.tab9 gb_Prefixes.bits9 (fun HT_ HW_ => ?_)
                     generalize w42.drew = w44 at HO_3 BK206 HB hHeld ⊢; refine pu 0 34 ?_ (tf 12 1) rfl rfl (any_of HT_.out (by kernel_rfl)) (fun _ _ _ h => h) (by rfl) ?_ ?_ ?_ ?_; rotate_left; · intro w'; go_simp; with_reducible rfl
                     rotate_left; · simp only [Act.put, lz]; rfl
                     refine pu 1 35 ?_ (tf 12 2) rfl rfl (any_of HT_.out (by kernel_rfl)) (fun _ _ _ h => h) (by rfl) ?_ ?_ ?_ ?_; rotate_left; · intro w'; go_simp; with_reducible rfl
                     rotate_left; · simp only [Act.put, lz]; rfl
                     refine pu 2 36 ?_ (tf 12 3) rfl rfl (any_of HT_.out (by kernel_rfl)) (fun _ _ _ h => h) (by rfl) ?_ ?_ ?_ ?_; rotate_left; · intro w'; go_simp; with_reducible rfl
                     rotate_left; · simp only [Act.put, lz]; rfl
                     refine pu 3 37 ?_ (tf 12 4) rfl rfl (any_of HT_.out (by kernel_rfl)) (fun _ _ _ h => h) (by rfl) ?_ ?_ ?_ ?_; rotate_left; · intro w'; go_simp; with_reducible rfl
                     rotate_left; · simp only [Act.put, lz]; rfl
                     refine pu 4 38 ?_ (tf 12 5) rfl rfl (any_of HT_.out (by kernel_rfl)) (fun _ _ _ h => h) (by rfl) ?_ ?_ ?_ ?_; rotate_left; · intro w'; go_simp; with_reducible rfl
                     rotate_left; · simp only [Act.put, lz]; rfl
                     refine un 5 39 (tf 12 6) rfl rfl (any_of HT_.out (by kernel_rfl)) (fun _ _ _ h => h) (by rfl) ?_ ?_ ?_; rotate_left; · simp only [Act.put, lz]; rfl
                     refine un 6 40 (tf 12 7) rfl rfl (any_of HT_.out (by kernel_rfl)) (fun _ _ _ h => h) (by rfl) ?_ ?_ ?_; rotate_left; · simp only [Act.put, lz]; rfl
                     refine un 7 41 (tf 12 8) rfl rfl (any_of HT_.out (by kernel_rfl)) (fun _ _ _ h => h) (by rfl) ?_ ?_ ?_; rotate_left; · simp only [Act.put, lz]; rfl
                     refine un 8 42 (tf 12 9) rfl rfl (any_of HT_.out (by kernel_rfl)) (fun _ _ _ h => h) (by rfl) ?_ ?_ ?_; rotate_left; · simp only [Act.put, lz]; rfl
                     refine un 9 43 (tf 12 10) rfl rfl (any_of HT_.out (by kernel_rfl)) (fun _ _ _ h => h) (by rfl) ?_ ?_ ?_; rotate_left; · simp only [Act.put, lz]; rfl
                     refine un 10 44 (tf 12 11) rfl rfl (any_of HT_.out (by kernel_rfl)) (fun _ _ _ h => h) (by rfl) ?_ ?_ ?_; rotate_left; · simp only [Act.put, lz]; rfl
                     refine pu 11 45 ?_ (tf 12 12) rfl rfl (any_of HT_.out (by kernel_rfl)) (fun _ _ _ h => h) (by rfl) ?_ ?_ ?_ ?_; rotate_left; · intro w'; go_simp; with_reducible rfl
                     rotate_left; · simp only [Act.put, lz]; rfl
                     refine done_ (done_of HT_.out (by kernel_rfl)) ?_; have q45 : (x6_2 : Int) ≤ ((x3_1.length : Int) : Int) := of_decide_eq_true (by first | (with_reducible assumption)); obtain ⟨i045, hi045, _, hsz45, _⟩ := info_parts info33; have hroom45 : x3_1.length ≤ co43 := (Kd.R_reads' HO_3.out).2.1; have hC45 : Kd.C k33 _ Ao43 x3_1.length x3_1 := (Kd.R_reads' HO_3.out).2.2; have hcut45 := cut_to (P := Try.prog) 77 33 .i64 Try.underlying77 hi045 Ao43 x3_1.length co43 x6_2 (of_decide_eq_true (by first | (with_reducible assumption))) q45 hroom45; have hr45 := Kd.C_take (m := (x6_2 : Int).toNat) hC45 (by omega); have hy45 : y227.length = (x6_2 : Int).toNat := (by rw [Ny227.out, List.length_take]; omega); rw [← Ny227.out] at hr45; rw [← hy45] at hcut45; have HR230 := Ad hr45; have HC230 := Ad (show y227.length ≤ co43 from by omega); clear hr45 hC45 hroom45 hi045 hsz45; have KY45 := Ad hy45; clear hy45; have KL45 := Ad (show (x6_2 : Int).toNat ≤ x3_1.length from by omega); replace q45 := eq_true q45
                     try go_wp2_with (first | ((with_reducible refine gate_builtin (b := .append) (xs := #[.tmp 46, .tmp 49]) rfl ?_); at_builtin; refine Kd.R_append_rows k33 (w0 := w) w.heap.size rfl (.tmp 46) (.tmp 49) 77 33 (.agg #[(.int .u32 0), (.int .u8 0)]) 8 rfl Try.underlying77 info33 rfl (by decide) (by omega) (.slice none 0 0) ([] : List (S33)) y227 _ _ _ (fun k_ => some k_ ≠ (.slice Ao43 x3_1.length co43 : Value).ownBlock ∧ k_ ≠ gb206) (fun _ => False) rfl rfl ?aO ?aR (fun _ _ h => h) (fun _ h => h.elim) ?aF ?aB ?aS ?aL ?_; (case aR => repeat (first | exact (by repeat (first | exact HR230.out)))); (case aB => exact HB.out); (case aF => exact (fun k_ hk => ⟨Kd.fresh' (Kd.R_lt (by exact HO_3.out)) k_ hk, Kd.freshB (g := gb206) (o := .cells #[.int .u32 ((rd_T38 l0 x4_1).f3.f0.f0), .int .u8 ((rd_T38 l0 x4_1).f3.f0.f1)] 33 (0, 0)) (by exact BK206.out) k_ hk⟩)); (case aO => exact ((Kd.R_nil _ _ _ _ (fun k_ => some k_ ≠ (.slice Ao43 x3_1.length co43 : Value).ownBlock ∧ k_ ≠ gb206)))); (case aS => exact (below_size HB.out)); (case aL => have := LMc37.out; omega); intro v232 w46 ho hb hg hat; rw [← Ny231.out] at ho; replace BK206 := Ad (blk_grown (g := gb206) (o := .cells #[.int .u32 ((rd_T38 l0 x4_1).f3.f0.f0), .int .u8 ((rd_T38 l0 x4_1).f3.f0.f1)] 33 (0, 0)) (by exact BK206.out) hg (by simp [Value.ownBlock])); replace HB := Ad (hb); replace HR230 := Ad ((show Kd.C k33 w46 Ao43 y227.length y227 from by rw [Ny227.out]; exact Kd.C_take (m := (x6_2 : Int).toNat) ((Kd.R_reads' (Kd.R_after (Kd.R_apart_nil (by exact HO_3.out)) hg hat)).2.2) KL45.out)); replace HO_3 := Ad (Kd.R_after (Kd.R_apart_nil (by exact HO_3.out)) hg hat); have HO233 := Ad (ho); clear ho hb hg hat; have hcz47_0 : w46.cell? ⟨gb206, 0, none⟩ = some (.int .u32 ((rd_T38 l0 x4_1).f3.f0.f0)) := (blk_cell BK206.out 0).trans rfl; have hcz47_1 : w46.cell? ⟨gb206, 1, none⟩ = some (.int .u8 ((rd_T38 l0 x4_1).f3.f0.f1)) := (blk_cell BK206.out 1).trans rfl; have hfz47_0 := blk_frozen BK206.out 0; have hfz47_1 := blk_frozen BK206.out 1) | ((with_reducible refine gate_builtin (b := .append) (xs := #[.tmp 51, .tmp 53]) rfl ?_); at_builtin; refine Kd.R_append k33 (w0 := w) w.heap.size rfl (.tmp 51) (.tmp 53) 77 33 (.agg #[(.int .u32 0), (.int .u8 0)]) 8 rfl Try.underlying77 info33 rfl (by decide) (by omega) v232 y231 (⟨((rd_T38 l0 x4_1).f3.f0.f0), ((rd_T38 l0 x4_1).f3.f0.f1)⟩ : S33) [.int .u32 ((rd_T38 l0 x4_1).f3.f0.f0), .int .u8 ((rd_T38 l0 x4_1).f3.f0.f1)] (fun k_ => some k_ ≠ (.slice Ao43 x3_1.length co43 : Value).ownBlock ∧ k_ ≠ gb206) (fun _ => False) rfl rfl ?aP (fun _ hk => hk.elim) ?aF ?aO ?aB ?aS ?aL ?_; (case aP => exact k33_mkM _ _ _ (⟨((rd_T38 l0 x4_1).f3.f0.f0), ((rd_T38 l0 x4_1).f3.f0.f1)⟩ : S33)); (case aB => exact HB.out); (case aF => exact (fun k_ hk => ⟨Kd.fresh' (Kd.R_lt (by exact HO_3.out)) k_ hk, Kd.freshB (g := gb206) (o := .cells #[.int .u32 ((rd_T38 l0 x4_1).f3.f0.f0), .int .u8 ((rd_T38 l0 x4_1).f3.f0.f1)] 33 (0, 0)) (by exact BK206.out) k_ hk⟩)); (case aO => exact (by exact HO233.out)); (case aS => exact (below_size HB.out)); (case aL => have := LMc38.out; omega); intro v235 w48 ho hb hg hat; rw [← Ny234.out] at ho; replace BK206 := Ad (blk_grown (g := gb206) (o := .cells #[.int .u32 ((rd_T38 l0 x4_1).f3.f0.f0), .int .u8 ((rd_T38 l0 x4_1).f3.f0.f1)] 33 (0, 0)) (by exact BK206.out) hg (Kd.R_away HO233.out (fun _ hk => hk.2))); replace HB := Ad (hb); replace HR230 := Ad ((show Kd.C k33 w48 Ao43 y227.length y227 from by rw [Ny227.out]; exact Kd.C_take (m := (x6_2 : Int).toNat) ((Kd.R_reads' (Kd.R_after (ok := (fun k_ => k_ ≠ gb206)) (by exact HO_3.out) hg hat)).2.2) KL45.out)); replace HO_3 := Ad (Kd.R_after (ok := (fun k_ => k_ ≠ gb206)) (by exact HO_3.out) hg hat); have HO236 := Ad (ho); clear HO233; clear ho hb hg hat; have q49 : (x6_2 : Int) ≤ ((x3_1.length : Int) : Int) := of_decide_eq_true (by first | (with_reducible assumption)); obtain ⟨i049, hi049, _, hsz49, _⟩ := info_parts info33; have hroom49 : x3_1.length ≤ co43 := (Kd.R_reads' HO_3.out).2.1; have hC49 : Kd.C k33 _ Ao43 x3_1.length x3_1 := (Kd.R_reads' HO_3.out).2.2; have q049 : (0 : Int) ≤ (x6_2 : Int) := of_decide_eq_true (by first | (with_reducible assumption)); have hcut49 := cut_from (P := Try.prog) 77 33 .i64 Try.underlying77 hi049 2 hsz49 Ao43 x3_1.length co43 x6_2 q049 q49; have hr49 := Kd.C_drop (m := (x6_2 : Int).toNat) (c := co43) hC49 (by omega) hroom49; obtain ⟨A49, hA49⟩ : ∃ A1, A1 = (if co43 = (x6_2 : Int).toNat then Ao43 else (Ao43 : Option Addr).map (·.add ((x6_2 : Int).toNat * 2))) := ⟨_, rfl⟩; obtain ⟨c49, hc49⟩ : ∃ c1, c1 = co43 - (x6_2 : Int).toNat := ⟨_, rfl⟩; have hy49 : y237.length = x3_1.length - (x6_2 : Int).toNat := (by rw [Ny237.out, List.length_drop] <;> omega); rw [show (x3_1).drop (x6_2 : Int).toNat = y237 from Ny237.out.symm] at hr49; replace hr49 : Kd.C k33 _ A49 y237.length y237 := (by rw [hA49]; exact hr49); rw [← hy49, ← hA49, ← hc49] at hcut49; have HR240 := Ad hr49; have HC240 := Ad (show y237.length ≤ c49 from by rw [hy49, hc49]; exact Nat.sub_le_sub_right hroom49 _); clear hr49 hC49 hroom49 hi049 hsz49 hc49; have KY49 := Ad hy49; have KA49 := Ad hA49; clear hy49 hA49; have KL49 := Ad (show (x6_2 : Int).toNat ≤ x3_1.length from by omega); replace q49 := eq_true q49) | ((with_reducible refine gate_builtin (b := .append) (xs := #[.tmp 55, .tmp 58]) rfl ?_); at_builtin; refine Kd.R_append_rows k33 (w0 := w) w.heap.size rfl (.tmp 55) (.tmp 58) 77 33 (.agg #[(.int .u32 0), (.int .u8 0)]) 8 rfl Try.underlying77 info33 rfl (by decide) (by omega) v235 y234 y237 _ _ _ (fun k_ => some k_ ≠ (.slice Ao43 x3_1.length co43 : Value).ownBlock ∧ k_ ≠ gb206) (fun _ => False) rfl rfl ?aO ?aR (fun _ _ h => h) (fun _ h => h.elim) ?aF ?aB ?aS ?aL ?_; (case aR => repeat (first | exact (by repeat (first | exact HR240.out)))); (case aB => exact HB.out); (case aF => exact (fun k_ hk => ⟨Kd.fresh' (Kd.R_lt (by exact HO_3.out)) k_ hk, Kd.freshB (g := gb206) (o := .cells #[.int .u32 ((rd_T38 l0 x4_1).f3.f0.f0), .int .u8 ((rd_T38 l0 x4_1).f3.f0.f1)] 33 (0, 0)) (by exact BK206.out) k_ hk⟩)); (case aO => exact (by exact HO236.out)); (case aS => exact (below_size HB.out)); (case aL => have := LMc41.out; omega); intro v242 w50 ho hb hg hat; rw [← Ny241.out] at ho; replace BK206 := Ad (blk_grown (g := gb206) (o := .cells #[.int .u32 ((rd_T38 l0 x4_1).f3.f0.f0), .int .u8 ((rd_T38 l0 x4_1).f3.f0.f1)] 33 (0, 0)) (by exact BK206.out) hg (Kd.R_away HO236.out (fun _ hk => hk.2))); replace HB := Ad (hb); replace HR230 := Ad ((show Kd.C k33 w50 Ao43 y227.length y227 from by rw [Ny227.out]; exact Kd.C_take (m := (x6_2 : Int).toNat) ((Kd.R_reads' (Kd.R_after (ok := (fun k_ => k_ ≠ gb206)) (by exact HO_3.out) hg hat)).2.2) KL45.out)); replace HR240 := Ad ((show Kd.C k33 w50 A49 y237.length y237 from by rw [Ny237.out, KA49.out]; exact Kd.C_drop (m := (x6_2 : Int).toNat) (c := co43) ((Kd.R_reads' (Kd.R_after (ok := (fun k_ => k_ ≠ gb206)) (by exact HO_3.out) hg hat)).2.2) KL49.out ((Kd.R_reads' (Kd.R_after (ok := (fun k_ => k_ ≠ gb206)) (by exact HO_3.out) hg hat)).2.1))); replace HO_3 := Ad (Kd.R_after (ok := (fun k_ => k_ ≠ gb206)) (by exact HO_3.out) hg hat); have HO243 := Ad (ho); clear HO236; clear ho hb hg hat))
                     go_roundg k2
                     case measure => have := HK1.out; have := HK2.out; omega
                     case rel => exact ⟨(y241), (wrap64 (x4_1 + 1)), (by first | rfl), H', ⟨by have := HK1.out; have := HK2.out; omega⟩, ⟨by exact Kd.R_mono HO243.out (fun _ hk => trivial)⟩, ⟨by repeat (first | (with_reducible first | exact HB.out))⟩⟩
                   · rw [if_neg c41] at H; exact absurd H (by simp)
                 · rw [if_neg c38] at H; exact absurd H (by simp)
               · rw [if_neg c37] at H; exact absurd H (by simp)
             · rw [if_neg c36] at H; exact absurd H (by simp)
           · rw [if_neg c35] at H; exact absurd H (by simp)
     · rw [if_neg c3] at H; exact absurd H (by simp)
   · rw [if_neg c2] at H
     have c2b0 : decide (x4_1 < (l0.length : Int)) = false := decide_eq_false c2; clear c2; obtain rfl := Option.some.inj H
     simp only [Option.some.injEq, Prod.mk.injEq] at H
     obtain ⟨rfl⟩ := H; go_wp2; go_ret; exact ⟨_, by first | rfl, by exact HO_3.out, by repeat (first | (with_reducible first | exact HB.out))⟩

end Go.Proofs.Ytmkjgiejnlmncaa.QTableBytes
