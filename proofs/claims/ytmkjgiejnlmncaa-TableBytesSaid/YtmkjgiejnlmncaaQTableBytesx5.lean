-- Lines by a program of this session, for this claim.
import Derived.Test.YtmkjgiejnlmncaaQTableBytesx0
import Derived.Test.YtmkjgiejnlmncaaQTableBytesx4
namespace Go.Proofs.Ytmkjgiejnlmncaa.QTableBytes
open Go.RowKit Go.Proofs.YtmkjgiejnlmncaaW.PrintWords Go.Proofs.YtmkjgiejnlmncaaW.PrintLast Go.Proofs.YtmkjgiejnlmncaaW.PrintMore
attribute [local go_sem] max2_int min2_int max_two min_two max_three min_three max_four min_four   -- for this text's walks alone
set_option linter.unusedVariables false
set_option maxRecDepth 100000
set_option maxHeartbeats 8000000
set_option linter.unusedSimpArgs false

/-! ### prefix_Compare: function 33 -/
def prefix_Compare.f (k : Nat) (a0_0 : Int) (a0_1 : Int) (a1_0 : Int) (a1_1 : Int) : Option (Int) := (cmp_Compare_uint32.f a0_0 a1_0).bind fun t108 => ((cmp_Compare_uint8.f a0_1 a1_1).bind fun t109 => ((cmp_Or_int.f k (([t108, t109] : List Int))).bind fun t113 => (some t113)))
theorem prefix_Compare.mono : ∀ a0 a1 a2 a3 k, LeO (prefix_Compare.f k a0 a1 a2 a3) (prefix_Compare.f (k + 1) a0 a1 a2 a3) := by
 intro a0 a1 a2 a3 k
 unfold prefix_Compare.f
 repeat' first
  | (with_reducible exact cmp_Or_int.mono ..)
  | (with_reducible exact LeO.refl ..)
  | (with_reducible exact LeO.none ..)
  | (with_reducible refine LeO.ite ?_ ?_)
  | (with_reducible refine LeO.bind ?_ (fun _ => ?_))
def prefix_Compare.T1 : Bool × List (List Nat × List Nat) := (true, [([], []), ([0], [0]), ([], []), ([2], [2]), ([1, 3], [1, 3]), ([], []), ([5], [5]), ([], []), ([7], [7]), ([6, 8, 4], [6, 8]), ([4, 9], [4, 9]), ([10, 9], [10]), ([11, 11, 0, 1, 2, 3, 4, 5, 6, 7, 8, 9, 10, 11], [11])])
def prefix_Compare.B1 : List Nat := [0, 1, 0, 4, 15, 0, 32, 0, 128, 511, 1023, 2047, 4095]
theorem prefix_Compare.tab1 : rtab .any (opsOf Try.f33 1) = prefix_Compare.T1 := by kernel_rfl
theorem prefix_Compare.bits1 : waitsOk prefix_Compare.T1.2 prefix_Compare.B1 = true := by kernel_rfl
theorem prefix_Compare.calls (k : Nat) (a0_0 : Int) (a0_1 : Int) (a1_0 : Int) (a1_1 : Int) (r : Int) (w : World) (h : prefix_Compare.f k a0_0 a0_1 a1_0 a1_1 = some r) :
 Calls Try.prog 33 #[.agg #[.int .u32 a0_0, .int .u8 a0_1], .agg #[.int .u32 a1_0, .int .u8 a1_1]] w fun e w' => e = .returned (.int .i64 r) ∧ Below w.heap.size w w' := by
 have hu33 := Try.underlying33; have HB := Ad (Below.refl w.heap.size w); have H : ((cmp_Compare_uint32.f a0_0 a1_0).bind fun t108 => ((cmp_Compare_uint8.f a0_1 a1_1).bind fun t109 => ((cmp_Or_int.f k (([t108, t109] : List Int))).bind fun t113 => (some t113)))) = some r := h; clear h; replace H := Option.bind_eq_some_iff.mp H; obtain ⟨t108, A30, H⟩ := H; replace H : ((cmp_Compare_uint8.f a0_1 a1_1).bind fun t109 => ((cmp_Or_int.f k (([t108, t109] : List Int))).bind fun t113 => (some t113))) = some r := H; have A3 := Ad A30; clear A30; replace H := Option.bind_eq_some_iff.mp H; obtain ⟨t109, A40, H⟩ := H; replace H : ((cmp_Or_int.f k (([t108, t109] : List Int))).bind fun t113 => (some t113)) = some r := H; have A4 := Ad A40; clear A40
 obtain ⟨y110, hy110⟩ : ∃ y_ : List Int, y_ = (([t108, t109] : List Int)) := ⟨_, rfl⟩
 replace H : ((cmp_Or_int.f k y110).bind fun t113 => (some t113)) = some r := by first | (rw [hy110]; with_reducible exact H) | exact H
 have Ny110 := Ad hy110; clear hy110; replace H := Option.bind_eq_some_iff.mp H; obtain ⟨t113, A50, H⟩ := H; replace H : (some t113) = some r := H; have A5 := Ad A50; clear A50; obtain rfl := Option.some.inj H
 simp only [Option.some.injEq, Prod.mk.injEq] at H
 obtain ⟨rfl⟩ := H
 go_enter Try.func33, Try.ntmps33
 try go_wp2_with (first | ((with_reducible refine gate_dst (N := 2) rfl ?_); refine box_event ?hg (N := 2) ?hd (cs := #[.int .u32 a0_0, .int .u8 a0_1]) (t := 33) ?hr ?_; (case hd => rfl); (case hg => rfl); (case hr => first | (go_simp; done)); intro gb106 hg w6 hbox hb; have BK106 := Ad (hbox); have GW106 := Ad ((by rw [hg]; exact (below_size (by repeat (first | (with_reducible first | exact HB.out | apply below_drew1)))) : w.heap.size ≤ gb106)); have GE106 := GW106; replace HB := Ad (below_step (by repeat (first | (with_reducible first | exact HB.out | apply below_drew1))) hb); clear hb hbox hg) | ((with_reducible refine gate_dst (N := 3) rfl ?_); refine box_event ?hg (N := 3) ?hd (cs := #[.int .u32 a1_0, .int .u8 a1_1]) (t := 33) ?hr ?_; (case hd => rfl); (case hg => rfl); (case hr => first | (go_simp; done)); intro gb107 hg w7 hbox hb; have BK107 := Ad (hbox); have GW107 := Ad ((by rw [hg]; exact (below_size (by repeat (first | (with_reducible first | exact HB.out | refine below_set ?_ GE106.out)))) : w.heap.size ≤ gb107)); have GE107 := GW107; replace HB := Ad (below_step (by repeat (first | (with_reducible first | exact HB.out | refine below_set ?_ GE106.out))) hb); have NB106_107 := Ad ((by rw [hg]; exact Nat.ne_of_lt (blk_lt (g := gb106) (o := .cells #[.int .u32 a0_0, .int .u8 a0_1] 33 (0, 0)) (by exact BK106.out)) : gb106 ≠ gb107)); have NB107_106 := Ad ((by rw [hg]; exact Nat.ne_of_gt (blk_lt (g := gb106) (o := .cells #[.int .u32 a0_0, .int .u8 a0_1] 33 (0, 0)) (by exact BK106.out)) : gb107 ≠ gb106)); replace BK106 := Ad (blk_below (g := gb106) (o := .cells #[.int .u32 a0_0, .int .u8 a0_1] 33 (0, 0)) (by exact BK106.out) hb); clear hb hbox hg))
 replace BK106 := Ad (blk_drew BK106.out); replace BK107 := Ad (blk_drew BK107.out); replace HB := Ad (below_drew1 HB.out)
 refine start_ (n := 13) (S := fun w' => w'.cell? ⟨gb106, 0, none⟩ = some (.int .u32 a0_0) ∧ w'.cell? ⟨gb106, 1, none⟩ = some (.int .u8 a0_1) ∧ w'.cell? ⟨gb107, 0, none⟩ = some (.int .u32 a1_0) ∧ w'.cell? ⟨gb107, 1, none⟩ = some (.int .u8 a1_1)) (ds := []) (tf 13 0) (by kernel_rfl) rfl rfl ⟨(blk_cell BK106.out 0).trans rfl, (blk_cell BK106.out 1).trans rfl, (blk_cell BK107.out 0).trans rfl, (blk_cell BK107.out 1).trans rfl⟩ (fun hHeld => ?_); refine with_tabW prefix_Compare.tab1 prefix_Compare.bits1 (fun HT_ HW_ => ?_)
 generalize w7.drew = w8 at BK106 BK107 HB hHeld ⊢; refine pu 0 5 ?_ (tf 13 1) rfl rfl (any_of HT_.out (by kernel_rfl)) (fun _ _ _ h => h) (by rfl) ?_ ?_ ?_ ?_; rotate_left; · intro w'; go_simp; with_reducible rfl
 rotate_left; · simp only [Act.put, lz]; rfl
 refine pu 2 7 ?_ #[I,O,I,O,O,O,O,O,O,O,O,O,O] rfl rfl (any_of HT_.out (by kernel_rfl)) (fun _ _ _ h => h) (by rfl) ?_ ?_ ?_ ?_; rotate_left; · intro w'; go_simp; with_reducible rfl
 rotate_left; · simp only [Act.put, lz]; rfl
 refine pu 5 10 ?_ #[I,O,I,O,O,I,O,O,O,O,O,O,O] rfl rfl (any_of HT_.out (by kernel_rfl)) (fun _ _ _ h => h) (by rfl) ?_ ?_ ?_ ?_; rotate_left; · intro w'; go_simp; with_reducible rfl
 rotate_left; · simp only [Act.put, lz]; rfl
 refine pu 7 12 ?_ #[I,O,I,O,O,I,O,I,O,O,O,O,O] rfl rfl (any_of HT_.out (by kernel_rfl)) (fun _ _ _ h => h) (by rfl) ?_ ?_ ?_ ?_; rotate_left; · intro w'; go_simp; with_reducible rfl
 rotate_left; · simp only [Act.put, lz]; rfl
 refine tu 1 6 ?_ #[I,I,I,O,O,I,O,I,O,O,O,O,O] rfl rfl (take_ofW HT_.out HW_.out (by kernel_rfl)) (fun _ _ _ h => h) (by rfl) ?_ hHeld ?_ ?_ ?_; rotate_left; · rintro w' ⟨s0, s1, s2, s3⟩; go_simp; with_reducible rfl
 rotate_left; · simp only [Act.put, lz]; rfl
 refine tu 3 8 ?_ #[I,I,I,I,O,I,O,I,O,O,O,O,O] rfl rfl (take_ofW HT_.out HW_.out (by kernel_rfl)) (fun _ _ _ h => h) (by rfl) ?_ hHeld ?_ ?_ ?_; rotate_left; · rintro w' ⟨s0, s1, s2, s3⟩; go_simp; with_reducible rfl
 rotate_left; · simp only [Act.put, lz]; rfl
 refine tu 6 11 ?_ #[I,I,I,I,O,I,I,I,O,O,O,O,O] rfl rfl (take_ofW HT_.out HW_.out (by kernel_rfl)) (fun _ _ _ h => h) (by rfl) ?_ hHeld ?_ ?_ ?_; rotate_left; · rintro w' ⟨s0, s1, s2, s3⟩; go_simp; with_reducible rfl
 rotate_left; · simp only [Act.put, lz]; rfl
 refine tu 8 13 ?_ #[I,I,I,I,O,I,I,I,I,O,O,O,O] rfl rfl (take_ofW HT_.out HW_.out (by kernel_rfl)) (fun _ _ _ h => h) (by rfl) ?_ hHeld ?_ ?_ ?_; rotate_left; · rintro w' ⟨s0, s1, s2, s3⟩; go_simp; with_reducible rfl
 rotate_left; · simp only [Act.put, lz]; rfl
 refine one_ (i := 4) (N := some 9) (tf 13 9) rfl rfl (one_of HT_.out (by kernel_rfl)) (by decide) (fun K hK => ?_); refine goes_ Try.func48 (by kernel_rfl) rfl #[.int .u32 a0_0, .int .u32 a1_0] (by rfl) rfl rfl (by (try simp only [List.map_toArray, List.map_cons, List.map_nil]); first | rfl) ?_
 with_reducible refine (cmp_Compare_uint32.calls a0_0 a1_0 t108 _ A3.out).mono ?_
 rintro e w' ⟨rfl, ⟨nd, rfl⟩⟩; refine ⟨_, rfl, ?_⟩; refine hK.out _ _ ⟨(blk_cell BK106.out 0).trans rfl, (blk_cell BK106.out 1).trans rfl, (blk_cell BK107.out 0).trans rfl, (blk_cell BK107.out 1).trans rfl⟩ (fun hHeld => ?_); clear hK K; refine norm_ (a' := ?_) ?_ ?_; rotate_left
 · show Act.put _ (some 9) _ = _; simp only [Act.put, lz]; rfl
 refine one_ (i := 9) (N := some 14) (tf 13 10) rfl rfl (one_of HT_.out (by kernel_rfl)) (by decide) (fun K hK => ?_); refine goes_ Try.func49 (by kernel_rfl) rfl #[.int .u8 a0_1, .int .u8 a1_1] (by rfl) rfl rfl (by (try simp only [List.map_toArray, List.map_cons, List.map_nil]); first | rfl) ?_
 with_reducible refine (cmp_Compare_uint8.calls a0_1 a1_1 t109 _ A4.out).mono ?_
 rintro e w' ⟨rfl, ⟨nd, rfl⟩⟩; refine ⟨_, rfl, ?_⟩; refine hK.out _ _ ⟨(blk_cell BK106.out 0).trans rfl, (blk_cell BK106.out 1).trans rfl, (blk_cell BK107.out 0).trans rfl, (blk_cell BK107.out 1).trans rfl⟩ (fun hHeld => ?_); clear hK K; refine norm_ (a' := ?_) ?_ ?_; rotate_left
 · show Act.put _ (some 14) _ = _; simp only [Act.put, lz]; rfl
 refine one_ (i := 10) (N := some 15) (tf 13 11) rfl rfl (one_of HT_.out (by kernel_rfl)) (by decide) (fun K hK => ?_)
 refine Kd.R_lit_step (Kd.int .i64) _ 3 ?hg (N := 15) ?hd (xs := ([t108, t109] : List Int)) (inner := [.int .i64 t108, .int .i64 t109]) (ok := fun _ => True) (okp := fun _ => True) ?hr ?hp (fun _ hk => hk) trivial (Below.refl _ _) (Nat.le_refl _) (by simp) ?_; (case hd => rfl); (case hg => rfl); (case hr => first | (go_simp; done)); (case hp => exact (Reps.one (show Kd.M (Kd.int .i64) _ _ _ t108 [.int .i64 t108] from rfl) (Reps.one (show Kd.M (Kd.int .i64) _ _ _ t109 [.int .i64 t109] from rfl) (Reps.none _ _))))
 intro v111 w9 ho10 hb hg_ hnew_; clear hg_ hnew_
 (first | rw [← Ny110.out] at ho10)
 have HO112 := Ad (Kd.R_lower ho10 (below_size (by repeat (first | (with_reducible first | exact HB.out | apply pw_below_drewN | refine below_set ?_ GE107.out))))); replace BK106 := Ad (blk_below (g := gb106) (o := .cells #[.int .u32 a0_0, .int .u8 a0_1] 33 (0, 0)) (by (with_reducible repeat (first | refine blk_drewN ?_ _ | refine blk_alloc ?_ _)); exact BK106.out) hb); replace BK107 := Ad (blk_below (g := gb107) (o := .cells #[.int .u32 a1_0, .int .u8 a1_1] 33 (0, 0)) (by (with_reducible repeat (first | refine blk_drewN ?_ _ | refine blk_alloc ?_ _)); exact BK107.out) hb); replace HB := Ad (below_step (by repeat (first | (with_reducible first | exact HB.out | apply pw_below_drewN | refine below_set ?_ GE107.out))) hb); clear hb ho10; obtain ⟨Ao11, co11, eo11⟩ := Kd.R_slice HO112.out
 (first | subst eo11)
 refine hK.out _ _ ⟨(blk_cell BK106.out 0).trans rfl, (blk_cell BK106.out 1).trans rfl, (blk_cell BK107.out 0).trans rfl, (blk_cell BK107.out 1).trans rfl⟩ (fun hHeld => ?_); clear hK K; refine norm_ (a' := ?_) ?_ ?_; rotate_left
 · show Act.put _ (some 15) _ = _; simp only [Act.put, lz]; rfl
 refine one_ (i := 11) (N := some 16) (tf 13 12) rfl rfl (one_of HT_.out (by kernel_rfl)) (by decide) (fun K hK => ?_); refine goes_ Try.func47 (by kernel_rfl) rfl #[.slice Ao11 y110.length co11] (by rfl) rfl rfl (by (try simp only [List.map_toArray, List.map_cons, List.map_nil]); first | rfl) ?_
 with_reducible refine (cmp_Or_int.calls k _ _ y110 t113 _ ?side1 ?side2 A5.out).mono ?_
 (case side1 => repeat (first | exact (Kd.R_reads' HO112.out).2.2 | (with_reducible refine Kd.C_drew ?_)))
 (case side2 => exact (Kd.R_reads' HO112.out).2.1)
 rintro e w' ⟨rfl, ⟨nd, rfl⟩⟩; refine ⟨_, rfl, ?_⟩; refine hK.out _ _ ⟨(blk_cell BK106.out 0).trans rfl, (blk_cell BK106.out 1).trans rfl, (blk_cell BK107.out 0).trans rfl, (blk_cell BK107.out 1).trans rfl⟩ (fun hHeld => ?_); clear hK K; refine norm_ (a' := ?_) ?_ ?_; rotate_left
 · show Act.put _ (some 16) _ = _; simp only [Act.put, lz]; rfl
 refine pu 12 4 ?_ (tf 13 13) rfl rfl (any_of HT_.out (by kernel_rfl)) (fun _ _ _ h => h) (by rfl) ?_ ?_ ?_ ?_; rotate_left; · intro w'; go_simp; with_reducible rfl
 rotate_left; · simp only [Act.put, lz]; rfl
 refine done_ (done_of HT_.out (by kernel_rfl)) ?_
 try go_wp2
 go_ret; exact ⟨by first | rfl | (simp [*, errW_none, errW_some] <;> rfl), by repeat (first | (with_reducible first | exact HB.out | apply pw_below_drewN | refine below_set ?_ GE107.out))⟩

-- NOT PRINTED: function 41 (api_Prefix)

-- NOT PRINTED: function 42 (table_Table_find_1)

/-! ### table_Table_find: function 25 -/
theorem table_Table_find.cmp_is (a n c m : Int) : prefix_Compare.f 3 a n c m = some (cmpI a n c m) := by
 have h1 : cmp_Compare_uint32.f a c = some (if a < c then -1 else if a > c then 1 else 0) := by
  simp only [cmp_Compare_uint32.f, cmp_isNaN_uint32.f, bne_self_eq_false, Option.bind_some]
  repeat' split
  all_goals first | rfl | (exfalso; first | contradiction)
 have h2 : cmp_Compare_uint8.f n m = some (if n < m then -1 else if n > m then 1 else 0) := by
  simp only [cmp_Compare_uint8.f, cmp_isNaN_uint8.f, bne_self_eq_false, Option.bind_some]
  repeat' split
  all_goals first | rfl | (exfalso; first | contradiction)
 have h3 : ∀ x y : Int, cmp_Or_int.f 3 [x, y] = some (if x = 0 then y else x) := by
  intro x y
  simp only [cmp_Or_int.f, cmp_Or_int.l0, List.length_cons, List.length_nil, rd, wrap64]
  by_cases hx : x = 0
  · subst hx
    by_cases hy : y = 0
    · subst hy; simp
    · simp [hy]
  · simp [hx]
 unfold prefix_Compare.f
 rw [h1, Option.bind_some, h2, Option.bind_some, h3, Option.bind_some]
 congr 1
 unfold cmpI
 repeat' split
 all_goals omega
theorem table_Table_find.hcmp (T : List S43) (pa pn : Int) (hs : rowSrt T) : ∀ j : Nat, j < T.length → prefix_Compare.f 3 (rd_T43 T (j : Int)).f0.f0 (rd_T43 T (j : Int)).f0.f1 pa pn = some (cmpI (rd_T43 T (j : Int)).f0.f0 (rd_T43 T (j : Int)).f0.f1 pa pn) ∧ (cmpI (rd_T43 T (j : Int)).f0.f0 (rd_T43 T (j : Int)).f0.f1 pa pn < 0 ↔ j < rowPos T pa pn) :=
 fun j hj => ⟨table_Table_find.cmp_is _ _ _ _, rowPos_cv T pa pn hs j hj⟩
theorem table_Table_find.cmp (k : Nat) (x : S43) (pa pn c : Int) (w : World) (h : prefix_Compare.f k x.f0.f0 x.f0.f1 pa pn = some c) :
 Calls Try.prog 42 #[.agg #[.int .u32 x.f0.f0, .int .u8 x.f0.f1, .bool x.f1, .int .u32 x.f2.f0.f0, .int .u8 x.f2.f0.f1, .int .i64 x.f2.f1, .int .u16 x.f2.f2, .int .u16 x.f2.f3, .int .u16 x.f3.f0, .int .u16 x.f3.f1], .agg #[.int .u32 pa, .int .u8 pn]] w fun e w' => e = .returned (.int .i64 c) ∧ Below w.heap.size w w' := by
 have hu33 := Try.underlying33; have H := Ad h; clear h
 go_enter Try.func42, Try.ntmps42
 go_wp2_with (first | ((with_reducible refine gate_dst (N := 2) rfl ?_); (try (refine gate_guard (by rfl) ?_; dsimp only)); refine box_event ?hg (N := 2) ?hd (cs := #[.int .u32 x.f0.f0, .int .u8 x.f0.f1, .bool x.f1, .int .u32 x.f2.f0.f0, .int .u8 x.f2.f0.f1, .int .i64 x.f2.f1, .int .u16 x.f2.f2, .int .u16 x.f2.f3, .int .u16 x.f3.f0, .int .u16 x.f3.f1]) (t := 43) ?hr ?_; (case hd => rfl); (case hg => rfl); (case hr => first | (go_simp; done)); intro g2 hg w2 hbox hb; have BK2 := Ad hbox; have HB2 := Ad hb; clear hb hbox hg) | ((with_reducible refine gate_dst (N := 3) rfl ?_); (try (refine gate_guard (by rfl) ?_; dsimp only)); refine box_event ?hg (N := 3) ?hd (cs := #[.int .u32 pa, .int .u8 pn]) (t := 33) ?hr ?_; (case hd => rfl); (case hg => rfl); (case hr => first | (go_simp; done)); intro g3 hg w3 hbox hb; have BK3 := Ad hbox; have BK2b := Ad (blk_below BK2.out hb); have HB3 := Ad (below_step HB2.out hb); clear hb hbox hg BK2 HB2; have hx0 : w3.cell? ⟨g2, 0, none⟩ = some (.int .u32 x.f0.f0) := (blk_cell BK2b.out 0).trans rfl; have hx1 : w3.cell? ⟨g2, 1, none⟩ = some (.int .u8 x.f0.f1) := (blk_cell BK2b.out 1).trans rfl; have hp0 : w3.cell? ⟨g3, 0, none⟩ = some (.int .u32 pa) := (blk_cell BK3.out 0).trans rfl; have hp1 : w3.cell? ⟨g3, 1, none⟩ = some (.int .u8 pn) := (blk_cell BK3.out 1).trans rfl))
 refine (prefix_Compare.calls k x.f0.f0 x.f0.f1 pa pn c _ H.out).mono ?_; rintro e w4 ⟨rfl, hb⟩; have HB4 := Ad (below_step HB3.out hb); clear hb
 go_wp2_with (fail)
 go_ret; exact ⟨rfl, HB4.out⟩
theorem table_Table_find.goesV {P : Program} {ops : Array Oper} {Q : Exit → Act → World → Prop} {oi : Oper} {N : Option Tmp} {a : Act} {w : World} {K : Act → World → Prop} {f : FuncId} {fn : Func} {as_ : Array Operand} {ts : Array TypeId} (hf : P.funcs[f]? = some fn) (hname : (fn.name == "runtime.NumGoroutine") = false) (hb : fn.body.isSome = true) (o : Operand) (args : Array Value)
 (hw : Region.wanted oi (yielded ops a.tmps) = true) (hN : oi.dst = N) (hop : oi.op = .call { callee := .value o, args := as_, argTypes := ts }) (hv : a.eval o = .func (.func f) #[] #[]) (hargs : as_.map a.eval = args)
 (h : Calls P f args w fun e w' => ∃ v, e = .returned v ∧ K (a.put N v) w') : if Region.wanted oi (yielded ops a.tmps) = true then Oper.wp P oi a w K Q else K (a.put N undef) w := by
 refine call_ f args hw hN ?_ h; have he := enters_ hf hname hb args w
 unfold execOp
 simp [hop, resolve, Deferred.ofValue, invoke, hv, hargs, he]
set_option maxHeartbeats 4000000 in
theorem table_Table_find.bs (k : Nat) (A : Option Addr) (c : Nat) (l : List S43) (pa pn : Int) (i : Nat) (cv : Nat → Int) (w : World) (hC : Kd.C k43 w A l.length l) (hlen : l.length ≤ 1000) (hi : i ≤ l.length)
 (hcmp : ∀ j : Nat, j < l.length → prefix_Compare.f k (rd_T43 l (j : Int)).f0.f0 (rd_T43 l (j : Int)).f0.f1 pa pn = some (cv j) ∧ (cv j < 0 ↔ j < i)) :
 Calls Try.prog 41 #[.slice A l.length c, .agg #[.int .u32 pa, .int .u8 pn], .func (.func 42) #[] #[]] w fun e w' => e = .returned (.tuple #[.int .i64 i, .bool (decide (i < l.length) && (cv i == 0))]) ∧ Below w.heap.size w w' := by
 have hu33 := Try.underlying33; have HC := Ad hC; have HM := Ad hcmp; clear hC hcmp
 go_enter Try.func41, Try.ntmps41
 go_wp2_with (((with_reducible refine gate_dst (N := 4) rfl ?_); (try (refine gate_guard (by rfl) ?_; dsimp only)); refine box_event ?hg (N := 4) ?hd (cs := #[.int .u32 pa, .int .u8 pn]) (t := 33) ?hr ?_; (case hd => rfl); (case hg => rfl); (case hr => first | (go_simp; done)); intro g4 hg w4 hbox hb; have BK4 := Ad hbox; have HB4 := Ad hb; clear hb hbox hg; have hp0 : w4.cell? ⟨g4, 0, none⟩ = some (.int .u32 pa) := (blk_cell BK4.out 0).trans rfl; have hp1 : w4.cell? ⟨g4, 1, none⟩ = some (.int .u8 pn) := (blk_cell BK4.out 1).trans rfl))
 go_loopg [9, 10] l.length (fun kx s9 s10 wr => ∃ lo hj : Nat, s9 = .int .i64 lo ∧ s10 = .int .i64 hj ∧ lo ≤ i ∧ i ≤ hj ∧ hj ≤ l.length ∧ hj - lo ≤ kx ∧ Aside0 (wr.heap[g4]? = some (.cells #[.int .u32 pa, .int .u8 pn] 33 (0, 0))) ∧ Aside0 (Below w.heap.size w wr))
 case atStart => exact ⟨0, l.length, rfl, rfl, Nat.zero_le _, hi, Nat.le_refl _, by omega, BK4, HB4⟩
 case round =>
  clear BK4 HB4 hp0 hp1; obtain ⟨lo, hj, rfl, rfl, hlo, hhj, hjl, hg, BK4, HB4⟩ := hrel
  by_cases hlt : lo < hj
  · obtain ⟨m, hm⟩ : ∃ m : Nat, m = (lo + hj) / 2 := ⟨_, rfl⟩
    have hm1 : lo ≤ m ∧ m < hj := by omega
    have hmid : ((lo : Int) + (hj : Int)) / 2 = (m : Int) := by omega
    obtain ⟨h1, h2⟩ := HM.out m (by omega); have H1 := Ad h1; have BKD := Ad (blk_drew BK4.out); have HBD := Ad (below_drew1 HB4.out); obtain ⟨ad, e0, hx0, hx1, hx2, hx3, hx4, hx5, hx6, hx7, hx8, hx9⟩ := at_T43 (Kd.C_below HC.out HBD.out) (m : Int) (by omega) (by omega); cases e0
    simp only [Int.toNat_natCast] at hx0 hx1 hx2 hx3 hx4 hx5 hx6 hx7 hx8 hx9
    have hp0 : wr.drew.cell? ⟨g4, 0, none⟩ = some (.int .u32 pa) := (blk_cell BKD.out 0).trans rfl; have hp1 : wr.drew.cell? ⟨g4, 1, none⟩ = some (.int .u8 pn) := (blk_cell BKD.out 1).trans rfl; have q1 : decide ((lo : Int) < (hj : Int)) = true := decide_eq_true (by omega); have q2 : decide (0 ≤ (m : Int)) = true := decide_eq_true (by omega); have q3 : decide ((m : Int) < (l.length : Int)) = true := decide_eq_true (by omega)
    have hml : m < l.length := by omega
    clear hm
    go_upto_region 5 with (fail)
    refine start_ (n := 8) (S := fun w' => w'.cell? (ad.add (m * 10)) = some (.int .u32 (rd_T43 l (m : Int)).f0.f0) ∧ w'.cell? ⟨(ad.add (m * 10)).block, (ad.add (m * 10)).off + 1, none⟩ = some (.int .u8 (rd_T43 l (m : Int)).f0.f1) ∧ w'.cell? ⟨(ad.add (m * 10)).block, (ad.add (m * 10)).off + 2, none⟩ = some (.bool (rd_T43 l (m : Int)).f1) ∧ w'.cell? ⟨(ad.add (m * 10)).block, (ad.add (m * 10)).off + 3, none⟩ = some (.int .u32 (rd_T43 l (m : Int)).f2.f0.f0) ∧ w'.cell? ⟨(ad.add (m * 10)).block, (ad.add (m * 10)).off + 4, none⟩ = some (.int .u8 (rd_T43 l (m : Int)).f2.f0.f1) ∧ w'.cell? ⟨(ad.add (m * 10)).block, (ad.add (m * 10)).off + 5, none⟩ = some (.int .i64 (rd_T43 l (m : Int)).f2.f1) ∧ w'.cell? ⟨(ad.add (m * 10)).block, (ad.add (m * 10)).off + 6, none⟩ = some (.int .u16 (rd_T43 l (m : Int)).f2.f2) ∧ w'.cell? ⟨(ad.add (m * 10)).block, (ad.add (m * 10)).off + 7, none⟩ = some (.int .u16 (rd_T43 l (m : Int)).f2.f3) ∧ w'.cell? ⟨(ad.add (m * 10)).block, (ad.add (m * 10)).off + 8, none⟩ = some (.int .u16 (rd_T43 l (m : Int)).f3.f0) ∧ w'.cell? ⟨(ad.add (m * 10)).block, (ad.add (m * 10)).off + 9, none⟩ = some (.int .u16 (rd_T43 l (m : Int)).f3.f1) ∧ w'.cell? ⟨g4, 0, none⟩ = some (.int .u32 pa) ∧ w'.cell? ⟨g4, 1, none⟩ = some (.int .u8 pn)) (ds := []) (tf 8 0) (by kernel_rfl) rfl rfl ⟨hx0, hx1, hx2, hx3, hx4, hx5, hx6, hx7, hx8, hx9, hp0, hp1⟩ (fun hHeld => ?_); generalize wr.drew = wd at hx0 hx1 hx2 hx3 hx4 hx5 hx6 hx7 hx8 hx9 hp0 hp1 BKD HBD hHeld ⊢; refine pu 0 24 ?_ (tf 8 1) rfl rfl (by kernel_rfl) (fun _ _ _ h => h) (by rfl) ?_ ?_ ?_ ?_; rotate_left; · intro w'; go_simp; with_reducible rfl
    rotate_left; · simp only [Act.put, lz]; rfl
    refine pu 1 25 ?_ (tf 8 2) rfl rfl (by kernel_rfl) (fun _ _ _ h => h) (by rfl) ?_ ?_ ?_ ?_; rotate_left; · intro w'; go_simp; with_reducible rfl
    rotate_left; · simp only [Act.put, lz]; rfl
    refine pu 2 26 ?_ (tf 8 3) rfl rfl (by kernel_rfl) (fun _ _ _ h => h) (by rfl) ?_ ?_ ?_ ?_; rotate_left; · intro w'; go_simp; with_reducible rfl
    rotate_left; · simp only [Act.put, lz]; rfl
    refine pu 3 27 ?_ (tf 8 4) rfl rfl (by kernel_rfl) (fun _ _ _ h => h) (by rfl) ?_ ?_ ?_ ?_; rotate_left; · intro w'; go_simp; with_reducible rfl
    rotate_left; · simp only [Act.put, lz]; rfl
    refine tu 4 28 ?_ (tf 8 5) rfl rfl (by kernel_rfl) (fun _ _ _ h => h) (by rfl) ?_ hHeld ?_ ?_ ?_; rotate_left; · rintro w' ⟨s0, s1, s2, s3, s4, s5, s6, s7, s8, s9, s10, s11⟩; go_simp; with_reducible rfl
    rotate_left; · simp only [Act.put, lz]; rfl
    refine tu 5 29 ?_ (tf 8 6) rfl rfl (by kernel_rfl) (fun _ _ _ h => h) (by rfl) ?_ hHeld ?_ ?_ ?_; rotate_left; · rintro w' ⟨s0, s1, s2, s3, s4, s5, s6, s7, s8, s9, s10, s11⟩; go_simp; with_reducible rfl
    rotate_left; · simp only [Act.put, lz]; rfl
    refine one_ (i := 6) (N := some 30) (tf 8 7) rfl rfl (by kernel_rfl) (by decide) (fun K hK => ?_); refine table_Table_find.goesV Try.func42 (by kernel_rfl) rfl (.tmp 24) #[.agg #[.int .u32 (rd_T43 l (m : Int)).f0.f0, .int .u8 (rd_T43 l (m : Int)).f0.f1, .bool (rd_T43 l (m : Int)).f1, .int .u32 (rd_T43 l (m : Int)).f2.f0.f0, .int .u8 (rd_T43 l (m : Int)).f2.f0.f1, .int .i64 (rd_T43 l (m : Int)).f2.f1, .int .u16 (rd_T43 l (m : Int)).f2.f2, .int .u16 (rd_T43 l (m : Int)).f2.f3, .int .u16 (rd_T43 l (m : Int)).f3.f0, .int .u16 (rd_T43 l (m : Int)).f3.f1], .agg #[.int .u32 pa, .int .u8 pn]] (by rfl) rfl rfl (by rfl) (by simp only [List.map_toArray, List.map_cons, List.map_nil]; rfl) ?_
    with_reducible refine (table_Table_find.cmp k (rd_T43 l (m : Int)) pa pn (cv m) _ H1.out).mono ?_
    rintro e w6 ⟨rfl, hb⟩; refine ⟨_, rfl, ?_⟩; replace BKD := Ad (blk_below BKD.out hb); replace HBD := Ad (below_step HBD.out hb); clear hb; obtain ⟨ad_, e0, hx0, hx1, hx2, hx3, hx4, hx5, hx6, hx7, hx8, hx9⟩ := at_T43 (Kd.C_below HC.out HBD.out) (m : Int) (by omega) (by omega)
    obtain rfl : ad = ad_ := by injection e0
    simp only [Int.toNat_natCast] at hx0 hx1 hx2 hx3 hx4 hx5 hx6 hx7 hx8 hx9
    clear e0; refine hK.out _ _ ⟨hx0, hx1, hx2, hx3, hx4, hx5, hx6, hx7, hx8, hx9, (blk_cell BKD.out 0).trans rfl, (blk_cell BKD.out 1).trans rfl⟩ (fun hHeld => ?_); clear hK K; refine norm_ (a' := ?_) ?_ ?_; rotate_left
    · show Act.put _ (some 30) _ = _; simp only [Act.put, lz]; rfl
    refine pu 7 31 ?_ (tf 8 8) rfl rfl (by kernel_rfl) (fun _ _ _ h => h) (by rfl) ?_ ?_ ?_ ?_; rotate_left; · intro w'; go_simp; with_reducible rfl
    rotate_left; · simp only [Act.put, lz]; rfl
    refine done_ (by kernel_rfl) ?_
    all_goals
     clear hp0 hp1
     by_cases hc : m < i
     · have q4 : decide (cv m < 0) = true := decide_eq_true (h2.2 hc)
       go_wp2_with (fail)
       go_roundg (hj - (m + 1))
       case measure => omega
       case rel => exact ⟨m + 1, hj, by go_num, rfl, by omega, hhj, hjl, Nat.le_refl _, BKD, HBD⟩
     · have q4 : decide (cv m < 0) = false := decide_eq_false (fun h => hc (h2.1 h))
       go_wp2_with (fail)
       go_roundg (m - lo)
       case measure => omega
       case rel => exact ⟨lo, m, rfl, rfl, hlo, by omega, by omega, Nat.le_refl _, BKD, HBD⟩
  · obtain rfl : lo = i := by omega
    obtain rfl : hj = lo := by omega
    have q1 : decide ((hj : Int) < (hj : Int)) = false := decide_eq_false (by omega)
    by_cases hlt2 : hj < l.length
    · obtain ⟨h1, h2⟩ := HM.out hj hlt2
      have H1 := Ad h1; have BKD := Ad (blk_drew BK4.out); have HBD := Ad (below_drew1 HB4.out); obtain ⟨ad, e0, hx0, hx1, hx2, hx3, hx4, hx5, hx6, hx7, hx8, hx9⟩ := at_T43 (Kd.C_below HC.out HBD.out) (hj : Int) (by omega) (by omega); cases e0
      simp only [Int.toNat_natCast] at hx0 hx1 hx2 hx3 hx4 hx5 hx6 hx7 hx8 hx9
      have hp0 : wr.drew.cell? ⟨g4, 0, none⟩ = some (.int .u32 pa) := (blk_cell BKD.out 0).trans rfl; have hp1 : wr.drew.cell? ⟨g4, 1, none⟩ = some (.int .u8 pn) := (blk_cell BKD.out 1).trans rfl; have q2 : decide ((hj : Int) < (l.length : Int)) = true := decide_eq_true (by omega); have q3 : decide (hj < l.length) = true := decide_eq_true hlt2
      go_upto_region 8 with (fail)
      refine start_ (n := 16) (S := fun w' => w'.cell? (ad.add (hj * 10)) = some (.int .u32 (rd_T43 l (hj : Int)).f0.f0) ∧ w'.cell? ⟨(ad.add (hj * 10)).block, (ad.add (hj * 10)).off + 1, none⟩ = some (.int .u8 (rd_T43 l (hj : Int)).f0.f1) ∧ w'.cell? ⟨(ad.add (hj * 10)).block, (ad.add (hj * 10)).off + 2, none⟩ = some (.bool (rd_T43 l (hj : Int)).f1) ∧ w'.cell? ⟨(ad.add (hj * 10)).block, (ad.add (hj * 10)).off + 3, none⟩ = some (.int .u32 (rd_T43 l (hj : Int)).f2.f0.f0) ∧ w'.cell? ⟨(ad.add (hj * 10)).block, (ad.add (hj * 10)).off + 4, none⟩ = some (.int .u8 (rd_T43 l (hj : Int)).f2.f0.f1) ∧ w'.cell? ⟨(ad.add (hj * 10)).block, (ad.add (hj * 10)).off + 5, none⟩ = some (.int .i64 (rd_T43 l (hj : Int)).f2.f1) ∧ w'.cell? ⟨(ad.add (hj * 10)).block, (ad.add (hj * 10)).off + 6, none⟩ = some (.int .u16 (rd_T43 l (hj : Int)).f2.f2) ∧ w'.cell? ⟨(ad.add (hj * 10)).block, (ad.add (hj * 10)).off + 7, none⟩ = some (.int .u16 (rd_T43 l (hj : Int)).f2.f3) ∧ w'.cell? ⟨(ad.add (hj * 10)).block, (ad.add (hj * 10)).off + 8, none⟩ = some (.int .u16 (rd_T43 l (hj : Int)).f3.f0) ∧ w'.cell? ⟨(ad.add (hj * 10)).block, (ad.add (hj * 10)).off + 9, none⟩ = some (.int .u16 (rd_T43 l (hj : Int)).f3.f1) ∧ w'.cell? ⟨g4, 0, none⟩ = some (.int .u32 pa) ∧ w'.cell? ⟨g4, 1, none⟩ = some (.int .u8 pn)) (ds := []) (tf 16 0) (by kernel_rfl) rfl rfl ⟨hx0, hx1, hx2, hx3, hx4, hx5, hx6, hx7, hx8, hx9, hp0, hp1⟩ (fun hHeld => ?_); generalize wr.drew = wd at hx0 hx1 hx2 hx3 hx4 hx5 hx6 hx7 hx8 hx9 hp0 hp1 BKD HBD hHeld ⊢; refine pu 0 35 ?_ (tf 16 1) rfl rfl (by kernel_rfl) (fun _ _ _ h => h) (by rfl) ?_ ?_ ?_ ?_; rotate_left; · intro w'; go_simp; with_reducible rfl
      rotate_left; · simp only [Act.put, lz]; rfl
      refine pu 1 36 ?_ (tf 16 2) rfl rfl (by kernel_rfl) (fun _ _ _ h => h) (by rfl) ?_ ?_ ?_ ?_; rotate_left; · intro w'; go_simp; with_reducible rfl
      rotate_left; · simp only [Act.put, lz]; rfl
      refine pu 2 37 ?_ (tf 16 3) rfl rfl (by kernel_rfl) (fun _ _ _ h => h) (by rfl) ?_ ?_ ?_ ?_; rotate_left; · intro w'; go_simp; with_reducible rfl
      rotate_left; · simp only [Act.put, lz]; rfl
      refine pu 3 38 ?_ (tf 16 4) rfl rfl (by kernel_rfl) (fun _ _ _ h => h) (by rfl) ?_ ?_ ?_ ?_; rotate_left; · intro w'; go_simp; with_reducible rfl
      rotate_left; · simp only [Act.put, lz]; rfl
      refine pu 4 39 ?_ (tf 16 5) rfl rfl (by kernel_rfl) (fun _ _ _ h => h) (by rfl) ?_ ?_ ?_ ?_; rotate_left; · intro w'; go_simp; with_reducible rfl
      rotate_left; · simp only [Act.put, lz]; rfl
      refine pu 5 40 ?_ (tf 16 6) rfl rfl (by kernel_rfl) (fun _ _ _ h => h) (by rfl) ?_ ?_ ?_ ?_; rotate_left; · intro w'; go_simp; with_reducible rfl
      rotate_left; · simp only [Act.put, lz]; rfl
      refine pu 6 41 ?_ (tf 16 7) rfl rfl (by kernel_rfl) (fun _ _ _ h => h) (by rfl) ?_ ?_ ?_ ?_; rotate_left; · intro w'; go_simp; with_reducible rfl
      rotate_left; · simp only [Act.put, lz]; rfl
      refine pu 7 42 ?_ (tf 16 8) rfl rfl (by kernel_rfl) (fun _ _ _ h => h) (by rfl) ?_ ?_ ?_ ?_; rotate_left; · intro w'; go_simp; with_reducible rfl
      rotate_left; · simp only [Act.put, lz]; rfl
      refine pu 8 43 ?_ (tf 16 9) rfl rfl (by kernel_rfl) (fun _ _ _ h => h) (by rfl) ?_ ?_ ?_ ?_; rotate_left; · intro w'; go_simp; with_reducible rfl
      rotate_left; · simp only [Act.put, lz]; rfl
      refine tu 9 44 ?_ (tf 16 10) rfl rfl (by kernel_rfl) (fun _ _ _ h => h) (by rfl) ?_ hHeld ?_ ?_ ?_; rotate_left; · rintro w' ⟨s0, s1, s2, s3, s4, s5, s6, s7, s8, s9, s10, s11⟩; go_simp; with_reducible rfl
      rotate_left; · simp only [Act.put, lz]; rfl
      refine tu 10 45 ?_ (tf 16 11) rfl rfl (by kernel_rfl) (fun _ _ _ h => h) (by rfl) ?_ hHeld ?_ ?_ ?_; rotate_left; · rintro w' ⟨s0, s1, s2, s3, s4, s5, s6, s7, s8, s9, s10, s11⟩; go_simp; with_reducible rfl
      rotate_left; · simp only [Act.put, lz]; rfl
      refine one_ (i := 11) (N := some 46) (tf 16 12) rfl rfl (by kernel_rfl) (by decide) (fun K hK => ?_); refine table_Table_find.goesV Try.func42 (by kernel_rfl) rfl (.tmp 40) #[.agg #[.int .u32 (rd_T43 l (hj : Int)).f0.f0, .int .u8 (rd_T43 l (hj : Int)).f0.f1, .bool (rd_T43 l (hj : Int)).f1, .int .u32 (rd_T43 l (hj : Int)).f2.f0.f0, .int .u8 (rd_T43 l (hj : Int)).f2.f0.f1, .int .i64 (rd_T43 l (hj : Int)).f2.f1, .int .u16 (rd_T43 l (hj : Int)).f2.f2, .int .u16 (rd_T43 l (hj : Int)).f2.f3, .int .u16 (rd_T43 l (hj : Int)).f3.f0, .int .u16 (rd_T43 l (hj : Int)).f3.f1], .agg #[.int .u32 pa, .int .u8 pn]] (by rfl) rfl rfl (by rfl) (by simp only [List.map_toArray, List.map_cons, List.map_nil]; rfl) ?_
      with_reducible refine (table_Table_find.cmp k (rd_T43 l (hj : Int)) pa pn (cv hj) _ H1.out).mono ?_
      rintro e w6 ⟨rfl, hb⟩; refine ⟨_, rfl, ?_⟩; replace BKD := Ad (blk_below BKD.out hb); replace HBD := Ad (below_step HBD.out hb); clear hb; obtain ⟨ad_, e0, hx0, hx1, hx2, hx3, hx4, hx5, hx6, hx7, hx8, hx9⟩ := at_T43 (Kd.C_below HC.out HBD.out) (hj : Int) (by omega) (by omega)
      obtain rfl : ad = ad_ := by injection e0
      simp only [Int.toNat_natCast] at hx0 hx1 hx2 hx3 hx4 hx5 hx6 hx7 hx8 hx9
      clear e0; refine hK.out _ _ ⟨hx0, hx1, hx2, hx3, hx4, hx5, hx6, hx7, hx8, hx9, (blk_cell BKD.out 0).trans rfl, (blk_cell BKD.out 1).trans rfl⟩ (fun hHeld => ?_); clear hK K; refine norm_ (a' := ?_) ?_ ?_; rotate_left
      · show Act.put _ (some 46) _ = _; simp only [Act.put, lz]; rfl
      refine pu 12 47 ?_ (tf 16 13) rfl rfl (by kernel_rfl) (fun _ _ _ h => h) (by rfl) ?_ ?_ ?_ ?_; rotate_left; · intro w'; go_simp; with_reducible rfl
      rotate_left; · simp only [Act.put, lz]; rfl
      refine pu 13 48 ?_ (tf 16 14) rfl rfl (by kernel_rfl) (fun _ _ _ h => h) (by rfl) ?_ ?_ ?_ ?_; rotate_left; · intro w'; go_simp; with_reducible rfl
      rotate_left; · simp only [Act.put, lz]; rfl
      refine pu 14 6 ?_ (tf 16 15) rfl rfl (by kernel_rfl) (fun _ _ _ h => h) (by rfl) ?_ ?_ ?_ ?_; rotate_left; · intro w'; go_simp; with_reducible rfl
      rotate_left; · simp only [Act.put, lz]; rfl
      refine pu 15 7 ?_ (tf 16 16) rfl rfl (by kernel_rfl) (fun _ _ _ h => h) (by rfl) ?_ ?_ ?_ ?_; rotate_left; · intro w'; go_simp; with_reducible rfl
      rotate_left; · simp only [Act.put, lz]; rfl
      refine done_ (by kernel_rfl) ?_
      all_goals
       try go_wp2_with (fail)
       go_ret2
       exact ⟨by simp [hlt2], HBD.out⟩
    · have q2 : decide ((hj : Int) < (l.length : Int)) = false := decide_eq_false (by omega)
      have q3 : decide (hj < l.length) = false := decide_eq_false hlt2; have BKD := Ad (blk_drew BK4.out); have HBD := Ad (below_drew1 HB4.out)
      go_upto_region 8 with (fail)
      refine start_ (n := 16) (S := fun w' => True) (ds := []) (tf 16 0) (by kernel_rfl) rfl rfl trivial (fun hHeld => ?_); generalize wr.drew = wd at BKD HBD hHeld ⊢; refine pu 0 35 ?_ (tf 16 1) rfl rfl (by kernel_rfl) (fun _ _ _ h => h) (by rfl) ?_ ?_ ?_ ?_; rotate_left; · intro w'; go_simp; with_reducible rfl
      rotate_left; · simp only [Act.put, lz]; rfl
      refine pu 1 36 ?_ (tf 16 2) rfl rfl (by kernel_rfl) (fun _ _ _ h => h) (by rfl) ?_ ?_ ?_ ?_; rotate_left; · intro w'; go_simp; with_reducible rfl
      rotate_left; · simp only [Act.put, lz]; rfl
      refine pu 2 37 ?_ (tf 16 3) rfl rfl (by kernel_rfl) (fun _ _ _ h => h) (by rfl) ?_ ?_ ?_ ?_; rotate_left; · intro w'; go_simp; with_reducible rfl
      rotate_left; · simp only [Act.put, lz]; rfl
      refine pu 3 38 ?_ (tf 16 4) rfl rfl (by kernel_rfl) (fun _ _ _ h => h) (by rfl) ?_ ?_ ?_ ?_; rotate_left; · intro w'; go_simp; with_reducible rfl
      rotate_left; · simp only [Act.put, lz]; rfl
      refine pu 4 39 ?_ (tf 16 5) rfl rfl (by kernel_rfl) (fun _ _ _ h => h) (by rfl) ?_ ?_ ?_ ?_; rotate_left; · intro w'; go_simp; with_reducible rfl
      rotate_left; · simp only [Act.put, lz]; rfl
      refine un 5 40 (tf 16 6) rfl rfl (by kernel_rfl) (fun _ _ _ h => h) (by rfl) ?_ ?_ ?_; rotate_left; · simp only [Act.put, lz]; rfl
      refine un 6 41 (tf 16 7) rfl rfl (by kernel_rfl) (fun _ _ _ h => h) (by rfl) ?_ ?_ ?_; rotate_left; · simp only [Act.put, lz]; rfl
      refine un 7 42 (tf 16 8) rfl rfl (by kernel_rfl) (fun _ _ _ h => h) (by rfl) ?_ ?_ ?_; rotate_left; · simp only [Act.put, lz]; rfl
      refine un 8 43 (tf 16 9) rfl rfl (by kernel_rfl) (fun _ _ _ h => h) (by rfl) ?_ ?_ ?_; rotate_left; · simp only [Act.put, lz]; rfl
      refine un 9 44 (tf 16 10) rfl rfl (by kernel_rfl) (fun _ _ _ h => h) (by rfl) ?_ ?_ ?_; rotate_left; · simp only [Act.put, lz]; rfl
      refine un 10 45 (tf 16 11) rfl rfl (by kernel_rfl) (fun _ _ _ h => h) (by rfl) ?_ ?_ ?_; rotate_left; · simp only [Act.put, lz]; rfl
      refine un 11 46 (tf 16 12) rfl rfl (by kernel_rfl) (fun _ _ _ h => h) (by rfl) ?_ ?_ ?_; rotate_left; · simp only [Act.put, lz]; rfl
      refine un 12 47 (tf 16 13) rfl rfl (by kernel_rfl) (fun _ _ _ h => h) (by rfl) ?_ ?_ ?_; rotate_left; · simp only [Act.put, lz]; rfl
      refine pu 13 48 ?_ (tf 16 14) rfl rfl (by kernel_rfl) (fun _ _ _ h => h) (by rfl) ?_ ?_ ?_ ?_; rotate_left; · intro w'; go_simp; with_reducible rfl
      rotate_left; · simp only [Act.put, lz]; rfl
      refine pu 14 6 ?_ (tf 16 15) rfl rfl (by kernel_rfl) (fun _ _ _ h => h) (by rfl) ?_ ?_ ?_ ?_; rotate_left; · intro w'; go_simp; with_reducible rfl
      rotate_left; · simp only [Act.put, lz]; rfl
      refine pu 15 7 ?_ (tf 16 16) rfl rfl (by kernel_rfl) (fun _ _ _ h => h) (by rfl) ?_ ?_ ?_ ?_; rotate_left; · intro w'; go_simp; with_reducible rfl
      rotate_left; · simp only [Act.put, lz]; rfl
      refine done_ (by kernel_rfl) ?_
      try go_wp2_with (fail)
      go_ret2
      exact ⟨by simp [hlt2], HBD.out⟩
set_option maxHeartbeats 4000000 in
theorem table_Table_find.calls (k : Nat) (g : Nat) (no tm : Int) (A : Option Addr) (c : Nat) (l : List S43) (pa pn : Int) (i : Nat) (cv : Nat → Int) (w : World) (hg : w.heap[g]? = some (.cells #[.slice A l.length c, .int .u64 no, .int .u64 tm] 70 (0, 0))) (hC : Kd.C k43 w A l.length l) (hlen : l.length ≤ 1000) (hi : i ≤ l.length)
 (hcmp : ∀ j : Nat, j < l.length → prefix_Compare.f k (rd_T43 l (j : Int)).f0.f0 (rd_T43 l (j : Int)).f0.f1 pa pn = some (cv j) ∧ (cv j < 0 ↔ j < i)) :
 Calls Try.prog 25 #[.pointer (some ⟨g, 0, none⟩), .agg #[.int .u32 pa, .int .u8 pn]] w fun e w' => e = .returned (.tuple #[.int .i64 i, .bool (decide (i < l.length) && (cv i == 0))]) ∧ Below w.heap.size w w' := by
 have hu33 := Try.underlying33; have HC := Ad hC; have HM := Ad hcmp; have BKs := Ad hg; clear hC hcmp hg
 go_enter Try.func25, Try.ntmps25
 go_wp2_with (((with_reducible refine gate_dst (N := 3) rfl ?_); (try (refine gate_guard (by rfl) ?_; dsimp only)); refine box_event ?hg (N := 3) ?hd (cs := #[.int .u32 pa, .int .u8 pn]) (t := 33) ?hr ?_; (case hd => rfl); (case hg => rfl); (case hr => first | (go_simp; done)); intro g3 hg w3 hbox hb; have BK3 := Ad hbox; have HB3 := Ad hb; have BKg := Ad (blk_below BKs.out hb); clear hb hbox hg))
 have BKD := Ad (blk_drew BK3.out); have BKG := Ad (blk_drew BKg.out); have HBD := Ad (below_drew1 HB3.out); clear BK3 BKg HB3 BKs; refine start_ (n := 10) (S := fun w' => w'.cell? ⟨g, 0, none⟩ = some (.slice A l.length c) ∧ w'.cell? ⟨g3, 0, none⟩ = some (.int .u32 pa) ∧ w'.cell? ⟨g3, 1, none⟩ = some (.int .u8 pn)) (ds := []) (tf 10 0) (by kernel_rfl) rfl rfl ⟨(blk_cell BKG.out 0).trans rfl, (blk_cell BKD.out 0).trans rfl, (blk_cell BKD.out 1).trans rfl⟩ (fun hHeld => ?_); generalize w3.drew = wd at BKD BKG HBD hHeld ⊢; refine pu 0 6 ?_ (tf 10 1) rfl rfl (by kernel_rfl) (fun _ _ _ h => h) (by rfl) ?_ ?_ ?_ ?_; rotate_left; · intro w'; go_simp; with_reducible rfl
 rotate_left; · simp only [Act.put, lz]; rfl
 refine pu 1 7 ?_ (tf 10 2) rfl rfl (by kernel_rfl) (fun _ _ _ h => h) (by rfl) ?_ ?_ ?_ ?_; rotate_left; · intro w'; go_simp; with_reducible rfl
 rotate_left; · simp only [Act.put, lz]; rfl
 refine pu 2 8 ?_ (tf 10 3) rfl rfl (by kernel_rfl) (fun _ _ _ h => h) (by rfl) ?_ ?_ ?_ ?_; rotate_left; · intro w'; go_simp; with_reducible rfl
 rotate_left; · simp only [Act.put, lz]; rfl
 refine tu 3 9 ?_ (tf 10 4) rfl rfl (by kernel_rfl) (fun _ _ _ h => h) (by rfl) ?_ hHeld ?_ ?_ ?_; rotate_left; · rintro w' ⟨s0, s1, s2⟩; go_simp; with_reducible rfl
 rotate_left; · simp only [Act.put, lz]; rfl
 refine tu 4 10 ?_ (tf 10 5) rfl rfl (by kernel_rfl) (fun _ _ _ h => h) (by rfl) ?_ hHeld ?_ ?_ ?_; rotate_left; · rintro w' ⟨s0, s1, s2⟩; go_simp; with_reducible rfl
 rotate_left; · simp only [Act.put, lz]; rfl
 refine one_ (i := 5) (N := some 11) (tf 10 6) rfl rfl (by kernel_rfl) (by decide) (fun K hK => ?_); refine goes_ Try.func41 (by kernel_rfl) rfl #[.slice A l.length c, .agg #[.int .u32 pa, .int .u8 pn], .func (.func 42) #[] #[]] (by rfl) rfl rfl (by simp only [List.map_toArray, List.map_cons, List.map_nil]; rfl) ?_
 with_reducible refine (table_Table_find.bs k A c l pa pn i cv _ (Kd.C_below HC.out HBD.out) hlen hi HM.out).mono ?_
 rintro e w6 ⟨rfl, hb⟩; refine ⟨_, rfl, ?_⟩; replace BKD := Ad (blk_below BKD.out hb); replace BKG := Ad (blk_below BKG.out hb); replace HBD := Ad (below_step HBD.out hb); clear hb; refine hK.out _ _ ⟨(blk_cell BKG.out 0).trans rfl, (blk_cell BKD.out 0).trans rfl, (blk_cell BKD.out 1).trans rfl⟩ (fun hHeld => ?_); clear hK K; refine norm_ (a' := ?_) ?_ ?_; rotate_left
 · show Act.put _ (some 11) _ = _; simp only [Act.put, lz]; rfl
 refine pu 6 12 ?_ (tf 10 7) rfl rfl (by kernel_rfl) (fun _ _ _ h => h) (by rfl) ?_ ?_ ?_ ?_; rotate_left; · intro w'; go_simp; with_reducible rfl
 rotate_left; · simp only [Act.put, lz]; rfl
 refine pu 7 13 ?_ (tf 10 8) rfl rfl (by kernel_rfl) (fun _ _ _ h => h) (by rfl) ?_ ?_ ?_ ?_; rotate_left; · intro w'; go_simp; with_reducible rfl
 rotate_left; · simp only [Act.put, lz]; rfl
 refine pu 8 4 ?_ (tf 10 9) rfl rfl (by kernel_rfl) (fun _ _ _ h => h) (by rfl) ?_ ?_ ?_ ?_; rotate_left; · intro w'; go_simp; with_reducible rfl
 rotate_left; · simp only [Act.put, lz]; rfl
 refine pu 9 5 ?_ (tf 10 10) rfl rfl (by kernel_rfl) (fun _ _ _ h => h) (by rfl) ?_ ?_ ?_ ?_; rotate_left; · intro w'; go_simp; with_reducible rfl
 rotate_left; · simp only [Act.put, lz]; rfl
 refine done_ (by kernel_rfl) ?_
 try go_wp2_with (fail)
 go_ret2
 exact ⟨rfl, HBD.out⟩

/-! ### prefix_mask: function 46 -/
def prefix_mask.f (a0 : Int) : Option (Int) := if a0 = 0 then (some 0) else (some (shl .u32 4294967295 ((32 - (a0)) % 4294967296)))
theorem prefix_mask.calls (a0 : Int) (r : Int) (w : World) (h : prefix_mask.f a0 = some r) :
 Calls Try.prog 46 #[.int .u8 a0] w fun e w' => e = .returned (.int .u32 r) ∧ Drawn0 w w' := by
 have H : (if a0 = 0 then (some 0) else (some (shl .u32 4294967295 ((32 - (a0)) % 4294967296)))) = some r := h; clear h
 by_cases c2 : a0 = 0
 · rw [if_pos c2] at H
   have c2b0 : (a0 == 0) = true := beq_iff_eq.mpr c2; have c2b1 : (a0 != 0) = false := bne_eq_false_iff_eq.mpr c2; clear c2; obtain rfl := Option.some.inj H
   simp only [Option.some.injEq, Prod.mk.injEq] at H
   obtain ⟨rfl⟩ := H
   go_enter Try.func46, Try.ntmps46
   go_wp2; go_ret; exact ⟨by first | rfl | (refine qa_int ?_; simp <;> omega), by repeat (first | exact Drawn0.refl _)⟩
 · rw [if_neg c2] at H
   have c2b0 : (a0 == 0) = false := beq_eq_false_iff_ne.mpr c2; have c2b1 : (a0 != 0) = true := bne_iff_ne.mpr c2
   obtain ⟨ji3, hji3⟩ : ∃ j_ : Int, (shl .u32 4294967295 ((32 - (a0)) % 4294967296)) = j_ := ⟨_, rfl⟩
   replace H : (some ji3) = some r := by first | (rw [hji3] at H; exact H)
   have hji3_ : (IntKind.u32.wrap (4294967295 * 2 ^ min ((32 - (a0)) % 4294967296).toNat 32)) = ji3 := hji3; have hji3z : ((32 - (a0)) % 4294967296) ≤ 32 → (IntKind.u32.wrap (4294967295 * 2 ^ ((32 - (a0)) % 4294967296).toNat)) = ji3 := shl_small hji3
   (try (have hji3y : 0 ≤ ((32 - (a0)) % 4294967296) := by omega))
   obtain rfl := Option.some.inj H
   simp only [Option.some.injEq, Prod.mk.injEq] at H
   obtain ⟨rfl⟩ := H
   go_enter Try.func46, Try.ntmps46
   go_wp2; go_ret; exact ⟨by first | rfl | (refine qa_int ?_; simp <;> omega), by repeat (first | exact Drawn0.refl _)⟩

/-! ### prefix_Right: function 32 -/
def prefix_Right.f (a0_0 : Int) (a0_1 : Int) : Option (Bool) := if a0_1 ≤ 32 then ((prefix_mask.f a0_1).bind fun t115 => (some ((Go.bits .andNot .u32 a0_0 t115) == 0))) else (some false)
theorem prefix_Right.calls (a0_0 : Int) (a0_1 : Int) (r : Bool) (w : World) (h : prefix_Right.f a0_0 a0_1 = some r) :
 Calls Try.prog 32 #[.agg #[.int .u32 a0_0, .int .u8 a0_1]] w fun e w' => e = .returned (.bool r) ∧ Below w.heap.size w w' := by
 have hu33 := Try.underlying33; have HB := Ad (Below.refl w.heap.size w); have H : (if a0_1 ≤ 32 then ((prefix_mask.f a0_1).bind fun t115 => (some ((Go.bits .andNot .u32 a0_0 t115) == 0))) else (some false)) = some r := h; clear h
 by_cases c2 : a0_1 ≤ 32
 · rw [if_pos c2] at H
   have c2b0 : decide (a0_1 ≤ 32) = true := decide_eq_true c2; clear c2; replace H := Option.bind_eq_some_iff.mp H; obtain ⟨t115, A30, H⟩ := H; replace H : (some ((Go.bits .andNot .u32 a0_0 t115) == 0)) = some r := H; have A3 := Ad A30; clear A30; obtain rfl := Option.some.inj H
   simp only [Option.some.injEq, Prod.mk.injEq] at H
   obtain ⟨rfl⟩ := H
   go_enter Try.func32, Try.ntmps32
   go_wp2_with (first | ((with_reducible refine gate_dst (N := 1) rfl ?_); refine box_event ?hg (N := 1) ?hd (cs := #[.int .u32 a0_0, .int .u8 a0_1]) (t := 33) ?hr ?_; (case hd => rfl); (case hg => rfl); (case hr => first | (go_simp; done)); intro gb114 hg w4 hbox hb; have BK114 := Ad (hbox); have GW114 := Ad ((by rw [hg]; exact (below_size (by repeat (first | (with_reducible first | exact HB.out | apply below_drew1)))) : w.heap.size ≤ gb114)); have GE114 := GW114; replace HB := Ad (below_step (by repeat (first | (with_reducible first | exact HB.out | apply below_drew1))) hb); clear hb hbox hg; have hcz5_0 : w4.cell? ⟨gb114, 0, none⟩ = some (.int .u32 a0_0) := (blk_cell BK114.out 0).trans rfl; have hcz5_1 : w4.cell? ⟨gb114, 1, none⟩ = some (.int .u8 a0_1) := (blk_cell BK114.out 1).trans rfl; have hfz5_0 := blk_frozen BK114.out 0; have hfz5_1 := blk_frozen BK114.out 1) | (go_at_call 46; (refine calls_of_args (args' := #[.int .u8 a0_1]) ?_ ?_; focus (first | rfl | (simp; done) | (refine qa_arr ?_; (repeat' (first | rfl | refine qa_cons ?_ ?_ | refine qa_int ?_ | refine qa_agg ?_ | refine qa_arr ?_ | omega)); done)); (with_reducible refine (prefix_mask.calls a0_1 t115 _ A3.out).mono ?_)); rintro e w' ⟨rfl, ⟨nd, rfl⟩⟩; (try first | exact ⟨rfl, _, World.drewN_drewN _ _ _⟩ | exact ⟨rfl, _, Eq.trans (World.drewN_drewN _ _ _) (congrArg (World.drewN _) (Nat.add_assoc _ _ _))⟩)))
   repeat (go_quiet (first | (go_at_call 46; (with_reducible refine (prefix_mask.calls a0_1 t115 _ A3.out).mono ?_); rintro e w' ⟨rfl, ⟨nd, rfl⟩⟩; (try first | exact ⟨rfl, _, World.drewN_drewN _ _ _⟩))); try go_wp2_with (first | ((with_reducible refine gate_dst (N := 1) rfl ?_); refine box_event ?hg (N := 1) ?hd (cs := #[.int .u32 a0_0, .int .u8 a0_1]) (t := 33) ?hr ?_; (case hd => rfl); (case hg => rfl); (case hr => first | (go_simp; done) | (go_simp; rfl)); intro gb114 hg w4 hbox hb; have BK114 := Ad (hbox); have GW114 := Ad ((by rw [hg]; exact (below_size (by repeat (first | (with_reducible first | exact HB.out | apply below_alloc | apply pw_below_drewN | apply below_drew1) | exact HB.out))) : w.heap.size ≤ gb114)); have GE114 := GW114; replace HB := Ad (below_step (by repeat (first | (with_reducible first | exact HB.out | apply below_alloc | apply pw_below_drewN | apply below_drew1) | exact HB.out)) hb); clear hb hbox hg; have hcz5_0 : w4.cell? ⟨gb114, 0, none⟩ = some (.int .u32 a0_0) := (blk_cell BK114.out 0).trans rfl; have hcz5_1 : w4.cell? ⟨gb114, 1, none⟩ = some (.int .u8 a0_1) := (blk_cell BK114.out 1).trans rfl; have hfz5_0 := blk_frozen BK114.out 0; have hfz5_1 := blk_frozen BK114.out 1) | (go_at_call 46; (with_reducible refine (prefix_mask.calls a0_1 t115 _ A3.out).mono ?_); rintro e w' ⟨rfl, ⟨nd, rfl⟩⟩; (try first | exact ⟨rfl, _, World.drewN_drewN _ _ _⟩ | exact ⟨rfl, _, Eq.trans (World.drewN_drewN _ _ _) (congrArg (World.drewN _) (Nat.add_assoc _ _ _))⟩)) | (go_at_call 46; (refine calls_of_args (args' := #[.int .u8 a0_1]) ?_ ?_; focus (first | rfl | (simp; done) | (refine qa_arr ?_; (repeat' (first | rfl | refine qa_cons ?_ ?_ | refine qa_int ?_ | refine qa_agg ?_ | refine qa_arr ?_ | omega)); done)); (with_reducible refine (prefix_mask.calls a0_1 t115 _ A3.out).mono ?_)); rintro e w' ⟨rfl, ⟨nd, rfl⟩⟩; (try first | exact ⟨rfl, _, World.drewN_drewN _ _ _⟩ | exact ⟨rfl, _, Eq.trans (World.drewN_drewN _ _ _) (congrArg (World.drewN _) (Nat.add_assoc _ _ _))⟩))))
   go_ret; exact ⟨by first | rfl | (simp [*, errW_none, errW_some] <;> rfl), by repeat (first | (with_reducible first | exact HB.out | apply pw_below_drewN | refine below_set ?_ GE114.out))⟩
 · rw [if_neg c2] at H
   have c2b0 : decide (a0_1 ≤ 32) = false := decide_eq_false c2; clear c2; obtain rfl := Option.some.inj H
   simp only [Option.some.injEq, Prod.mk.injEq] at H
   obtain ⟨rfl⟩ := H
   go_enter Try.func32, Try.ntmps32
   go_wp2_with (first | ((with_reducible refine gate_dst (N := 1) rfl ?_); refine box_event ?hg (N := 1) ?hd (cs := #[.int .u32 a0_0, .int .u8 a0_1]) (t := 33) ?hr ?_; (case hd => rfl); (case hg => rfl); (case hr => first | (go_simp; done)); intro gb114 hg w6 hbox hb; have BK114 := Ad (hbox); have GW114 := Ad ((by rw [hg]; exact (below_size (by repeat (first | (with_reducible first | exact HB.out | apply below_drew1)))) : w.heap.size ≤ gb114)); have GE114 := GW114; replace HB := Ad (below_step (by repeat (first | (with_reducible first | exact HB.out | apply below_drew1))) hb); clear hb hbox hg; have hcz7_0 : w6.cell? ⟨gb114, 0, none⟩ = some (.int .u32 a0_0) := (blk_cell BK114.out 0).trans rfl; have hcz7_1 : w6.cell? ⟨gb114, 1, none⟩ = some (.int .u8 a0_1) := (blk_cell BK114.out 1).trans rfl; have hfz7_0 := blk_frozen BK114.out 0; have hfz7_1 := blk_frozen BK114.out 1))
   repeat (go_quiet (first | ((with_reducible refine gate_dst (N := 1) rfl ?_); refine box_event ?hg (N := 1) ?hd (cs := #[.int .u32 a0_0, .int .u8 a0_1]) (t := 33) ?hr ?_; (case hd => rfl); (case hg => rfl); (case hr => first | (go_simp; done) | (go_simp; rfl)); intro gb114 hg w6 hbox hb; have BK114 := Ad (hbox); have GW114 := Ad ((by rw [hg]; exact (below_size (by repeat (first | (with_reducible first | exact HB.out | apply below_alloc | apply pw_below_drewN | apply below_drew1) | exact HB.out))) : w.heap.size ≤ gb114)); have GE114 := GW114; replace HB := Ad (below_step (by repeat (first | (with_reducible first | exact HB.out | apply below_alloc | apply pw_below_drewN | apply below_drew1) | exact HB.out)) hb); clear hb hbox hg; have hcz7_0 : w6.cell? ⟨gb114, 0, none⟩ = some (.int .u32 a0_0) := (blk_cell BK114.out 0).trans rfl; have hcz7_1 : w6.cell? ⟨gb114, 1, none⟩ = some (.int .u8 a0_1) := (blk_cell BK114.out 1).trans rfl; have hfz7_0 := blk_frozen BK114.out 0; have hfz7_1 := blk_frozen BK114.out 1)); try go_wp2_with (first | ((with_reducible refine gate_dst (N := 1) rfl ?_); refine box_event ?hg (N := 1) ?hd (cs := #[.int .u32 a0_0, .int .u8 a0_1]) (t := 33) ?hr ?_; (case hd => rfl); (case hg => rfl); (case hr => first | (go_simp; done) | (go_simp; rfl)); intro gb114 hg w6 hbox hb; have BK114 := Ad (hbox); have GW114 := Ad ((by rw [hg]; exact (below_size (by repeat (first | (with_reducible first | exact HB.out | apply below_alloc | apply pw_below_drewN | apply below_drew1) | exact HB.out))) : w.heap.size ≤ gb114)); have GE114 := GW114; replace HB := Ad (below_step (by repeat (first | (with_reducible first | exact HB.out | apply below_alloc | apply pw_below_drewN | apply below_drew1) | exact HB.out)) hb); clear hb hbox hg; have hcz7_0 : w6.cell? ⟨gb114, 0, none⟩ = some (.int .u32 a0_0) := (blk_cell BK114.out 0).trans rfl; have hcz7_1 : w6.cell? ⟨gb114, 1, none⟩ = some (.int .u8 a0_1) := (blk_cell BK114.out 1).trans rfl; have hfz7_0 := blk_frozen BK114.out 0; have hfz7_1 := blk_frozen BK114.out 1)))
   go_ret; exact ⟨by first | rfl | (simp [*, errW_none, errW_some] <;> rfl), by repeat (first | (with_reducible first | exact HB.out | apply pw_below_drewN | refine below_set ?_ GE114.out))⟩

end Go.Proofs.Ytmkjgiejnlmncaa.QTableBytes
