-- Lines by a program of this session, for this claim.
import Derived.Test.YtllcighpfikpkaaQChangeBytesx0
import Derived.Test.YtllcighpfikpkaaQChangeBytesx10
namespace Go.Proofs.Ytllcighpfikpkaa.QChangeBytes
open Go.RowKit Go.Proofs.YtllcighpfikpkaaW.PrintWords Go.Proofs.YtllcighpfikpkaaW.PrintLast Go.Proofs.YtllcighpfikpkaaW.PrintMore
attribute [local go_sem] max2_int min2_int max_two min_two max_three min_three max_four min_four   -- for this text's walks alone
set_option linter.unusedVariables false
set_option linter.unusedSimpArgs false

/-! ### gb_Encode: function 24 -/
mutual
def gb_Encode.j1 : Nat → List Int → Int → Int → Int → Bool → Int → Int → Int → Int → Int → Int → Int → Bool → Int → Int → Int → Int → Int → Option (List Int)
 | 0, _, _, _, _, _, _, _, _, _, _, _, _, _, _, _, _, _, _ => none
 | k + 1, x5, x7, x272000, x272001, x272002, x272003, x272004, x272005, x272006, x272007, x273000, x273001, x273002, x273003, x273004, x273005, x273006, x273007 => if x273002 = true then (gb_Encode.j2 k x5 x7 (IntKind.u64.wrap ((IntKind.u64.wrap ((IntKind.u64.wrap ((IntKind.u64.wrap (x273004)) * 16)) + (IntKind.u64.wrap ((IntKind.u64.wrap (x7)) * 2)))) + 1)) x272000 x272001 x272002 x272003 x272004 x272005 x272006 x272007 x273000 x273001 x273002 x273003 x273004 x273005 x273006 x273007) else (gb_Encode.j2 k x5 x7 (IntKind.u64.wrap ((IntKind.u64.wrap ((IntKind.u64.wrap (x273004)) * 16)) + (IntKind.u64.wrap ((IntKind.u64.wrap (x7)) * 2)))) x272000 x272001 x272002 x272003 x272004 x272005 x272006 x272007 x273000 x273001 x273002 x273003 x273004 x273005 x273006 x273007)
def gb_Encode.j2 : Nat → List Int → Int → Int → Int → Int → Bool → Int → Int → Int → Int → Int → Int → Int → Bool → Int → Int → Int → Int → Int → Option (List Int)
 | 0, _, _, _, _, _, _, _, _, _, _, _, _, _, _, _, _, _, _, _ => none
 | k + 1, x5, x7, x8, x272000, x272001, x272002, x272003, x272004, x272005, x272006, x272007, x273000, x273001, x273002, x273003, x273004, x273005, x273006, x273007 => (ga_Coins.f k (([IntKind.u64.wrap (x273001 - x272001), x8] : List Int))).bind fun t284 => (if 0 ≤ x7 then (if x7 ≤ (x5.length : Int) then ((some (x5.drop (x7 : Int).toNat : List Int)).bind fun y287 => (if t284.length + y287.length < 140737488355328 then ((some (t284 ++ y287 : List Int)).bind fun y291 => (if x273002 = true then (some y291) else ((gb_zig.f (wrap64 (x273005 - x272005))).bind fun t294 => ((gb_zig.f (wrap64 ((wrap64 (x273006)) - (wrap64 (x272006))))).bind fun t295 => ((ga_Coins.f k (([t294, t295, Int.tmod (IntKind.u64.wrap ((IntKind.u64.wrap ((IntKind.u64.wrap (x273007)) + 65536)) - (IntKind.u64.wrap (x272007)))) 65536] : List Int))).bind fun t299 => (if y291.length + t299.length < 140737488355328 then (some (y291 ++ t299)) else (none))))))) else (none))) else (none)) else (none))
def gb_Encode.l0 : Nat → List Int → List Int → Int → Int → Int → Bool → Int → Int → Int → Int → Int → Int → Int → Bool → Int → Int → Int → Int → Int → Option (List Int)
 | 0, _, _, _, _, _, _, _, _, _, _, _, _, _, _, _, _, _, _, _ => none
 | k + 1, x5, x6, x7, x272000, x272001, x272002, x272003, x272004, x272005, x272006, x272007, x273000, x273001, x273002, x273003, x273004, x273005, x273006, x273007 => if x7 < (x5.length : Int) then (if x7 < (x6.length : Int) then (if 0 ≤ x7 then (if (rd x5 x7) = (rd x6 x7) then (gb_Encode.l0 k x5 x6 (wrap64 (x7 + 1)) x272000 x272001 x272002 x272003 x272004 x272005 x272006 x272007 x273000 x273001 x273002 x273003 x273004 x273005 x273006 x273007) else (gb_Encode.j1 k x5 x7 x272000 x272001 x272002 x272003 x272004 x272005 x272006 x272007 x273000 x273001 x273002 x273003 x273004 x273005 x273006 x273007)) else (none)) else (gb_Encode.j1 k x5 x7 x272000 x272001 x272002 x272003 x272004 x272005 x272006 x272007 x273000 x273001 x273002 x273003 x273004 x273005 x273006 x273007)) else (gb_Encode.j1 k x5 x7 x272000 x272001 x272002 x272003 x272004 x272005 x272006 x272007 x273000 x273001 x273002 x273003 x273004 x273005 x273006 x273007)
end
def gb_Encode.f (k : Nat) (a0_0 : Int) (a0_1 : Int) (a0_2 : Bool) (a0_3 : Int) (a0_4 : Int) (a0_5 : Int) (a0_6 : Int) (a0_7 : Int) (a1_0 : Int) (a1_1 : Int) (a1_2 : Bool) (a1_3 : Int) (a1_4 : Int) (a1_5 : Int) (a1_6 : Int) (a1_7 : Int) : Option (List Int) := (gb_begun.f a1_3 a1_4).bind fun t273 => ((gb_begun.f a0_3 a0_4).bind fun t276 => (gb_Encode.l0 k t273 t276 0 a0_0 a0_1 a0_2 a0_3 a0_4 a0_5 a0_6 a0_7 a1_0 a1_1 a1_2 a1_3 a1_4 a1_5 a1_6 a1_7))
theorem gb_Encode.mono_l : ∀ k, (∀ y0 y1 y2 y3 y4 y5 y6 y7 y8 y9 y10 y11 y12 y13 y14 y15 y16 y17, LeO (gb_Encode.j1 k y0 y1 y2 y3 y4 y5 y6 y7 y8 y9 y10 y11 y12 y13 y14 y15 y16 y17) (gb_Encode.j1 (k + 1) y0 y1 y2 y3 y4 y5 y6 y7 y8 y9 y10 y11 y12 y13 y14 y15 y16 y17)) ∧ (∀ y0 y1 y2 y3 y4 y5 y6 y7 y8 y9 y10 y11 y12 y13 y14 y15 y16 y17 y18, LeO (gb_Encode.j2 k y0 y1 y2 y3 y4 y5 y6 y7 y8 y9 y10 y11 y12 y13 y14 y15 y16 y17 y18) (gb_Encode.j2 (k + 1) y0 y1 y2 y3 y4 y5 y6 y7 y8 y9 y10 y11 y12 y13 y14 y15 y16 y17 y18)) ∧ (∀ y0 y1 y2 y3 y4 y5 y6 y7 y8 y9 y10 y11 y12 y13 y14 y15 y16 y17 y18, LeO (gb_Encode.l0 k y0 y1 y2 y3 y4 y5 y6 y7 y8 y9 y10 y11 y12 y13 y14 y15 y16 y17 y18) (gb_Encode.l0 (k + 1) y0 y1 y2 y3 y4 y5 y6 y7 y8 y9 y10 y11 y12 y13 y14 y15 y16 y17 y18))
 | 0 => ⟨fun _ _ _ _ _ _ _ _ _ _ _ _ _ _ _ _ _ _ r h => by simp [gb_Encode.j1] at h, fun _ _ _ _ _ _ _ _ _ _ _ _ _ _ _ _ _ _ _ r h => by simp [gb_Encode.j2] at h, fun _ _ _ _ _ _ _ _ _ _ _ _ _ _ _ _ _ _ _ r h => by simp [gb_Encode.l0] at h⟩
 | k + 1 => by
  obtain ⟨ih0, ih1, ih2⟩ := gb_Encode.mono_l k; refine ⟨?_, ?_, ?_⟩
  · intro y0 y1 y2 y3 y4 y5 y6 y7 y8 y9 y10 y11 y12 y13 y14 y15 y16 y17
    unfold gb_Encode.j1
    repeat' first
    | (with_reducible exact ih0 ..)
    | (with_reducible exact ih1 ..)
    | (with_reducible exact ih2 ..)
    | (with_reducible exact ga_Coins.mono ..)
    | (with_reducible exact LeO.refl ..)
    | (with_reducible exact LeO.none ..)
    | (with_reducible refine LeO.ite ?_ ?_)
    | (with_reducible refine LeO.bind ?_ (fun _ => ?_))
  · intro y0 y1 y2 y3 y4 y5 y6 y7 y8 y9 y10 y11 y12 y13 y14 y15 y16 y17 y18
    unfold gb_Encode.j2
    repeat' first
    | (with_reducible exact ih0 ..)
    | (with_reducible exact ih1 ..)
    | (with_reducible exact ih2 ..)
    | (with_reducible exact ga_Coins.mono ..)
    | (with_reducible exact LeO.refl ..)
    | (with_reducible exact LeO.none ..)
    | (with_reducible refine LeO.ite ?_ ?_)
    | (with_reducible refine LeO.bind ?_ (fun _ => ?_))
  intro y0 y1 y2 y3 y4 y5 y6 y7 y8 y9 y10 y11 y12 y13 y14 y15 y16 y17 y18
  unfold gb_Encode.l0
  repeat' first
  | (with_reducible exact ih0 ..)
  | (with_reducible exact ih1 ..)
  | (with_reducible exact ih2 ..)
  | (with_reducible exact ga_Coins.mono ..)
  | (with_reducible exact LeO.refl ..)
  | (with_reducible exact LeO.none ..)
  | (with_reducible refine LeO.ite ?_ ?_)
  | (with_reducible refine LeO.bind ?_ (fun _ => ?_))
theorem gb_Encode.mono : ∀ a0 a1 a2 a3 a4 a5 a6 a7 a8 a9 a10 a11 a12 a13 a14 a15 k, LeO (gb_Encode.f k a0 a1 a2 a3 a4 a5 a6 a7 a8 a9 a10 a11 a12 a13 a14 a15) (gb_Encode.f (k + 1) a0 a1 a2 a3 a4 a5 a6 a7 a8 a9 a10 a11 a12 a13 a14 a15) := by
 intro a0 a1 a2 a3 a4 a5 a6 a7 a8 a9 a10 a11 a12 a13 a14 a15 k; obtain ⟨ih0, ih1, ih2⟩ := gb_Encode.mono_l k
 unfold gb_Encode.f
 repeat' first
  | (with_reducible exact ih0 ..)
  | (with_reducible exact ih1 ..)
  | (with_reducible exact ih2 ..)
  | (with_reducible exact ga_Coins.mono ..)
  | (with_reducible exact LeO.refl ..)
  | (with_reducible exact LeO.none ..)
  | (with_reducible refine LeO.ite ?_ ?_)
  | (with_reducible refine LeO.bind ?_ (fun _ => ?_))
def gb_Encode.T4 : Bool × List (List Nat × List Nat) := (true, [([], []), ([], []), ([1], [1]), ([0, 2], [0, 2]), ([3], [3]), ([4], [4]), ([4], [4]), ([6, 4], [4, 6]), ([5, 7, 4], [4, 5, 7]), ([4, 8], [4, 8]), ([9, 4], [9]), ([10], [10]), ([10], [10]), ([11, 12, 10], [10, 11, 12]), ([13, 10], [10, 13]), ([10], [10]), ([10], [10]), ([15, 16, 10], [10, 15, 16]), ([17, 10], [10, 17]), ([14, 18, 10], [10, 14, 18]), ([10, 19], [10, 19])])
def gb_Encode.B4 : List Nat := [0, 0, 2, 7, 15, 31, 31, 95, 255, 511, 1023, 2047, 2047, 8191, 16383, 2047, 2047, 100351, 231423, 524287, 1048575]
theorem gb_Encode.tab4 : rtab .any (opsOf Try.f24 4) = gb_Encode.T4 := by kernel_rfl
theorem gb_Encode.bits4 : waitsOk gb_Encode.T4.2 gb_Encode.B4 = true := by kernel_rfl
def gb_Encode.T12 : Bool × List (List Nat × List Nat) := (true, [([], []), ([], []), ([1], [1]), ([2], [2]), ([], []), ([4], [4]), ([5], [5]), ([3, 6], [3, 6]), ([7], [7]), ([], []), ([9], [9]), ([10], [10]), ([11], [11]), ([], []), ([13], [13]), ([14], [14]), ([15], [15]), ([12, 16], [12, 16]), ([17, 8], [17]), ([], []), ([19], [19]), ([20], [20]), ([21], [21]), ([22], [22]), ([], []), ([24], [24]), ([25], [25]), ([26], [26]), ([23, 27], [23, 27]), ([28], [28]), ([8, 18, 29], [8, 18, 29]), ([30, 18], [30]), ([0, 31, 31], [0, 31]), ([32, 32, 0, 1, 2, 3, 4, 5, 6, 7, 8, 9, 10, 11, 12, 13, 14, 15, 16, 17, 18, 19, 20, 21, 22, 23, 24, 25, 26, 27, 28, 29, 30, 31, 32], [0, 32])])
def gb_Encode.B12 : List Nat := [0, 0, 2, 6, 0, 16, 48, 126, 254, 0, 512, 1536, 3584, 0, 8192, 24576, 57344, 130560, 262142, 0, 524288, 1572864, 3670016, 7864320, 0, 16777216, 50331648, 117440512, 267911168, 536346624, 1073741822, 2147483646, 4294967295, 8589934591]
theorem gb_Encode.tab12 : rtab .any (opsOf Try.f24 12) = gb_Encode.T12 := by kernel_rfl
theorem gb_Encode.bits12 : waitsOk gb_Encode.T12.2 gb_Encode.B12 = true := by kernel_rfl
set_option maxHeartbeats 8000000 in
set_option maxRecDepth 100000 in
theorem gb_Encode.calls (k : Nat) (a0_0 : Int) (a0_1 : Int) (a0_2 : Bool) (a0_3 : Int) (a0_4 : Int) (a0_5 : Int) (a0_6 : Int) (a0_7 : Int) (a1_0 : Int) (a1_1 : Int) (a1_2 : Bool) (a1_3 : Int) (a1_4 : Int) (a1_5 : Int) (a1_6 : Int) (a1_7 : Int) (r : List Int) (w : World) (h : gb_Encode.f k a0_0 a0_1 a0_2 a0_3 a0_4 a0_5 a0_6 a0_7 a1_0 a1_1 a1_2 a1_3 a1_4 a1_5 a1_6 a1_7 = some r) :
 Calls Try.prog 24 #[.agg #[.int .u64 a0_0, .int .u64 a0_1, .bool a0_2, .int .u32 a0_3, .int .u8 a0_4, .int .i64 a0_5, .int .u16 a0_6, .int .u16 a0_7], .agg #[.int .u64 a1_0, .int .u64 a1_1, .bool a1_2, .int .u32 a1_3, .int .u8 a1_4, .int .i64 a1_5, .int .u16 a1_6, .int .u16 a1_7]] w fun e w' => ∃ v0_ : Value, e = .returned (v0_) ∧ Kd.R (Kd.int .u8) 5 w' w.heap.size (fun _ => True) v0_ r ∧ Below w.heap.size w w' := by
 have hu31 := Try.underlying31; have hu25 := Try.underlying25; have HB := Aside0.mk (Below.refl w.heap.size w); have H : ((gb_begun.f a1_3 a1_4).bind fun t273 => ((gb_begun.f a0_3 a0_4).bind fun t276 => (gb_Encode.l0 k t273 t276 0 a0_0 a0_1 a0_2 a0_3 a0_4 a0_5 a0_6 a0_7 a1_0 a1_1 a1_2 a1_3 a1_4 a1_5 a1_6 a1_7))) = some r := h; clear h; replace H := Option.bind_eq_some_iff.mp H; obtain ⟨t273, A30, H⟩ := H; replace H : ((gb_begun.f a0_3 a0_4).bind fun t276 => (gb_Encode.l0 k t273 t276 0 a0_0 a0_1 a0_2 a0_3 a0_4 a0_5 a0_6 a0_7 a1_0 a1_1 a1_2 a1_3 a1_4 a1_5 a1_6 a1_7)) = some r := H; have A3 := Aside0.mk A30; clear A30; replace H := Option.bind_eq_some_iff.mp H; obtain ⟨t276, A40, H⟩ := H; replace H : (gb_Encode.l0 k t273 t276 0 a0_0 a0_1 a0_2 a0_3 a0_4 a0_5 a0_6 a0_7 a1_0 a1_1 a1_2 a1_3 a1_4 a1_5 a1_6 a1_7) = some r := H; have A4 := Aside0.mk A40; clear A40; have HC5 := Aside0.mk H; clear H
 go_enter Try.func24, Try.ntmps24
 go_upto_block 0 with (first | ((with_reducible refine gate_dst (N := 2) rfl ?_); (try (refine gate_guard (by rfl) ?_; dsimp only)); refine box_event ?hg (N := 2) ?hd (cs := #[.int .u64 a0_0, .int .u64 a0_1, .bool a0_2, .int .u32 a0_3, .int .u8 a0_4, .int .i64 a0_5, .int .u16 a0_6, .int .u16 a0_7]) (t := 31) ?hr ?_; (case hd => rfl); (case hg => rfl); (case hr => first | (go_simp; done)); intro gb271 hg w6 hbox hb; have n0_ := Aside0.mk (below_step (by repeat (first | (with_reducible first | exact HB.out | apply below_drew1))) hb); have n1_ := Aside0.mk (hbox); have n2_ := Aside0.mk ((by rw [hg]; exact (below_size (by repeat (first | (with_reducible first | exact HB.out | apply below_drew1)))) : w.heap.size ≤ gb271)); have n3_ := Aside0.mk ((by rw [hg]; exact (below_size (by repeat (first | (with_reducible first | exact HB.out | apply below_drew1)))) : w.heap.size ≤ gb271)); clear HB; revert n0_ n1_ n2_ n3_; intro HB BK271 GW271 GE271; clear hb hbox hg) | ((with_reducible refine gate_dst (N := 3) rfl ?_); (try (refine gate_guard (by rfl) ?_; dsimp only)); refine box_event ?hg (N := 3) ?hd (cs := #[.int .u64 a1_0, .int .u64 a1_1, .bool a1_2, .int .u32 a1_3, .int .u8 a1_4, .int .i64 a1_5, .int .u16 a1_6, .int .u16 a1_7]) (t := 31) ?hr ?_; (case hd => rfl); (case hg => rfl); (case hr => first | (go_simp; done)); intro gb272 hg w7 hbox hb; have n0_ := Aside0.mk (blk_below BK271.out hb); have n1_ := Aside0.mk (below_step (by repeat (first | (with_reducible first | exact HB.out | refine below_set ?_ GE271.out))) hb); have n2_ := Aside0.mk (hbox); have n3_ := Aside0.mk ((by rw [hg]; exact (below_size (by repeat (first | (with_reducible first | exact HB.out | refine below_set ?_ GE271.out)))) : w.heap.size ≤ gb272)); have n4_ := Aside0.mk ((by rw [hg]; exact (below_size (by repeat (first | (with_reducible first | exact HB.out | refine below_set ?_ GE271.out)))) : w.heap.size ≤ gb272)); have n5_ := Aside0.mk ((by rw [hg]; exact Nat.ne_of_lt (blk_lt (g := gb271) (o := .cells #[.int .u64 a0_0, .int .u64 a0_1, .bool a0_2, .int .u32 a0_3, .int .u8 a0_4, .int .i64 a0_5, .int .u16 a0_6, .int .u16 a0_7] 31 (0, 0)) BK271.out) : gb271 ≠ gb272)); have n6_ := Aside0.mk ((by rw [hg]; exact Nat.ne_of_gt (blk_lt (g := gb271) (o := .cells #[.int .u64 a0_0, .int .u64 a0_1, .bool a0_2, .int .u32 a0_3, .int .u8 a0_4, .int .i64 a0_5, .int .u16 a0_6, .int .u16 a0_7] 31 (0, 0)) BK271.out) : gb272 ≠ gb271)); clear BK271 HB; revert n0_ n1_ n2_ n3_ n4_ n5_ n6_; intro BK271 HB BK272 GW272 GE272 NB271_272 NB272_271; clear hb hbox hg; have hnb8 := NB272_271.out; have hnc8 := NB271_272.out; have hcz9_0 : w7.cell? ⟨gb272, 0, none⟩ = some (.int .u64 a1_0) := (blk_cell BK272.out 0).trans rfl; have hcz9_1 : w7.cell? ⟨gb272, 1, none⟩ = some (.int .u64 a1_1) := (blk_cell BK272.out 1).trans rfl; have hcz9_2 : w7.cell? ⟨gb272, 2, none⟩ = some (.bool a1_2) := (blk_cell BK272.out 2).trans rfl; have hcz9_3 : w7.cell? ⟨gb272, 3, none⟩ = some (.int .u32 a1_3) := (blk_cell BK272.out 3).trans rfl; have hcz9_4 : w7.cell? ⟨gb272, 4, none⟩ = some (.int .u8 a1_4) := (blk_cell BK272.out 4).trans rfl; have hcz9_5 : w7.cell? ⟨gb272, 5, none⟩ = some (.int .i64 a1_5) := (blk_cell BK272.out 5).trans rfl; have hcz9_6 : w7.cell? ⟨gb272, 6, none⟩ = some (.int .u16 a1_6) := (blk_cell BK272.out 6).trans rfl; have hcz9_7 : w7.cell? ⟨gb272, 7, none⟩ = some (.int .u16 a1_7) := (blk_cell BK272.out 7).trans rfl; have hfz9_0 := blk_frozen BK272.out 0; have hfz9_1 := blk_frozen BK272.out 1; have hfz9_2 := blk_frozen BK272.out 2; have hfz9_3 := blk_frozen BK272.out 3; have hfz9_4 := blk_frozen BK272.out 4; have hfz9_5 := blk_frozen BK272.out 5; have hfz9_6 := blk_frozen BK272.out 6; have hfz9_7 := blk_frozen BK272.out 7) | ((with_reducible refine gate_callee (f := 45) rfl ?_); refine goesL_ (some 13) rfl rfl Try.func45 (by kernel_rfl) rfl #[.agg #[.int .u32 a1_3, .int .u8 a1_4]] rfl (by (try simp only [List.map_toArray, List.map_cons, List.map_nil]); first | rfl | (refine qa_arr ?_; (repeat' (first | rfl | refine qa_cons ?_ ?_ | refine qa_int ?_ | refine qa_agg ?_ | refine qa_arr ?_)); done)) ?_; (with_reducible refine (gb_begun.calls a1_3 a1_4 t273 _ A3.out).mono ?_); rintro e w10 ⟨v274, rfl, ho0, hb⟩; refine ⟨_, rfl, ?_⟩; have n0_ := Aside0.mk (Kd.R_lower ho0 (below_size (by repeat (first | (with_reducible first | exact HB.out | refine below_set ?_ GE272.out))))); have n1_ := Aside0.mk (blk_below BK271.out hb); have n2_ := Aside0.mk (blk_below BK272.out hb); have n3_ := Aside0.mk (below_step (by repeat (first | (with_reducible first | exact HB.out | refine below_set ?_ GE272.out))) hb); clear BK271 BK272 HB; revert n0_ n1_ n2_ n3_; intro HO275 BK271 BK272 HB; (try clear hb); (try clear hb2); (try clear hk); (try clear hi); (try clear ho0); have hcz11_0 : w10.cell? ⟨gb271, 0, none⟩ = some (.int .u64 a0_0) := (blk_cell BK271.out 0).trans rfl; have hcz11_1 : w10.cell? ⟨gb271, 1, none⟩ = some (.int .u64 a0_1) := (blk_cell BK271.out 1).trans rfl; have hcz11_2 : w10.cell? ⟨gb271, 2, none⟩ = some (.bool a0_2) := (blk_cell BK271.out 2).trans rfl; have hcz11_3 : w10.cell? ⟨gb271, 3, none⟩ = some (.int .u32 a0_3) := (blk_cell BK271.out 3).trans rfl; have hcz11_4 : w10.cell? ⟨gb271, 4, none⟩ = some (.int .u8 a0_4) := (blk_cell BK271.out 4).trans rfl; have hcz11_5 : w10.cell? ⟨gb271, 5, none⟩ = some (.int .i64 a0_5) := (blk_cell BK271.out 5).trans rfl; have hcz11_6 : w10.cell? ⟨gb271, 6, none⟩ = some (.int .u16 a0_6) := (blk_cell BK271.out 6).trans rfl; have hcz11_7 : w10.cell? ⟨gb271, 7, none⟩ = some (.int .u16 a0_7) := (blk_cell BK271.out 7).trans rfl; have hfz11_0 := blk_frozen BK271.out 0; have hfz11_1 := blk_frozen BK271.out 1; have hfz11_2 := blk_frozen BK271.out 2; have hfz11_3 := blk_frozen BK271.out 3; have hfz11_4 := blk_frozen BK271.out 4; have hfz11_5 := blk_frozen BK271.out 5; have hfz11_6 := blk_frozen BK271.out 6; have hfz11_7 := blk_frozen BK271.out 7) | ((with_reducible refine gate_callee (f := 45) rfl ?_); refine goesL_ (some 17) rfl rfl Try.func45 (by kernel_rfl) rfl #[.agg #[.int .u32 a0_3, .int .u8 a0_4]] rfl (by (try simp only [List.map_toArray, List.map_cons, List.map_nil]); first | rfl | (refine qa_arr ?_; (repeat' (first | rfl | refine qa_cons ?_ ?_ | refine qa_int ?_ | refine qa_agg ?_ | refine qa_arr ?_ | omega)); done)) ?_; (with_reducible refine (gb_begun.calls a0_3 a0_4 t276 _ A4.out).mono ?_); rintro e w12 ⟨v277, rfl, ho0, hb⟩; refine ⟨_, rfl, ?_⟩; have n0_ := Aside0.mk (Kd.R_elder' HO275.out (Kd.R_base ho0) hb); have n1_ := Aside0.mk (Kd.R_lower (Kd.R_new' ho0 (Kd.R_lt HO275.out)) (below_size (by repeat (first | (with_reducible first | exact HB.out | refine below_set ?_ GE272.out))))); have n2_ := Aside0.mk (blk_below BK271.out hb); have n3_ := Aside0.mk (blk_below BK272.out hb); have n4_ := Aside0.mk (below_step (by repeat (first | (with_reducible first | exact HB.out | refine below_set ?_ GE272.out))) hb); clear HO275 BK271 BK272 HB; revert n0_ n1_ n2_ n3_ n4_; intro HO275 HO278 BK271 BK272 HB; (try clear hb); (try clear hb2); (try clear hk); (try clear hi); (try clear ho0)))
 (try simp only [Act.put, la0, la1, la2])
 go_cut [7] (fun v7 wc => ∃ (kq : Nat) (x7_4 : Int), v7 = .int .i64 x7_4 ∧ Aside0 (gb_Encode.j1 kq t273 x7_4 a0_0 a0_1 a0_2 a0_3 a0_4 a0_5 a0_6 a0_7 a1_0 a1_1 a1_2 a1_3 a1_4 a1_5 a1_6 a1_7 = some r) ∧ Aside0 (kq ≤ k) ∧ Aside0 (Kd.R (Kd.int .u8) 5 wc w.heap.size (fun _ => True) v274 t273) ∧ Aside0 (wc.heap[gb271]? = some (.cells #[.int .u64 a0_0, .int .u64 a0_1, .bool a0_2, .int .u32 a0_3, .int .u8 a0_4, .int .i64 a0_5, .int .u16 a0_6, .int .u16 a0_7] 31 (0, 0))) ∧ Aside0 (wc.heap[gb272]? = some (.cells #[.int .u64 a1_0, .int .u64 a1_1, .bool a1_2, .int .u32 a1_3, .int .u8 a1_4, .int .i64 a1_5, .int .u16 a1_6, .int .u16 a1_7] 31 (0, 0))) ∧ Aside0 (Below w.heap.size w wc))
 case first =>
  have H := HC5.out; clear HC5; have H' := Aside0.mk H; clear H; go_wp2
  go_loopg [7] k (fun kq v7 w' => ∃ (x7_1 : Int), v7 = .int .i64 x7_1 ∧ Aside0 (gb_Encode.l0 kq t273 t276 x7_1 a0_0 a0_1 a0_2 a0_3 a0_4 a0_5 a0_6 a0_7 a1_0 a1_1 a1_2 a1_3 a1_4 a1_5 a1_6 a1_7 = some r) ∧ Aside0 (kq ≤ k) ∧ Aside0 (Kd.R (Kd.int .u8) 5 w' w.heap.size (fun k_ => some k_ ≠ (v277 : Value).ownBlock) v274 t273) ∧ Aside0 (Kd.R (Kd.int .u8) 5 w' w.heap.size (fun k_ => some k_ ≠ (v274 : Value).ownBlock) v277 t276) ∧ Aside0 (w'.heap[gb271]? = some (.cells #[.int .u64 a0_0, .int .u64 a0_1, .bool a0_2, .int .u32 a0_3, .int .u8 a0_4, .int .i64 a0_5, .int .u16 a0_6, .int .u16 a0_7] 31 (0, 0))) ∧ Aside0 (w'.heap[gb272]? = some (.cells #[.int .u64 a1_0, .int .u64 a1_1, .bool a1_2, .int .u32 a1_3, .int .u8 a1_4, .int .i64 a1_5, .int .u16 a1_6, .int .u16 a1_7] 31 (0, 0))) ∧ Aside0 (Below w.heap.size w w'))
  case atStart => exact ⟨(0), (by first | rfl | (refine qa_int ?_; simp <;> omega)), H', ⟨Nat.le_refl _⟩, ⟨by exact Kd.R_mono HO275.out (fun _ hk => hk.2)⟩, ⟨by exact Kd.R_mono HO278.out (fun _ hk => hk.2)⟩, ⟨by exact BK271.out⟩, ⟨by exact BK272.out⟩, ⟨by repeat (first | (with_reducible first | exact HB.out | refine below_set ?_ GE272.out))⟩⟩
  case round =>
   clear H'
   try clear c2
   try clear p2
   try clear c4
   try clear c8
   try clear hcz11_0
   try clear hcz11_1
   try clear hcz11_2
   try clear hcz11_3
   try clear hcz11_4
   try clear hcz11_5
   try clear hcz11_6
   try clear hcz11_7
   try clear hcz9_0
   try clear hcz9_1
   try clear hcz9_2
   try clear hcz9_3
   try clear hcz9_4
   try clear hcz9_5
   try clear hcz9_6
   try clear hcz9_7
   try clear hfz11_0
   try clear hfz11_1
   try clear hfz11_2
   try clear hfz11_3
   try clear hfz11_4
   try clear hfz11_5
   try clear hfz11_6
   try clear hfz11_7
   try clear hfz9_0
   try clear hfz9_1
   try clear hfz9_2
   try clear hfz9_3
   try clear hfz9_4
   try clear hfz9_5
   try clear hfz9_6
   try clear hfz9_7
   obtain ⟨x7_1, rfl, HA, HK1, HO_5, HO_6, BK271, BK272, HB⟩ := hrel
   cases gk with
   | zero => exact absurd HA.out (by simp [gb_Encode.l0])
   | succ k1 =>
    have H := HA.out; clear HA
    simp only [gb_Encode.l0] at H
    by_cases c13 : x7_1 < (t273.length : Int)
    · rw [if_pos c13] at H
      have c13b0 : decide (x7_1 < (t273.length : Int)) = true := decide_eq_true c13; clear c13
      (first | skip)
      by_cases c14 : x7_1 < (t276.length : Int)
      · rw [if_pos c14] at H
        have c14b0 : decide (x7_1 < (t276.length : Int)) = true := decide_eq_true c14; clear c14
        by_cases c15 : 0 ≤ x7_1
        · rw [if_pos c15] at H
          have c15b0 : decide (0 ≤ x7_1) = true := decide_eq_true c15; clear c15
          by_cases c16 : (rd t273 x7_1) = (rd t276 x7_1)
          · rw [if_pos c16] at H
            have c16b0 : ((rd t273 x7_1) == (rd t276 x7_1)) = true := beq_iff_eq.mpr c16; have c16b1 : ((rd t273 x7_1) != (rd t276 x7_1)) = false := bne_eq_false_iff_eq.mpr c16; clear c16; have H' := Aside0.mk H; clear H
            try go_wp2
            have n0_ := Aside0.mk (Kd.R_drew HO_5.out); have n1_ := Aside0.mk (Kd.R_drew HO_6.out); have n2_ := Aside0.mk (blk_drew BK271.out); have n3_ := Aside0.mk (blk_drew BK272.out); have n4_ := Aside0.mk (below_drew1 HB.out); clear HO_5; clear HO_6; clear BK271; clear BK272; clear HB; have HO_5 := n0_; have HO_6 := n1_; have BK271 := n2_; have BK272 := n3_; have HB := n4_; clear n0_ n1_ n2_ n3_ n4_; obtain ⟨Ao18, co18, eo18⟩ := Kd.R_slice HO_5.out
            (first | subst eo18)
            obtain ⟨Ao19, co19, eo19⟩ := Kd.R_slice HO_6.out
            (first | subst eo19)
            have p279 : 0 ≤ (x7_1 : Int) := of_decide_eq_true (by with_reducible assumption); have q279 : x7_1 < (t273.length : Int) := of_decide_eq_true (by with_reducible assumption); obtain ⟨ad279, e279, hx279_0⟩ := Kd.at_int (Kd.R_reads' HO_5.out).2.2 x7_1 p279 q279; cases e279; replace p279 := eq_true p279; replace q279 := eq_true q279; have p280 : 0 ≤ (x7_1 : Int) := of_decide_eq_true (by with_reducible assumption); have q280 : x7_1 < (t276.length : Int) := of_decide_eq_true (by with_reducible assumption); obtain ⟨ad280, e280, hx280_0⟩ := Kd.at_int (Kd.R_reads' HO_6.out).2.2 x7_1 p280 q280; cases e280; replace p280 := eq_true p280; replace q280 := eq_true q280
            refine start_ (n := 21) (S := fun w' => w'.cell? (ad279.add (x7_1).toNat) = some (.int .u8 (rd t273 x7_1)) ∧ w'.cell? (ad280.add (x7_1).toNat) = some (.int .u8 (rd t276 x7_1))) (ds := []) #[O,O,O,O,O,O,O,O,O,O,O,O,O,O,O,O,O,O,O,O,O] (by kernel_rfl) rfl rfl ⟨hx279_0, hx280_0⟩ (fun hHeld => ?_); refine with_tabW gb_Encode.tab4 gb_Encode.bits4 (fun HT_ HW_ => ?_)
            generalize wr.drew = w17 at HO_5 HO_6 BK271 BK272 HB hx279_0 hx280_0 hHeld ⊢; refine pure_ (i := 0) (N := some 18) (v := ?_) (a' := ?_) #[I,O,O,O,O,O,O,O,O,O,O,O,O,O,O,O,O,O,O,O,O] rfl rfl (any_of HT_.out (by kernel_rfl)) (fun _ _ _ h => h) (Or.inl ⟨by rfl, ?_⟩) ?_ ?_; rotate_left; · intro w'; go_simp; with_reducible rfl
            rotate_left; · simp only [Act.put, la0, la1, la2, i64_w, i32_w]; rfl
            refine pure_ (i := 1) (N := some 19) (v := ?_) (a' := ?_) #[I,I,O,O,O,O,O,O,O,O,O,O,O,O,O,O,O,O,O,O,O] rfl rfl (any_of HT_.out (by kernel_rfl)) (fun _ _ _ h => h) (Or.inl ⟨by rfl, ?_⟩) ?_ ?_; rotate_left; · intro w'; go_simp; with_reducible rfl
            rotate_left; · simp only [Act.put, la0, la1, la2, i64_w, i32_w]; rfl
            refine pure_ (i := 2) (N := some 20) (v := ?_) (a' := ?_) #[I,I,I,O,O,O,O,O,O,O,O,O,O,O,O,O,O,O,O,O,O] rfl rfl (any_of HT_.out (by kernel_rfl)) (fun _ _ _ h => h) (Or.inl ⟨by rfl, ?_⟩) ?_ ?_; rotate_left; · intro w'; go_simp; with_reducible rfl
            rotate_left; · simp only [Act.put, la0, la1, la2, i64_w, i32_w]; rfl
            refine pure_ (i := 3) (N := some 21) (v := ?_) (a' := ?_) #[I,I,I,I,O,O,O,O,O,O,O,O,O,O,O,O,O,O,O,O,O] rfl rfl (any_of HT_.out (by kernel_rfl)) (fun _ _ _ h => h) (Or.inl ⟨by rfl, ?_⟩) ?_ ?_; rotate_left; · intro w'; go_simp; with_reducible rfl
            rotate_left; · simp only [Act.put, la0, la1, la2, i64_w, i32_w]; rfl
            refine pure_ (i := 4) (N := some 22) (v := ?_) (a' := ?_) #[I,I,I,I,I,O,O,O,O,O,O,O,O,O,O,O,O,O,O,O,O] rfl rfl (any_of HT_.out (by kernel_rfl)) (fun _ _ _ h => h) (Or.inl ⟨by rfl, ?_⟩) ?_ ?_; rotate_left; · intro w'; go_simp; with_reducible rfl
            rotate_left; · simp only [Act.put, la0, la1, la2, i64_w, i32_w]; rfl
            refine pure_ (i := 5) (N := some 23) (v := ?_) (a' := ?_) #[I,I,I,I,I,I,O,O,O,O,O,O,O,O,O,O,O,O,O,O,O] rfl rfl (any_of HT_.out (by kernel_rfl)) (fun _ _ _ h => h) (Or.inl ⟨by rfl, ?_⟩) ?_ ?_; rotate_left; · intro w'; go_simp; with_reducible rfl
            rotate_left; · simp only [Act.put, la0, la1, la2, i64_w, i32_w]; rfl
            refine pure_ (i := 6) (N := some 24) (v := ?_) (a' := ?_) #[I,I,I,I,I,I,I,O,O,O,O,O,O,O,O,O,O,O,O,O,O] rfl rfl (any_of HT_.out (by kernel_rfl)) (fun _ _ _ h => h) (Or.inl ⟨by rfl, ?_⟩) ?_ ?_; rotate_left; · intro w'; go_simp; with_reducible rfl
            rotate_left; · simp only [Act.put, la0, la1, la2, i64_w, i32_w]; rfl
            refine pure_ (i := 7) (N := some 25) (v := ?_) (a' := ?_) #[I,I,I,I,I,I,I,I,O,O,O,O,O,O,O,O,O,O,O,O,O] rfl rfl (any_of HT_.out (by kernel_rfl)) (fun _ _ _ h => h) (Or.inl ⟨by rfl, ?_⟩) ?_ ?_; rotate_left; · intro w'; go_simp; with_reducible rfl
            rotate_left; · simp only [Act.put, la0, la1, la2, i64_w, i32_w]; rfl
            refine pure_ (i := 8) (N := some 26) (v := ?_) (a' := ?_) #[I,I,I,I,I,I,I,I,I,O,O,O,O,O,O,O,O,O,O,O,O] rfl rfl (any_of HT_.out (by kernel_rfl)) (fun _ _ _ h => h) (Or.inl ⟨by rfl, ?_⟩) ?_ ?_; rotate_left; · intro w'; go_simp; with_reducible rfl
            rotate_left; · simp only [Act.put, la0, la1, la2, i64_w, i32_w]; rfl
            refine pure_ (i := 9) (N := some 27) (v := ?_) (a' := ?_) #[I,I,I,I,I,I,I,I,I,I,O,O,O,O,O,O,O,O,O,O,O] rfl rfl (any_of HT_.out (by kernel_rfl)) (fun _ _ _ h => h) (Or.inl ⟨by rfl, ?_⟩) ?_ ?_; rotate_left; · intro w'; go_simp; with_reducible rfl
            rotate_left; · simp only [Act.put, la0, la1, la2, i64_w, i32_w]; rfl
            refine pure_ (i := 10) (N := some 28) (v := ?_) (a' := ?_) #[I,I,I,I,I,I,I,I,I,I,I,O,O,O,O,O,O,O,O,O,O] rfl rfl (any_of HT_.out (by kernel_rfl)) (fun _ _ _ h => h) (Or.inl ⟨by rfl, ?_⟩) ?_ ?_; rotate_left; · intro w'; go_simp; with_reducible rfl
            rotate_left; · simp only [Act.put, la0, la1, la2, i64_w, i32_w]; rfl
            refine pure_ (i := 11) (N := some 29) (v := ?_) (a' := ?_) #[I,I,I,I,I,I,I,I,I,I,I,I,O,O,O,O,O,O,O,O,O] rfl rfl (any_of HT_.out (by kernel_rfl)) (fun _ _ _ h => h) (Or.inl ⟨by rfl, ?_⟩) ?_ ?_; rotate_left; · intro w'; go_simp; with_reducible rfl
            rotate_left; · simp only [Act.put, la0, la1, la2, i64_w, i32_w]; rfl
            refine pure_ (i := 12) (N := some 30) (v := ?_) (a' := ?_) #[I,I,I,I,I,I,I,I,I,I,I,I,I,O,O,O,O,O,O,O,O] rfl rfl (any_of HT_.out (by kernel_rfl)) (fun _ _ _ h => h) (Or.inl ⟨by rfl, ?_⟩) ?_ ?_; rotate_left; · intro w'; go_simp; with_reducible rfl
            rotate_left; · simp only [Act.put, la0, la1, la2, i64_w, i32_w]; rfl
            refine pure_ (i := 13) (N := some 31) (v := ?_) (a' := ?_) #[I,I,I,I,I,I,I,I,I,I,I,I,I,I,O,O,O,O,O,O,O] rfl rfl (any_of HT_.out (by kernel_rfl)) (fun _ _ _ h => h) (Or.inl ⟨by rfl, ?_⟩) ?_ ?_; rotate_left; · intro w'; go_simp; with_reducible rfl
            rotate_left; · simp only [Act.put, la0, la1, la2, i64_w, i32_w]; rfl
            refine pure_ (i := 15) (N := some 33) (v := ?_) (a' := ?_) #[I,I,I,I,I,I,I,I,I,I,I,I,I,I,O,I,O,O,O,O,O] rfl rfl (any_of HT_.out (by kernel_rfl)) (fun _ _ _ h => h) (Or.inl ⟨by rfl, ?_⟩) ?_ ?_; rotate_left; · intro w'; go_simp; with_reducible rfl
            rotate_left; · simp only [Act.put, la0, la1, la2, i64_w, i32_w]; rfl
            refine pure_ (i := 16) (N := some 34) (v := ?_) (a' := ?_) #[I,I,I,I,I,I,I,I,I,I,I,I,I,I,O,I,I,O,O,O,O] rfl rfl (any_of HT_.out (by kernel_rfl)) (fun _ _ _ h => h) (Or.inl ⟨by rfl, ?_⟩) ?_ ?_; rotate_left; · intro w'; go_simp; with_reducible rfl
            rotate_left; · simp only [Act.put, la0, la1, la2, i64_w, i32_w]; rfl
            refine pure_ (i := 17) (N := some 35) (v := ?_) (a' := ?_) #[I,I,I,I,I,I,I,I,I,I,I,I,I,I,O,I,I,I,O,O,O] rfl rfl (any_of HT_.out (by kernel_rfl)) (fun _ _ _ h => h) (Or.inl ⟨by rfl, ?_⟩) ?_ ?_; rotate_left; · intro w'; go_simp; with_reducible rfl
            rotate_left; · simp only [Act.put, la0, la1, la2, i64_w, i32_w]; rfl
            refine take_ (i := 14) (N := some 32) (v := ?_) (a' := ?_) #[I,I,I,I,I,I,I,I,I,I,I,I,I,I,I,I,I,I,O,O,O] rfl rfl (take_ofW HT_.out HW_.out (by kernel_rfl)) (fun _ _ _ h => h) (Or.inl ⟨by rfl, ?_⟩) hHeld ?_ ?_; rotate_left; · rintro w' ⟨s0, s1⟩; go_simp; with_reducible rfl
            rotate_left; · simp only [Act.put, la0, la1, la2, i64_w, i32_w]; rfl
            refine take_ (i := 18) (N := some 36) (v := ?_) (a' := ?_) #[I,I,I,I,I,I,I,I,I,I,I,I,I,I,I,I,I,I,I,O,O] rfl rfl (take_ofW HT_.out HW_.out (by kernel_rfl)) (fun _ _ _ h => h) (Or.inl ⟨by rfl, ?_⟩) hHeld ?_ ?_; rotate_left; · rintro w' ⟨s0, s1⟩; go_simp; with_reducible rfl
            rotate_left; · simp only [Act.put, la0, la1, la2, i64_w, i32_w]; rfl
            refine pure_ (i := 19) (N := some 37) (v := ?_) (a' := ?_) #[I,I,I,I,I,I,I,I,I,I,I,I,I,I,I,I,I,I,I,I,O] rfl rfl (any_of HT_.out (by kernel_rfl)) (fun _ _ _ h => h) (Or.inl ⟨by rfl, ?_⟩) ?_ ?_; rotate_left; · intro w'; go_simp; with_reducible rfl
            rotate_left; · simp only [Act.put, la0, la1, la2, i64_w, i32_w]; rfl
            refine pure_ (i := 20) (N := some 38) (v := ?_) (a' := ?_) #[I,I,I,I,I,I,I,I,I,I,I,I,I,I,I,I,I,I,I,I,I] rfl rfl (any_of HT_.out (by kernel_rfl)) (fun _ _ _ h => h) (Or.inl ⟨by rfl, ?_⟩) ?_ ?_; rotate_left; · intro w'; go_simp; with_reducible rfl
            rotate_left; · simp only [Act.put, la0, la1, la2, i64_w, i32_w]; rfl
            refine done_ (done_of HT_.out (by kernel_rfl)) ?_
            try go_wp2
            go_roundg k1
            case measure => have := HK1.out; omega
            case rel => exact ⟨(wrap64 (x7_1 + 1)), (by first | rfl | (refine qa_int ?_; simp <;> omega)), H', ⟨by have := HK1.out; omega⟩, ⟨by exact HO_5.out⟩, ⟨by exact HO_6.out⟩, ⟨by exact BK271.out⟩, ⟨by exact BK272.out⟩, ⟨by repeat (first | (with_reducible first | exact HB.out | refine below_set ?_ GE272.out))⟩⟩
          rw [if_neg c16] at H; have c16b0 : ((rd t273 x7_1) == (rd t276 x7_1)) = false := beq_eq_false_iff_ne.mpr c16; have c16b1 : ((rd t273 x7_1) != (rd t276 x7_1)) = true := bne_iff_ne.mpr c16; have H' := Aside0.mk H; clear H
          try go_wp2
          have n0_ := Aside0.mk (Kd.R_drew HO_5.out); have n1_ := Aside0.mk (Kd.R_drew HO_6.out); have n2_ := Aside0.mk (blk_drew BK271.out); have n3_ := Aside0.mk (blk_drew BK272.out); have n4_ := Aside0.mk (below_drew1 HB.out); clear HO_5; clear HO_6; clear BK271; clear BK272; clear HB; have HO_5 := n0_; have HO_6 := n1_; have BK271 := n2_; have BK272 := n3_; have HB := n4_; clear n0_ n1_ n2_ n3_ n4_; obtain ⟨Ao21, co21, eo21⟩ := Kd.R_slice HO_5.out
          (first | subst eo21)
          obtain ⟨Ao22, co22, eo22⟩ := Kd.R_slice HO_6.out
          (first | subst eo22)
          have p279 : 0 ≤ (x7_1 : Int) := of_decide_eq_true (by with_reducible assumption); have q279 : x7_1 < (t273.length : Int) := of_decide_eq_true (by with_reducible assumption); obtain ⟨ad279, e279, hx279_0⟩ := Kd.at_int (Kd.R_reads' HO_5.out).2.2 x7_1 p279 q279; cases e279; replace p279 := eq_true p279; replace q279 := eq_true q279; have p280 : 0 ≤ (x7_1 : Int) := of_decide_eq_true (by with_reducible assumption); have q280 : x7_1 < (t276.length : Int) := of_decide_eq_true (by with_reducible assumption); obtain ⟨ad280, e280, hx280_0⟩ := Kd.at_int (Kd.R_reads' HO_6.out).2.2 x7_1 p280 q280; cases e280; replace p280 := eq_true p280; replace q280 := eq_true q280
          refine start_ (n := 21) (S := fun w' => w'.cell? (ad279.add (x7_1).toNat) = some (.int .u8 (rd t273 x7_1)) ∧ w'.cell? (ad280.add (x7_1).toNat) = some (.int .u8 (rd t276 x7_1))) (ds := []) #[O,O,O,O,O,O,O,O,O,O,O,O,O,O,O,O,O,O,O,O,O] (by kernel_rfl) rfl rfl ⟨hx279_0, hx280_0⟩ (fun hHeld => ?_); refine with_tabW gb_Encode.tab4 gb_Encode.bits4 (fun HT_ HW_ => ?_)
          generalize wr.drew = w20 at HO_5 HO_6 BK271 BK272 HB hx279_0 hx280_0 hHeld ⊢; refine pure_ (i := 0) (N := some 18) (v := ?_) (a' := ?_) #[I,O,O,O,O,O,O,O,O,O,O,O,O,O,O,O,O,O,O,O,O] rfl rfl (any_of HT_.out (by kernel_rfl)) (fun _ _ _ h => h) (Or.inl ⟨by rfl, ?_⟩) ?_ ?_; rotate_left; · intro w'; go_simp; with_reducible rfl
          rotate_left; · simp only [Act.put, la0, la1, la2, i64_w, i32_w]; rfl
          refine pure_ (i := 1) (N := some 19) (v := ?_) (a' := ?_) #[I,I,O,O,O,O,O,O,O,O,O,O,O,O,O,O,O,O,O,O,O] rfl rfl (any_of HT_.out (by kernel_rfl)) (fun _ _ _ h => h) (Or.inl ⟨by rfl, ?_⟩) ?_ ?_; rotate_left; · intro w'; go_simp; with_reducible rfl
          rotate_left; · simp only [Act.put, la0, la1, la2, i64_w, i32_w]; rfl
          refine pure_ (i := 2) (N := some 20) (v := ?_) (a' := ?_) #[I,I,I,O,O,O,O,O,O,O,O,O,O,O,O,O,O,O,O,O,O] rfl rfl (any_of HT_.out (by kernel_rfl)) (fun _ _ _ h => h) (Or.inl ⟨by rfl, ?_⟩) ?_ ?_; rotate_left; · intro w'; go_simp; with_reducible rfl
          rotate_left; · simp only [Act.put, la0, la1, la2, i64_w, i32_w]; rfl
          refine pure_ (i := 3) (N := some 21) (v := ?_) (a' := ?_) #[I,I,I,I,O,O,O,O,O,O,O,O,O,O,O,O,O,O,O,O,O] rfl rfl (any_of HT_.out (by kernel_rfl)) (fun _ _ _ h => h) (Or.inl ⟨by rfl, ?_⟩) ?_ ?_; rotate_left; · intro w'; go_simp; with_reducible rfl
          rotate_left; · simp only [Act.put, la0, la1, la2, i64_w, i32_w]; rfl
          refine pure_ (i := 4) (N := some 22) (v := ?_) (a' := ?_) #[I,I,I,I,I,O,O,O,O,O,O,O,O,O,O,O,O,O,O,O,O] rfl rfl (any_of HT_.out (by kernel_rfl)) (fun _ _ _ h => h) (Or.inl ⟨by rfl, ?_⟩) ?_ ?_; rotate_left; · intro w'; go_simp; with_reducible rfl
          rotate_left; · simp only [Act.put, la0, la1, la2, i64_w, i32_w]; rfl
          refine pure_ (i := 5) (N := some 23) (v := ?_) (a' := ?_) #[I,I,I,I,I,I,O,O,O,O,O,O,O,O,O,O,O,O,O,O,O] rfl rfl (any_of HT_.out (by kernel_rfl)) (fun _ _ _ h => h) (Or.inl ⟨by rfl, ?_⟩) ?_ ?_; rotate_left; · intro w'; go_simp; with_reducible rfl
          rotate_left; · simp only [Act.put, la0, la1, la2, i64_w, i32_w]; rfl
          refine pure_ (i := 6) (N := some 24) (v := ?_) (a' := ?_) #[I,I,I,I,I,I,I,O,O,O,O,O,O,O,O,O,O,O,O,O,O] rfl rfl (any_of HT_.out (by kernel_rfl)) (fun _ _ _ h => h) (Or.inl ⟨by rfl, ?_⟩) ?_ ?_; rotate_left; · intro w'; go_simp; with_reducible rfl
          rotate_left; · simp only [Act.put, la0, la1, la2, i64_w, i32_w]; rfl
          refine pure_ (i := 7) (N := some 25) (v := ?_) (a' := ?_) #[I,I,I,I,I,I,I,I,O,O,O,O,O,O,O,O,O,O,O,O,O] rfl rfl (any_of HT_.out (by kernel_rfl)) (fun _ _ _ h => h) (Or.inl ⟨by rfl, ?_⟩) ?_ ?_; rotate_left; · intro w'; go_simp; with_reducible rfl
          rotate_left; · simp only [Act.put, la0, la1, la2, i64_w, i32_w]; rfl
          refine pure_ (i := 8) (N := some 26) (v := ?_) (a' := ?_) #[I,I,I,I,I,I,I,I,I,O,O,O,O,O,O,O,O,O,O,O,O] rfl rfl (any_of HT_.out (by kernel_rfl)) (fun _ _ _ h => h) (Or.inl ⟨by rfl, ?_⟩) ?_ ?_; rotate_left; · intro w'; go_simp; with_reducible rfl
          rotate_left; · simp only [Act.put, la0, la1, la2, i64_w, i32_w]; rfl
          refine pure_ (i := 9) (N := some 27) (v := ?_) (a' := ?_) #[I,I,I,I,I,I,I,I,I,I,O,O,O,O,O,O,O,O,O,O,O] rfl rfl (any_of HT_.out (by kernel_rfl)) (fun _ _ _ h => h) (Or.inl ⟨by rfl, ?_⟩) ?_ ?_; rotate_left; · intro w'; go_simp; with_reducible rfl
          rotate_left; · simp only [Act.put, la0, la1, la2, i64_w, i32_w]; rfl
          refine pure_ (i := 10) (N := some 28) (v := ?_) (a' := ?_) #[I,I,I,I,I,I,I,I,I,I,I,O,O,O,O,O,O,O,O,O,O] rfl rfl (any_of HT_.out (by kernel_rfl)) (fun _ _ _ h => h) (Or.inl ⟨by rfl, ?_⟩) ?_ ?_; rotate_left; · intro w'; go_simp; with_reducible rfl
          rotate_left; · simp only [Act.put, la0, la1, la2, i64_w, i32_w]; rfl
          refine pure_ (i := 11) (N := some 29) (v := ?_) (a' := ?_) #[I,I,I,I,I,I,I,I,I,I,I,I,O,O,O,O,O,O,O,O,O] rfl rfl (any_of HT_.out (by kernel_rfl)) (fun _ _ _ h => h) (Or.inl ⟨by rfl, ?_⟩) ?_ ?_; rotate_left; · intro w'; go_simp; with_reducible rfl
          rotate_left; · simp only [Act.put, la0, la1, la2, i64_w, i32_w]; rfl
          refine pure_ (i := 12) (N := some 30) (v := ?_) (a' := ?_) #[I,I,I,I,I,I,I,I,I,I,I,I,I,O,O,O,O,O,O,O,O] rfl rfl (any_of HT_.out (by kernel_rfl)) (fun _ _ _ h => h) (Or.inl ⟨by rfl, ?_⟩) ?_ ?_; rotate_left; · intro w'; go_simp; with_reducible rfl
          rotate_left; · simp only [Act.put, la0, la1, la2, i64_w, i32_w]; rfl
          refine pure_ (i := 13) (N := some 31) (v := ?_) (a' := ?_) #[I,I,I,I,I,I,I,I,I,I,I,I,I,I,O,O,O,O,O,O,O] rfl rfl (any_of HT_.out (by kernel_rfl)) (fun _ _ _ h => h) (Or.inl ⟨by rfl, ?_⟩) ?_ ?_; rotate_left; · intro w'; go_simp; with_reducible rfl
          rotate_left; · simp only [Act.put, la0, la1, la2, i64_w, i32_w]; rfl
          refine pure_ (i := 15) (N := some 33) (v := ?_) (a' := ?_) #[I,I,I,I,I,I,I,I,I,I,I,I,I,I,O,I,O,O,O,O,O] rfl rfl (any_of HT_.out (by kernel_rfl)) (fun _ _ _ h => h) (Or.inl ⟨by rfl, ?_⟩) ?_ ?_; rotate_left; · intro w'; go_simp; with_reducible rfl
          rotate_left; · simp only [Act.put, la0, la1, la2, i64_w, i32_w]; rfl
          refine pure_ (i := 16) (N := some 34) (v := ?_) (a' := ?_) #[I,I,I,I,I,I,I,I,I,I,I,I,I,I,O,I,I,O,O,O,O] rfl rfl (any_of HT_.out (by kernel_rfl)) (fun _ _ _ h => h) (Or.inl ⟨by rfl, ?_⟩) ?_ ?_; rotate_left; · intro w'; go_simp; with_reducible rfl
          rotate_left; · simp only [Act.put, la0, la1, la2, i64_w, i32_w]; rfl
          refine pure_ (i := 17) (N := some 35) (v := ?_) (a' := ?_) #[I,I,I,I,I,I,I,I,I,I,I,I,I,I,O,I,I,I,O,O,O] rfl rfl (any_of HT_.out (by kernel_rfl)) (fun _ _ _ h => h) (Or.inl ⟨by rfl, ?_⟩) ?_ ?_; rotate_left; · intro w'; go_simp; with_reducible rfl
          rotate_left; · simp only [Act.put, la0, la1, la2, i64_w, i32_w]; rfl
          refine take_ (i := 14) (N := some 32) (v := ?_) (a' := ?_) #[I,I,I,I,I,I,I,I,I,I,I,I,I,I,I,I,I,I,O,O,O] rfl rfl (take_ofW HT_.out HW_.out (by kernel_rfl)) (fun _ _ _ h => h) (Or.inl ⟨by rfl, ?_⟩) hHeld ?_ ?_; rotate_left; · rintro w' ⟨s0, s1⟩; go_simp; with_reducible rfl
          rotate_left; · simp only [Act.put, la0, la1, la2, i64_w, i32_w]; rfl
          refine take_ (i := 18) (N := some 36) (v := ?_) (a' := ?_) #[I,I,I,I,I,I,I,I,I,I,I,I,I,I,I,I,I,I,I,O,O] rfl rfl (take_ofW HT_.out HW_.out (by kernel_rfl)) (fun _ _ _ h => h) (Or.inl ⟨by rfl, ?_⟩) hHeld ?_ ?_; rotate_left; · rintro w' ⟨s0, s1⟩; go_simp; with_reducible rfl
          rotate_left; · simp only [Act.put, la0, la1, la2, i64_w, i32_w]; rfl
          refine pure_ (i := 19) (N := some 37) (v := ?_) (a' := ?_) #[I,I,I,I,I,I,I,I,I,I,I,I,I,I,I,I,I,I,I,I,O] rfl rfl (any_of HT_.out (by kernel_rfl)) (fun _ _ _ h => h) (Or.inl ⟨by rfl, ?_⟩) ?_ ?_; rotate_left; · intro w'; go_simp; with_reducible rfl
          rotate_left; · simp only [Act.put, la0, la1, la2, i64_w, i32_w]; rfl
          refine pure_ (i := 20) (N := some 38) (v := ?_) (a' := ?_) #[I,I,I,I,I,I,I,I,I,I,I,I,I,I,I,I,I,I,I,I,I] rfl rfl (any_of HT_.out (by kernel_rfl)) (fun _ _ _ h => h) (Or.inl ⟨by rfl, ?_⟩) ?_ ?_; rotate_left; · intro w'; go_simp; with_reducible rfl
          rotate_left; · simp only [Act.put, la0, la1, la2, i64_w, i32_w]; rfl
          refine done_ (done_of HT_.out (by kernel_rfl)) ?_
          try go_wp2
          go_meet
          case rel => exact ⟨_, (x7_1), (by first | rfl | (refine qa_int ?_; simp <;> omega)), H', ⟨by have := HK1.out; first | omega⟩, ⟨by exact Kd.R_mono HO_5.out (fun _ hk => trivial)⟩, ⟨by exact BK271.out⟩, ⟨by exact BK272.out⟩, ⟨by repeat (first | (with_reducible first | exact HB.out | refine below_set ?_ GE272.out))⟩⟩
        rw [if_neg c15] at H; exact absurd H (by simp)
      rw [if_neg c14] at H; have c14b0 : decide (x7_1 < (t276.length : Int)) = false := decide_eq_false c14; clear c14; have H' := Aside0.mk H; clear H
      try go_wp2
      have n0_ := Aside0.mk (Kd.R_drew HO_5.out); have n1_ := Aside0.mk (Kd.R_drew HO_6.out); have n2_ := Aside0.mk (blk_drew BK271.out); have n3_ := Aside0.mk (blk_drew BK272.out); have n4_ := Aside0.mk (below_drew1 HB.out); clear HO_5; clear HO_6; clear BK271; clear BK272; clear HB; have HO_5 := n0_; have HO_6 := n1_; have BK271 := n2_; have BK272 := n3_; have HB := n4_; clear n0_ n1_ n2_ n3_ n4_; obtain ⟨Ao24, co24, eo24⟩ := Kd.R_slice HO_5.out
      (first | subst eo24)
      obtain ⟨Ao25, co25, eo25⟩ := Kd.R_slice HO_6.out
      (first | subst eo25)
      refine start_ (n := 21) (S := fun w' => True) (ds := []) #[O,O,O,O,O,O,O,O,O,O,O,O,O,O,O,O,O,O,O,O,O] (by kernel_rfl) rfl rfl trivial (fun hHeld => ?_); refine with_tabW gb_Encode.tab4 gb_Encode.bits4 (fun HT_ HW_ => ?_)
      generalize wr.drew = w23 at HO_5 HO_6 BK271 BK272 HB hHeld ⊢; refine pure_ (i := 0) (N := some 18) (v := ?_) (a' := ?_) #[I,O,O,O,O,O,O,O,O,O,O,O,O,O,O,O,O,O,O,O,O] rfl rfl (any_of HT_.out (by kernel_rfl)) (fun _ _ _ h => h) (Or.inl ⟨by rfl, ?_⟩) ?_ ?_; rotate_left; · intro w'; go_simp; with_reducible rfl
      rotate_left; · simp only [Act.put, la0, la1, la2, i64_w, i32_w]; rfl
      refine pure_ (i := 1) (N := some 19) (v := ?_) (a' := ?_) #[I,I,O,O,O,O,O,O,O,O,O,O,O,O,O,O,O,O,O,O,O] rfl rfl (any_of HT_.out (by kernel_rfl)) (fun _ _ _ h => h) (Or.inl ⟨by rfl, ?_⟩) ?_ ?_; rotate_left; · intro w'; go_simp; with_reducible rfl
      rotate_left; · simp only [Act.put, la0, la1, la2, i64_w, i32_w]; rfl
      refine pure_ (i := 2) (N := some 20) (v := ?_) (a' := ?_) #[I,I,I,O,O,O,O,O,O,O,O,O,O,O,O,O,O,O,O,O,O] rfl rfl (any_of HT_.out (by kernel_rfl)) (fun _ _ _ h => h) (Or.inl ⟨by rfl, ?_⟩) ?_ ?_; rotate_left; · intro w'; go_simp; with_reducible rfl
      rotate_left; · simp only [Act.put, la0, la1, la2, i64_w, i32_w]; rfl
      refine pure_ (i := 3) (N := some 21) (v := ?_) (a' := ?_) #[I,I,I,I,O,O,O,O,O,O,O,O,O,O,O,O,O,O,O,O,O] rfl rfl (any_of HT_.out (by kernel_rfl)) (fun _ _ _ h => h) (Or.inl ⟨by rfl, ?_⟩) ?_ ?_; rotate_left; · intro w'; go_simp; with_reducible rfl
      rotate_left; · simp only [Act.put, la0, la1, la2, i64_w, i32_w]; rfl
      refine pure_ (i := 4) (N := some 22) (v := ?_) (a' := ?_) #[I,I,I,I,I,O,O,O,O,O,O,O,O,O,O,O,O,O,O,O,O] rfl rfl (any_of HT_.out (by kernel_rfl)) (fun _ _ _ h => h) (Or.inl ⟨by rfl, ?_⟩) ?_ ?_; rotate_left; · intro w'; go_simp; with_reducible rfl
      rotate_left; · simp only [Act.put, la0, la1, la2, i64_w, i32_w]; rfl
      refine pure_ (i := 5) (N := some 23) (v := ?_) (a' := ?_) #[I,I,I,I,I,I,O,O,O,O,O,O,O,O,O,O,O,O,O,O,O] rfl rfl (any_of HT_.out (by kernel_rfl)) (fun _ _ _ h => h) (Or.inl ⟨by rfl, ?_⟩) ?_ ?_; rotate_left; · intro w'; go_simp; with_reducible rfl
      rotate_left; · simp only [Act.put, la0, la1, la2, i64_w, i32_w]; rfl
      refine pure_ (i := 6) (N := some 24) (v := ?_) (a' := ?_) #[I,I,I,I,I,I,I,O,O,O,O,O,O,O,O,O,O,O,O,O,O] rfl rfl (any_of HT_.out (by kernel_rfl)) (fun _ _ _ h => h) (Or.inl ⟨by rfl, ?_⟩) ?_ ?_; rotate_left; · intro w'; go_simp; with_reducible rfl
      rotate_left; · simp only [Act.put, la0, la1, la2, i64_w, i32_w]; rfl
      refine pure_ (i := 7) (N := some 25) (v := ?_) (a' := ?_) #[I,I,I,I,I,I,I,I,O,O,O,O,O,O,O,O,O,O,O,O,O] rfl rfl (any_of HT_.out (by kernel_rfl)) (fun _ _ _ h => h) (Or.inl ⟨by rfl, ?_⟩) ?_ ?_; rotate_left; · intro w'; go_simp; with_reducible rfl
      rotate_left; · simp only [Act.put, la0, la1, la2, i64_w, i32_w]; rfl
      refine pure_ (i := 8) (N := some 26) (v := ?_) (a' := ?_) #[I,I,I,I,I,I,I,I,I,O,O,O,O,O,O,O,O,O,O,O,O] rfl rfl (any_of HT_.out (by kernel_rfl)) (fun _ _ _ h => h) (Or.inl ⟨by rfl, ?_⟩) ?_ ?_; rotate_left; · intro w'; go_simp; with_reducible rfl
      rotate_left; · simp only [Act.put, la0, la1, la2, i64_w, i32_w]; rfl
      refine pure_ (i := 9) (N := some 27) (v := ?_) (a' := ?_) #[I,I,I,I,I,I,I,I,I,I,O,O,O,O,O,O,O,O,O,O,O] rfl rfl (any_of HT_.out (by kernel_rfl)) (fun _ _ _ h => h) (Or.inl ⟨by rfl, ?_⟩) ?_ ?_; rotate_left; · intro w'; go_simp; with_reducible rfl
      rotate_left; · simp only [Act.put, la0, la1, la2, i64_w, i32_w]; rfl
      refine pure_ (i := 10) (N := some 28) (v := ?_) (a' := ?_) #[I,I,I,I,I,I,I,I,I,I,I,O,O,O,O,O,O,O,O,O,O] rfl rfl (any_of HT_.out (by kernel_rfl)) (fun _ _ _ h => h) (Or.inl ⟨by rfl, ?_⟩) ?_ ?_; rotate_left; · intro w'; go_simp; with_reducible rfl
      rotate_left; · simp only [Act.put, la0, la1, la2, i64_w, i32_w]; rfl
      refine pure_ (i := 11) (N := some 29) (v := undef) (a' := ?_) #[I,I,I,I,I,I,I,I,I,I,I,I,O,O,O,O,O,O,O,O,O] rfl rfl (any_of HT_.out (by kernel_rfl)) (fun _ _ _ h => h) (Or.inr ⟨by rfl, rfl⟩) ?_ ?_; rotate_left; · simp only [Act.put, la0, la1, la2, i64_w, i32_w]; rfl
      refine pure_ (i := 12) (N := some 30) (v := undef) (a' := ?_) #[I,I,I,I,I,I,I,I,I,I,I,I,I,O,O,O,O,O,O,O,O] rfl rfl (any_of HT_.out (by kernel_rfl)) (fun _ _ _ h => h) (Or.inr ⟨by rfl, rfl⟩) ?_ ?_; rotate_left; · simp only [Act.put, la0, la1, la2, i64_w, i32_w]; rfl
      refine pure_ (i := 13) (N := some 31) (v := undef) (a' := ?_) #[I,I,I,I,I,I,I,I,I,I,I,I,I,I,O,O,O,O,O,O,O] rfl rfl (any_of HT_.out (by kernel_rfl)) (fun _ _ _ h => h) (Or.inr ⟨by rfl, rfl⟩) ?_ ?_; rotate_left; · simp only [Act.put, la0, la1, la2, i64_w, i32_w]; rfl
      refine pure_ (i := 14) (N := some 32) (v := undef) (a' := ?_) #[I,I,I,I,I,I,I,I,I,I,I,I,I,I,I,O,O,O,O,O,O] rfl rfl (any_of HT_.out (by kernel_rfl)) (fun _ _ _ h => h) (Or.inr ⟨by rfl, rfl⟩) ?_ ?_; rotate_left; · simp only [Act.put, la0, la1, la2, i64_w, i32_w]; rfl
      refine pure_ (i := 15) (N := some 33) (v := undef) (a' := ?_) #[I,I,I,I,I,I,I,I,I,I,I,I,I,I,I,I,O,O,O,O,O] rfl rfl (any_of HT_.out (by kernel_rfl)) (fun _ _ _ h => h) (Or.inr ⟨by rfl, rfl⟩) ?_ ?_; rotate_left; · simp only [Act.put, la0, la1, la2, i64_w, i32_w]; rfl
      refine pure_ (i := 16) (N := some 34) (v := undef) (a' := ?_) #[I,I,I,I,I,I,I,I,I,I,I,I,I,I,I,I,I,O,O,O,O] rfl rfl (any_of HT_.out (by kernel_rfl)) (fun _ _ _ h => h) (Or.inr ⟨by rfl, rfl⟩) ?_ ?_; rotate_left; · simp only [Act.put, la0, la1, la2, i64_w, i32_w]; rfl
      refine pure_ (i := 17) (N := some 35) (v := undef) (a' := ?_) #[I,I,I,I,I,I,I,I,I,I,I,I,I,I,I,I,I,I,O,O,O] rfl rfl (any_of HT_.out (by kernel_rfl)) (fun _ _ _ h => h) (Or.inr ⟨by rfl, rfl⟩) ?_ ?_; rotate_left; · simp only [Act.put, la0, la1, la2, i64_w, i32_w]; rfl
      refine pure_ (i := 18) (N := some 36) (v := undef) (a' := ?_) #[I,I,I,I,I,I,I,I,I,I,I,I,I,I,I,I,I,I,I,O,O] rfl rfl (any_of HT_.out (by kernel_rfl)) (fun _ _ _ h => h) (Or.inr ⟨by rfl, rfl⟩) ?_ ?_; rotate_left; · simp only [Act.put, la0, la1, la2, i64_w, i32_w]; rfl
      refine pure_ (i := 19) (N := some 37) (v := undef) (a' := ?_) #[I,I,I,I,I,I,I,I,I,I,I,I,I,I,I,I,I,I,I,I,O] rfl rfl (any_of HT_.out (by kernel_rfl)) (fun _ _ _ h => h) (Or.inr ⟨by rfl, rfl⟩) ?_ ?_; rotate_left; · simp only [Act.put, la0, la1, la2, i64_w, i32_w]; rfl
      refine pure_ (i := 20) (N := some 38) (v := ?_) (a' := ?_) #[I,I,I,I,I,I,I,I,I,I,I,I,I,I,I,I,I,I,I,I,I] rfl rfl (any_of HT_.out (by kernel_rfl)) (fun _ _ _ h => h) (Or.inl ⟨by rfl, ?_⟩) ?_ ?_; rotate_left; · intro w'; go_simp; with_reducible rfl
      rotate_left; · simp only [Act.put, la0, la1, la2, i64_w, i32_w]; rfl
      refine done_ (done_of HT_.out (by kernel_rfl)) ?_
      try go_wp2
      go_meet
      case rel => exact ⟨_, (x7_1), (by first | rfl | (refine qa_int ?_; simp <;> omega)), H', ⟨by have := HK1.out; first | omega⟩, ⟨by exact Kd.R_mono HO_5.out (fun _ hk => trivial)⟩, ⟨by exact BK271.out⟩, ⟨by exact BK272.out⟩, ⟨by repeat (first | (with_reducible first | exact HB.out | refine below_set ?_ GE272.out))⟩⟩
    rw [if_neg c13] at H; have c13b0 : decide (x7_1 < (t273.length : Int)) = false := decide_eq_false c13; clear c13
    (first | skip)
    have H' := Aside0.mk H; clear H
    try go_wp2
    have n0_ := Aside0.mk (Kd.R_drew HO_5.out); have n1_ := Aside0.mk (Kd.R_drew HO_6.out); have n2_ := Aside0.mk (blk_drew BK271.out); have n3_ := Aside0.mk (blk_drew BK272.out); have n4_ := Aside0.mk (below_drew1 HB.out); clear HO_5; clear HO_6; clear BK271; clear BK272; clear HB; have HO_5 := n0_; have HO_6 := n1_; have BK271 := n2_; have BK272 := n3_; have HB := n4_; clear n0_ n1_ n2_ n3_ n4_; obtain ⟨Ao27, co27, eo27⟩ := Kd.R_slice HO_5.out
    (first | subst eo27)
    refine start_ (n := 21) (S := fun w' => True) (ds := []) #[O,O,O,O,O,O,O,O,O,O,O,O,O,O,O,O,O,O,O,O,O] (by kernel_rfl) rfl rfl trivial (fun hHeld => ?_); refine with_tabW gb_Encode.tab4 gb_Encode.bits4 (fun HT_ HW_ => ?_)
    generalize wr.drew = w26 at HO_5 HO_6 BK271 BK272 HB hHeld ⊢; refine pure_ (i := 0) (N := some 18) (v := ?_) (a' := ?_) #[I,O,O,O,O,O,O,O,O,O,O,O,O,O,O,O,O,O,O,O,O] rfl rfl (any_of HT_.out (by kernel_rfl)) (fun _ _ _ h => h) (Or.inl ⟨by rfl, ?_⟩) ?_ ?_; rotate_left; · intro w'; go_simp; with_reducible rfl
    rotate_left; · simp only [Act.put, la0, la1, la2, i64_w, i32_w]; rfl
    refine pure_ (i := 1) (N := some 19) (v := ?_) (a' := ?_) #[I,I,O,O,O,O,O,O,O,O,O,O,O,O,O,O,O,O,O,O,O] rfl rfl (any_of HT_.out (by kernel_rfl)) (fun _ _ _ h => h) (Or.inl ⟨by rfl, ?_⟩) ?_ ?_; rotate_left; · intro w'; go_simp; with_reducible rfl
    rotate_left; · simp only [Act.put, la0, la1, la2, i64_w, i32_w]; rfl
    refine pure_ (i := 2) (N := some 20) (v := ?_) (a' := ?_) #[I,I,I,O,O,O,O,O,O,O,O,O,O,O,O,O,O,O,O,O,O] rfl rfl (any_of HT_.out (by kernel_rfl)) (fun _ _ _ h => h) (Or.inl ⟨by rfl, ?_⟩) ?_ ?_; rotate_left; · intro w'; go_simp; with_reducible rfl
    rotate_left; · simp only [Act.put, la0, la1, la2, i64_w, i32_w]; rfl
    refine pure_ (i := 3) (N := some 21) (v := ?_) (a' := ?_) #[I,I,I,I,O,O,O,O,O,O,O,O,O,O,O,O,O,O,O,O,O] rfl rfl (any_of HT_.out (by kernel_rfl)) (fun _ _ _ h => h) (Or.inl ⟨by rfl, ?_⟩) ?_ ?_; rotate_left; · intro w'; go_simp; with_reducible rfl
    rotate_left; · simp only [Act.put, la0, la1, la2, i64_w, i32_w]; rfl
    refine pure_ (i := 4) (N := some 22) (v := ?_) (a' := ?_) #[I,I,I,I,I,O,O,O,O,O,O,O,O,O,O,O,O,O,O,O,O] rfl rfl (any_of HT_.out (by kernel_rfl)) (fun _ _ _ h => h) (Or.inl ⟨by rfl, ?_⟩) ?_ ?_; rotate_left; · intro w'; go_simp; with_reducible rfl
    rotate_left; · simp only [Act.put, la0, la1, la2, i64_w, i32_w]; rfl
    refine pure_ (i := 5) (N := some 23) (v := undef) (a' := ?_) #[I,I,I,I,I,I,O,O,O,O,O,O,O,O,O,O,O,O,O,O,O] rfl rfl (any_of HT_.out (by kernel_rfl)) (fun _ _ _ h => h) (Or.inr ⟨by rfl, rfl⟩) ?_ ?_; rotate_left; · simp only [Act.put, la0, la1, la2, i64_w, i32_w]; rfl
    refine pure_ (i := 6) (N := some 24) (v := undef) (a' := ?_) #[I,I,I,I,I,I,I,O,O,O,O,O,O,O,O,O,O,O,O,O,O] rfl rfl (any_of HT_.out (by kernel_rfl)) (fun _ _ _ h => h) (Or.inr ⟨by rfl, rfl⟩) ?_ ?_; rotate_left; · simp only [Act.put, la0, la1, la2, i64_w, i32_w]; rfl
    refine pure_ (i := 7) (N := some 25) (v := undef) (a' := ?_) #[I,I,I,I,I,I,I,I,O,O,O,O,O,O,O,O,O,O,O,O,O] rfl rfl (any_of HT_.out (by kernel_rfl)) (fun _ _ _ h => h) (Or.inr ⟨by rfl, rfl⟩) ?_ ?_; rotate_left; · simp only [Act.put, la0, la1, la2, i64_w, i32_w]; rfl
    refine pure_ (i := 8) (N := some 26) (v := undef) (a' := ?_) #[I,I,I,I,I,I,I,I,I,O,O,O,O,O,O,O,O,O,O,O,O] rfl rfl (any_of HT_.out (by kernel_rfl)) (fun _ _ _ h => h) (Or.inr ⟨by rfl, rfl⟩) ?_ ?_; rotate_left; · simp only [Act.put, la0, la1, la2, i64_w, i32_w]; rfl
    refine pure_ (i := 9) (N := some 27) (v := ?_) (a' := ?_) #[I,I,I,I,I,I,I,I,I,I,O,O,O,O,O,O,O,O,O,O,O] rfl rfl (any_of HT_.out (by kernel_rfl)) (fun _ _ _ h => h) (Or.inl ⟨by rfl, ?_⟩) ?_ ?_; rotate_left; · intro w'; go_simp; with_reducible rfl
    rotate_left; · simp only [Act.put, la0, la1, la2, i64_w, i32_w]; rfl
    refine pure_ (i := 10) (N := some 28) (v := ?_) (a' := ?_) #[I,I,I,I,I,I,I,I,I,I,I,O,O,O,O,O,O,O,O,O,O] rfl rfl (any_of HT_.out (by kernel_rfl)) (fun _ _ _ h => h) (Or.inl ⟨by rfl, ?_⟩) ?_ ?_; rotate_left; · intro w'; go_simp; with_reducible rfl
    rotate_left; · simp only [Act.put, la0, la1, la2, i64_w, i32_w]; rfl
    refine pure_ (i := 11) (N := some 29) (v := undef) (a' := ?_) #[I,I,I,I,I,I,I,I,I,I,I,I,O,O,O,O,O,O,O,O,O] rfl rfl (any_of HT_.out (by kernel_rfl)) (fun _ _ _ h => h) (Or.inr ⟨by rfl, rfl⟩) ?_ ?_; rotate_left; · simp only [Act.put, la0, la1, la2, i64_w, i32_w]; rfl
    refine pure_ (i := 12) (N := some 30) (v := undef) (a' := ?_) #[I,I,I,I,I,I,I,I,I,I,I,I,I,O,O,O,O,O,O,O,O] rfl rfl (any_of HT_.out (by kernel_rfl)) (fun _ _ _ h => h) (Or.inr ⟨by rfl, rfl⟩) ?_ ?_; rotate_left; · simp only [Act.put, la0, la1, la2, i64_w, i32_w]; rfl
    refine pure_ (i := 13) (N := some 31) (v := undef) (a' := ?_) #[I,I,I,I,I,I,I,I,I,I,I,I,I,I,O,O,O,O,O,O,O] rfl rfl (any_of HT_.out (by kernel_rfl)) (fun _ _ _ h => h) (Or.inr ⟨by rfl, rfl⟩) ?_ ?_; rotate_left; · simp only [Act.put, la0, la1, la2, i64_w, i32_w]; rfl
    refine pure_ (i := 14) (N := some 32) (v := undef) (a' := ?_) #[I,I,I,I,I,I,I,I,I,I,I,I,I,I,I,O,O,O,O,O,O] rfl rfl (any_of HT_.out (by kernel_rfl)) (fun _ _ _ h => h) (Or.inr ⟨by rfl, rfl⟩) ?_ ?_; rotate_left; · simp only [Act.put, la0, la1, la2, i64_w, i32_w]; rfl
    refine pure_ (i := 15) (N := some 33) (v := undef) (a' := ?_) #[I,I,I,I,I,I,I,I,I,I,I,I,I,I,I,I,O,O,O,O,O] rfl rfl (any_of HT_.out (by kernel_rfl)) (fun _ _ _ h => h) (Or.inr ⟨by rfl, rfl⟩) ?_ ?_; rotate_left; · simp only [Act.put, la0, la1, la2, i64_w, i32_w]; rfl
    refine pure_ (i := 16) (N := some 34) (v := undef) (a' := ?_) #[I,I,I,I,I,I,I,I,I,I,I,I,I,I,I,I,I,O,O,O,O] rfl rfl (any_of HT_.out (by kernel_rfl)) (fun _ _ _ h => h) (Or.inr ⟨by rfl, rfl⟩) ?_ ?_; rotate_left; · simp only [Act.put, la0, la1, la2, i64_w, i32_w]; rfl
    refine pure_ (i := 17) (N := some 35) (v := undef) (a' := ?_) #[I,I,I,I,I,I,I,I,I,I,I,I,I,I,I,I,I,I,O,O,O] rfl rfl (any_of HT_.out (by kernel_rfl)) (fun _ _ _ h => h) (Or.inr ⟨by rfl, rfl⟩) ?_ ?_; rotate_left; · simp only [Act.put, la0, la1, la2, i64_w, i32_w]; rfl
    refine pure_ (i := 18) (N := some 36) (v := undef) (a' := ?_) #[I,I,I,I,I,I,I,I,I,I,I,I,I,I,I,I,I,I,I,O,O] rfl rfl (any_of HT_.out (by kernel_rfl)) (fun _ _ _ h => h) (Or.inr ⟨by rfl, rfl⟩) ?_ ?_; rotate_left; · simp only [Act.put, la0, la1, la2, i64_w, i32_w]; rfl
    refine pure_ (i := 19) (N := some 37) (v := undef) (a' := ?_) #[I,I,I,I,I,I,I,I,I,I,I,I,I,I,I,I,I,I,I,I,O] rfl rfl (any_of HT_.out (by kernel_rfl)) (fun _ _ _ h => h) (Or.inr ⟨by rfl, rfl⟩) ?_ ?_; rotate_left; · simp only [Act.put, la0, la1, la2, i64_w, i32_w]; rfl
    refine pure_ (i := 20) (N := some 38) (v := ?_) (a' := ?_) #[I,I,I,I,I,I,I,I,I,I,I,I,I,I,I,I,I,I,I,I,I] rfl rfl (any_of HT_.out (by kernel_rfl)) (fun _ _ _ h => h) (Or.inl ⟨by rfl, ?_⟩) ?_ ?_; rotate_left; · intro w'; go_simp; with_reducible rfl
    rotate_left; · simp only [Act.put, la0, la1, la2, i64_w, i32_w]; rfl
    refine done_ (done_of HT_.out (by kernel_rfl)) ?_
    try go_wp2
    go_meet
    case rel => exact ⟨_, (x7_1), (by first | rfl | (refine qa_int ?_; simp <;> omega)), H', ⟨by have := HK1.out; first | omega⟩, ⟨by exact Kd.R_mono HO_5.out (fun _ hk => trivial)⟩, ⟨by exact BK271.out⟩, ⟨by exact BK272.out⟩, ⟨by repeat (first | (with_reducible first | exact HB.out | refine below_set ?_ GE272.out))⟩⟩
 case rest =>
  clear HC5
  try clear c1
  try clear p2
  try clear q2
  try clear hx2
  try clear p6
  try clear c13
  try clear c13b0
  try clear c14
  try clear c14b0
  try clear c15
  try clear c16
  try clear c16b0
  try clear c16b1
  try clear p27
  try clear q27
  try clear hx27
  try clear hx279_0
  try clear hx280_0
  try clear p279
  try clear p280
  try clear q279
  try clear q280
  obtain ⟨kq, x7_4, rfl, HA, HJ4, HO_5, BK271, BK272, HB⟩ := hcut
  cases kq with
  | zero => exact absurd HA.out (by simp [gb_Encode.j1])
  | succ kj4 =>
   have H := HA.out; clear HA
   simp only [gb_Encode.j1] at H
   have HC28 := Aside0.mk H; clear H; have hnb29 := NB272_271.out; have hnc29 := NB271_272.out; have hcz30_0 : wc.cell? ⟨gb272, 0, none⟩ = some (.int .u64 a1_0) := (blk_cell BK272.out 0).trans rfl; have hcz30_1 : wc.cell? ⟨gb272, 1, none⟩ = some (.int .u64 a1_1) := (blk_cell BK272.out 1).trans rfl; have hcz30_2 : wc.cell? ⟨gb272, 2, none⟩ = some (.bool a1_2) := (blk_cell BK272.out 2).trans rfl; have hcz30_3 : wc.cell? ⟨gb272, 3, none⟩ = some (.int .u32 a1_3) := (blk_cell BK272.out 3).trans rfl; have hcz30_4 : wc.cell? ⟨gb272, 4, none⟩ = some (.int .u8 a1_4) := (blk_cell BK272.out 4).trans rfl; have hcz30_5 : wc.cell? ⟨gb272, 5, none⟩ = some (.int .i64 a1_5) := (blk_cell BK272.out 5).trans rfl; have hcz30_6 : wc.cell? ⟨gb272, 6, none⟩ = some (.int .u16 a1_6) := (blk_cell BK272.out 6).trans rfl; have hcz30_7 : wc.cell? ⟨gb272, 7, none⟩ = some (.int .u16 a1_7) := (blk_cell BK272.out 7).trans rfl; have hfz30_0 := blk_frozen BK272.out 0; have hfz30_1 := blk_frozen BK272.out 1; have hfz30_2 := blk_frozen BK272.out 2; have hfz30_3 := blk_frozen BK272.out 3; have hfz30_4 := blk_frozen BK272.out 4; have hfz30_5 := blk_frozen BK272.out 5; have hfz30_6 := blk_frozen BK272.out 6; have hfz30_7 := blk_frozen BK272.out 7
   go_upto_if 52 with (fail)
   go_cut [8] (fun v8 wc => ∃ (kq : Nat) (x8_27 : Int), v8 = .int .u64 x8_27 ∧ Aside0 (gb_Encode.j2 kq t273 x7_4 x8_27 a0_0 a0_1 a0_2 a0_3 a0_4 a0_5 a0_6 a0_7 a1_0 a1_1 a1_2 a1_3 a1_4 a1_5 a1_6 a1_7 = some r) ∧ Aside0 (kq ≤ kj4) ∧ Aside0 (Kd.R (Kd.int .u8) 5 wc w.heap.size (fun _ => True) v274 t273) ∧ Aside0 (wc.heap[gb271]? = some (.cells #[.int .u64 a0_0, .int .u64 a0_1, .bool a0_2, .int .u32 a0_3, .int .u8 a0_4, .int .i64 a0_5, .int .u16 a0_6, .int .u16 a0_7] 31 (0, 0))) ∧ Aside0 (wc.heap[gb272]? = some (.cells #[.int .u64 a1_0, .int .u64 a1_1, .bool a1_2, .int .u32 a1_3, .int .u8 a1_4, .int .i64 a1_5, .int .u16 a1_6, .int .u16 a1_7] 31 (0, 0))) ∧ Aside0 (Below w.heap.size w wc))
   case first =>
    have H := HC28.out; clear HC28
    by_cases c31 : a1_2 = true
    · subst c31
      have H1 : (gb_Encode.j2 kj4 t273 x7_4 (IntKind.u64.wrap ((IntKind.u64.wrap ((IntKind.u64.wrap ((IntKind.u64.wrap (a1_4)) * 16)) + (IntKind.u64.wrap ((IntKind.u64.wrap (x7_4)) * 2)))) + 1)) a0_0 a0_1 a0_2 a0_3 a0_4 a0_5 a0_6 a0_7 a1_0 a1_1 true a1_3 a1_4 a1_5 a1_6 a1_7) = some r := by rw [if_pos rfl] at H; exact H
      clear H; have H := H1; clear H1; have H' := Aside0.mk H; clear H; go_wp2; go_meet
      case rel => exact ⟨_, (IntKind.u64.wrap ((IntKind.u64.wrap ((IntKind.u64.wrap ((IntKind.u64.wrap (a1_4)) * 16)) + (IntKind.u64.wrap ((IntKind.u64.wrap (x7_4)) * 2)))) + 1)), (by first | rfl | (refine qa_int ?_; simp <;> omega)), H', ⟨by have := HJ4.out; first | omega⟩, ⟨by exact HO_5.out⟩, ⟨by exact BK271.out⟩, ⟨by exact BK272.out⟩, ⟨by repeat (first | (with_reducible first | exact HB.out | refine below_set ?_ GE272.out))⟩⟩
    replace c31 := Bool.eq_false_iff.mpr c31; subst c31
    have H1 : (gb_Encode.j2 kj4 t273 x7_4 (IntKind.u64.wrap ((IntKind.u64.wrap ((IntKind.u64.wrap (a1_4)) * 16)) + (IntKind.u64.wrap ((IntKind.u64.wrap (x7_4)) * 2)))) a0_0 a0_1 a0_2 a0_3 a0_4 a0_5 a0_6 a0_7 a1_0 a1_1 false a1_3 a1_4 a1_5 a1_6 a1_7) = some r := by rw [if_neg (show ¬ (false = true) by decide)] at H; exact H
    clear H; have H := H1; clear H1; have H' := Aside0.mk H; clear H; go_wp2; go_meet
    case rel => exact ⟨_, (IntKind.u64.wrap ((IntKind.u64.wrap ((IntKind.u64.wrap (a1_4)) * 16)) + (IntKind.u64.wrap ((IntKind.u64.wrap (x7_4)) * 2)))), (by first | rfl | (refine qa_int ?_; simp <;> omega)), H', ⟨by have := HJ4.out; first | omega⟩, ⟨by exact HO_5.out⟩, ⟨by exact BK271.out⟩, ⟨by exact BK272.out⟩, ⟨by repeat (first | (with_reducible first | exact HB.out | refine below_set ?_ GE272.out))⟩⟩
   case rest =>
    clear HC28
    try clear c1
    try clear c2
    try clear p2
    try clear q2
    try clear hx2
    try clear c3
    try clear p6
    try clear c13
    try clear c13b0
    try clear c14
    try clear c14b0
    try clear c15
    try clear c16
    try clear c16b0
    try clear c16b1
    try clear p27
    try clear q27
    try clear hx27
    try clear p28
    try clear q28
    try clear hx28
    try clear c29
    try clear c31
    try clear hcz30_0
    try clear hcz30_1
    try clear hcz30_2
    try clear hcz30_3
    try clear hcz30_4
    try clear hcz30_5
    try clear hcz30_6
    try clear hcz30_7
    try clear hfz30_0
    try clear hfz30_1
    try clear hfz30_2
    try clear hfz30_3
    try clear hfz30_4
    try clear hfz30_5
    try clear hfz30_6
    try clear hfz30_7
    try clear hx279_0
    try clear hx280_0
    try clear p2
    try clear p27
    try clear p279
    try clear p280
    try clear p6
    try clear q2
    try clear q27
    try clear q279
    try clear q280
    obtain ⟨kq, x8_27, rfl, HA, HJ27, HO_5, BK271, BK272, HB⟩ := hcut
    cases kq with
    | zero => exact absurd HA.out (by simp [gb_Encode.j2])
    | succ kj27 =>
     have H := HA.out; clear HA
     simp only [gb_Encode.j2] at H
     obtain ⟨y281, hy281⟩ : ∃ y_ : List Int, y_ = (([IntKind.u64.wrap (a1_1 - a0_1), x8_27] : List Int)) := ⟨_, rfl⟩
     replace H : ((ga_Coins.f kj27 y281).bind fun t284 => (if 0 ≤ x7_4 then (if x7_4 ≤ (t273.length : Int) then ((some (t273.drop (x7_4 : Int).toNat : List Int)).bind fun y287 => (if t284.length + y287.length < 140737488355328 then ((some (t284 ++ y287 : List Int)).bind fun y291 => (if a1_2 = true then (some y291) else ((gb_zig.f (wrap64 (a1_5 - a0_5))).bind fun t294 => ((gb_zig.f (wrap64 ((wrap64 (a1_6)) - (wrap64 (a0_6))))).bind fun t295 => ((ga_Coins.f kj27 (([t294, t295, Int.tmod (IntKind.u64.wrap ((IntKind.u64.wrap ((IntKind.u64.wrap (a1_7)) + 65536)) - (IntKind.u64.wrap (a0_7)))) 65536] : List Int))).bind fun t299 => (if y291.length + t299.length < 140737488355328 then (some (y291 ++ t299)) else (none))))))) else (none))) else (none)) else (none))) = some r := by first | (rw [hy281]; with_reducible exact H) | exact H
     have Ny281 := Aside0.mk hy281; clear hy281; replace H := Option.bind_eq_some_iff.mp H; obtain ⟨t284, A320, H⟩ := H; replace H : (if 0 ≤ x7_4 then (if x7_4 ≤ (t273.length : Int) then ((some (t273.drop (x7_4 : Int).toNat : List Int)).bind fun y287 => (if t284.length + y287.length < 140737488355328 then ((some (t284 ++ y287 : List Int)).bind fun y291 => (if a1_2 = true then (some y291) else ((gb_zig.f (wrap64 (a1_5 - a0_5))).bind fun t294 => ((gb_zig.f (wrap64 ((wrap64 (a1_6)) - (wrap64 (a0_6))))).bind fun t295 => ((ga_Coins.f kj27 (([t294, t295, Int.tmod (IntKind.u64.wrap ((IntKind.u64.wrap ((IntKind.u64.wrap (a1_7)) + 65536)) - (IntKind.u64.wrap (a0_7)))) 65536] : List Int))).bind fun t299 => (if y291.length + t299.length < 140737488355328 then (some (y291 ++ t299)) else (none))))))) else (none))) else (none)) else (none)) = some r := H; have A32 := Aside0.mk A320; clear A320
     by_cases c33 : 0 ≤ x7_4
     · rw [if_pos c33] at H
       have c33b0 := eq_true c33; have c33b1 : decide (0 ≤ x7_4) = true := decide_eq_true c33; clear c33
       by_cases c34 : x7_4 ≤ (t273.length : Int)
       · rw [if_pos c34] at H
         have c34b0 := eq_true c34; have c34b1 : decide (x7_4 ≤ (t273.length : Int)) = true := decide_eq_true c34; clear c34
         obtain ⟨y287, hy287⟩ : ∃ y_ : List Int, y_ = (t273.drop (x7_4 : Int).toNat) := ⟨_, rfl⟩
         replace H : (if t284.length + y287.length < 140737488355328 then ((some (t284 ++ y287 : List Int)).bind fun y291 => (if a1_2 = true then (some y291) else ((gb_zig.f (wrap64 (a1_5 - a0_5))).bind fun t294 => ((gb_zig.f (wrap64 ((wrap64 (a1_6)) - (wrap64 (a0_6))))).bind fun t295 => ((ga_Coins.f kj27 (([t294, t295, Int.tmod (IntKind.u64.wrap ((IntKind.u64.wrap ((IntKind.u64.wrap (a1_7)) + 65536)) - (IntKind.u64.wrap (a0_7)))) 65536] : List Int))).bind fun t299 => (if y291.length + t299.length < 140737488355328 then (some (y291 ++ t299)) else (none))))))) else (none)) = some r := by first | (have H2_ := (Option.bind_some _ _).symm.trans H; rw [hy287]; with_reducible exact H2_) | exact H
         have Ny287 := Aside0.mk hy287; clear hy287
         by_cases c35 : t284.length + y287.length < 140737488355328
         · rw [if_pos c35] at H
           have LMc35 := Aside0.mk c35; clear c35
           obtain ⟨y291, hy291⟩ : ∃ y_ : List Int, y_ = (t284 ++ y287) := ⟨_, rfl⟩
           replace H : (if a1_2 = true then (some y291) else ((gb_zig.f (wrap64 (a1_5 - a0_5))).bind fun t294 => ((gb_zig.f (wrap64 ((wrap64 (a1_6)) - (wrap64 (a0_6))))).bind fun t295 => ((ga_Coins.f kj27 (([t294, t295, Int.tmod (IntKind.u64.wrap ((IntKind.u64.wrap ((IntKind.u64.wrap (a1_7)) + 65536)) - (IntKind.u64.wrap (a0_7)))) 65536] : List Int))).bind fun t299 => (if y291.length + t299.length < 140737488355328 then (some (y291 ++ t299)) else (none)))))) = some r := by first | (have H2_ := (Option.bind_some _ _).symm.trans H; rw [hy291]; with_reducible exact H2_) | exact H
           have Ny291 := Aside0.mk hy291; clear hy291
           by_cases c36 : a1_2 = true
           · subst c36
             have H1 : (some y291) = some r := by rw [if_pos rfl] at H; exact H
             clear H; have H := H1; clear H1; obtain rfl := Option.some.inj H
             simp only [Option.some.injEq, Prod.mk.injEq] at H
             obtain ⟨rfl⟩ := H; have hnb37 := NB272_271.out; have hnc37 := NB271_272.out; have hcz38_0 : wc.cell? ⟨gb272, 0, none⟩ = some (.int .u64 a1_0) := (blk_cell BK272.out 0).trans rfl; have hcz38_1 : wc.cell? ⟨gb272, 1, none⟩ = some (.int .u64 a1_1) := (blk_cell BK272.out 1).trans rfl; have hcz38_2 : wc.cell? ⟨gb272, 2, none⟩ = some (.bool true) := (blk_cell BK272.out 2).trans rfl; have hcz38_3 : wc.cell? ⟨gb272, 3, none⟩ = some (.int .u32 a1_3) := (blk_cell BK272.out 3).trans rfl; have hcz38_4 : wc.cell? ⟨gb272, 4, none⟩ = some (.int .u8 a1_4) := (blk_cell BK272.out 4).trans rfl; have hcz38_5 : wc.cell? ⟨gb272, 5, none⟩ = some (.int .i64 a1_5) := (blk_cell BK272.out 5).trans rfl; have hcz38_6 : wc.cell? ⟨gb272, 6, none⟩ = some (.int .u16 a1_6) := (blk_cell BK272.out 6).trans rfl; have hcz38_7 : wc.cell? ⟨gb272, 7, none⟩ = some (.int .u16 a1_7) := (blk_cell BK272.out 7).trans rfl; have hfz38_0 := blk_frozen BK272.out 0; have hfz38_1 := blk_frozen BK272.out 1; have hfz38_2 := blk_frozen BK272.out 2; have hfz38_3 := blk_frozen BK272.out 3; have hfz38_4 := blk_frozen BK272.out 4; have hfz38_5 := blk_frozen BK272.out 5; have hfz38_6 := blk_frozen BK272.out 6; have hfz38_7 := blk_frozen BK272.out 7; have hcz39_0 : wc.cell? ⟨gb271, 0, none⟩ = some (.int .u64 a0_0) := (blk_cell BK271.out 0).trans rfl; have hcz39_1 : wc.cell? ⟨gb271, 1, none⟩ = some (.int .u64 a0_1) := (blk_cell BK271.out 1).trans rfl; have hcz39_2 : wc.cell? ⟨gb271, 2, none⟩ = some (.bool a0_2) := (blk_cell BK271.out 2).trans rfl; have hcz39_3 : wc.cell? ⟨gb271, 3, none⟩ = some (.int .u32 a0_3) := (blk_cell BK271.out 3).trans rfl; have hcz39_4 : wc.cell? ⟨gb271, 4, none⟩ = some (.int .u8 a0_4) := (blk_cell BK271.out 4).trans rfl; have hcz39_5 : wc.cell? ⟨gb271, 5, none⟩ = some (.int .i64 a0_5) := (blk_cell BK271.out 5).trans rfl; have hcz39_6 : wc.cell? ⟨gb271, 6, none⟩ = some (.int .u16 a0_6) := (blk_cell BK271.out 6).trans rfl; have hcz39_7 : wc.cell? ⟨gb271, 7, none⟩ = some (.int .u16 a0_7) := (blk_cell BK271.out 7).trans rfl; have hfz39_0 := blk_frozen BK271.out 0; have hfz39_1 := blk_frozen BK271.out 1; have hfz39_2 := blk_frozen BK271.out 2; have hfz39_3 := blk_frozen BK271.out 3; have hfz39_4 := blk_frozen BK271.out 4; have hfz39_5 := blk_frozen BK271.out 5; have hfz39_6 := blk_frozen BK271.out 6; have hfz39_7 := blk_frozen BK271.out 7
             go_wp2_with (first | ((with_reducible refine gate_dst (N := 61) rfl ?_); (try (refine gate_guard (by rfl) ?_; dsimp only)); refine Kd.R_lit (Kd.int .u64) _ 22 ?hg (N := 61) ?hd (xs := ([IntKind.u64.wrap (a1_1 - a0_1), x8_27] : List Int)) (inner := [.int .u64 (IntKind.u64.wrap (a1_1 - a0_1)), .int .u64 x8_27]) (ok := fun _ => True) (okp := fun _ => True) ?hr ?hp (fun _ hk => hk) trivial (Below.refl _ _) (Nat.le_refl _) (by simp) ?_; (case hd => rfl); (case hg => rfl); (case hr => first | (go_simp; done)); (case hp => exact (Reps.one (show Kd.M (Kd.int .u64) _ _ _ (IntKind.u64.wrap (a1_1 - a0_1)) [.int .u64 (IntKind.u64.wrap (a1_1 - a0_1))] from rfl) (Reps.one (show Kd.M (Kd.int .u64) _ _ _ x8_27 [.int .u64 x8_27] from rfl) (Reps.none _ _)))); intro v282 w40 ho41 hb hg_ hnew_; clear hg_ hnew_; (first | rw [← Ny281.out] at ho41); have n0_ := Aside0.mk (Kd.R_below HO_5.out hb); have n1_ := Aside0.mk (Kd.R_lower ho41 (below_size (by repeat (first | (with_reducible first | exact HB.out | refine below_set ?_ GE272.out))))); have n2_ := Aside0.mk (blk_below BK271.out hb); have n3_ := Aside0.mk (blk_below BK272.out hb); have n4_ := Aside0.mk (below_step (by repeat (first | (with_reducible first | exact HB.out | refine below_set ?_ GE272.out))) hb); clear HO_5 BK271 BK272 HB; revert n0_ n1_ n2_ n3_ n4_; intro HO_5 HO283 BK271 BK272 HB; clear hb ho41; obtain ⟨Ao42, co42, eo42⟩ := Kd.R_slice HO283.out; subst eo42) | ((with_reducible refine gate_callee (f := 46) rfl ?_); refine goesL_ (some 62) rfl rfl Try.func46 (by kernel_rfl) rfl #[.slice Ao42 y281.length co42] rfl (by (try simp only [List.map_toArray, List.map_cons, List.map_nil]); first | rfl | (refine qa_arr ?_; (repeat' (first | rfl | refine qa_cons ?_ ?_ | refine qa_int ?_ | refine qa_agg ?_ | refine qa_arr ?_ | omega)); done)) ?_; (with_reducible refine (ga_Coins.calls kj27 _ _ y281 t284 _ ?side1 ?side2 A32.out).mono ?_); (case side1 => repeat (first | exact (Kd.R_reads' HO283.out).2.2 | (with_reducible refine Kd.C_drew ?_))); (case side2 => exact (Kd.R_reads' HO283.out).2.1); rintro e w43 ⟨v285, rfl, ho0, hb⟩; refine ⟨_, rfl, ?_⟩; have n0_ := Aside0.mk (Kd.R_elder' HO_5.out (Kd.R_base ho0) hb); have n1_ := Aside0.mk (Kd.R_below HO283.out hb); have n2_ := Aside0.mk (Kd.R_lower (Kd.R_new' ho0 (Kd.R_lt HO_5.out)) (below_size (by repeat (first | (with_reducible first | exact HB.out | refine below_set ?_ GE272.out))))); have n3_ := Aside0.mk (blk_below BK271.out hb); have n4_ := Aside0.mk (blk_below BK272.out hb); have n5_ := Aside0.mk (below_step (by repeat (first | (with_reducible first | exact HB.out | refine below_set ?_ GE272.out))) hb); clear HO_5 HO283 BK271 BK272 HB; revert n0_ n1_ n2_ n3_ n4_ n5_; intro HO_5 HO283 HO286 BK271 BK272 HB; (try clear hb); (try clear hb2); (try clear hk); (try clear hi); (try clear ho0); obtain ⟨Ao45, co45, eo45⟩ := Kd.R_slice HO_5.out; subst eo45; have q44 : (x7_4 : Int) ≤ ((t273.length : Int) : Int) := of_decide_eq_true (by with_reducible assumption); obtain ⟨i044, hi044, _, hsz44, _⟩ := info_parts info5; have hroom44 : t273.length ≤ co45 := (Kd.R_reads' HO_5.out).2.1; have hC44 : Kd.C (Kd.int .u8) _ Ao45 t273.length t273 := (Kd.R_reads' HO_5.out).2.2; have q044 : (0 : Int) ≤ (x7_4 : Int) := of_decide_eq_true (by with_reducible assumption); have hcut44 := cut_from (P := Try.prog) 33 5 .i64 Try.underlying33 hi044 1 hsz44 Ao45 t273.length co45 x7_4 q044 q44; have hr44 := Kd.C_drop (m := (x7_4 : Int).toNat) (c := co45) hC44 (by omega) hroom44; obtain ⟨A44, hA44⟩ : ∃ A1, A1 = (if co45 = (x7_4 : Int).toNat then Ao45 else (Ao45 : Option Addr).map (·.add ((x7_4 : Int).toNat * 1))) := ⟨_, rfl⟩; obtain ⟨c44, hc44⟩ : ∃ c1, c1 = co45 - (x7_4 : Int).toNat := ⟨_, rfl⟩; have hy44 : y287.length = t273.length - (x7_4 : Int).toNat := (by rw [Ny287.out, List.length_drop] <;> omega); rw [show (t273).drop (x7_4 : Int).toNat = y287 from Ny287.out.symm] at hr44; replace hr44 : Kd.C (Kd.int .u8) _ A44 y287.length y287 := (by rw [hA44]; exact hr44); rw [← hy44, ← hA44, ← hc44] at hcut44; have HR290 := Aside0.mk hr44; have HC290 := Aside0.mk (show y287.length ≤ c44 from by rw [hy44, hc44]; exact Nat.sub_le_sub_right hroom44 _); clear hr44 hC44 hroom44 hi044 hsz44 hc44; have KY44 := Aside0.mk hy44; have KA44 := Aside0.mk hA44; clear hy44 hA44; have KL44 := Aside0.mk (show (x7_4 : Int).toNat ≤ t273.length from by omega); replace q44 := eq_true q44) | ((with_reducible refine gate_builtin (b := .append) (xs := #[.tmp 63, .tmp 66]) rfl ?_); (try (refine gate_guard (by rfl) ?_; dsimp only)); at_builtin; refine Kd.R_append_rows (Kd.int .u8) (w0 := w) w.heap.size rfl (.tmp 63) (.tmp 66) 33 5 (.int .u8 0) 1 rfl Try.underlying33 info5 rfl (by decide) (by omega) v285 t284 y287 _ _ _ (fun k_ => some k_ ≠ (.slice Ao45 t273.length co45 : Value).ownBlock) (fun _ => False) rfl rfl ?aO ?aR (fun _ _ h => h) (fun _ h => h.elim) ?aF ?aB ?aS ?aL ?_; (case aR => repeat (first | exact (by repeat (first | exact HR290.out)) | (with_reducible refine Kd.C_drew ?_))); (case aB => exact (by repeat (first | (with_reducible first | exact HB.out | refine below_set ?_ GE272.out)))); (case aF => exact (fun k_ hk => Kd.fresh' (Kd.R_lt HO_5.out) k_ hk)); (case aO => exact (by exact Kd.R_mono HO286.out (fun _ hk => hk.2))); (case aS => exact (below_size (by repeat (first | (with_reducible first | exact HB.out | refine below_set ?_ GE272.out))))); (case aL => have := LMc35.out; omega); intro v292 w46 ho hb hg hat; rw [← Ny291.out] at ho; have n0_ := Aside0.mk (Kd.R_after (ok := (fun _ => True)) HO_5.out hg hat); have n1_ := Aside0.mk (blk_grown BK271.out hg (Kd.R_ne HO286.out BK271.out (by decide))); have n2_ := Aside0.mk (blk_grown BK272.out hg (Kd.R_ne HO286.out BK272.out (by decide))); have n3_ := Aside0.mk (Kd.R_over' HO283.out (Kd.R_typed HO286.out) (by decide) hg); have n4_ := Aside0.mk (hb); have n5_ := Aside0.mk ((show Kd.C (Kd.int .u8) w46 A44 y287.length y287 from by rw [Ny287.out, KA44.out]; exact Kd.C_drop (m := (x7_4 : Int).toNat) (c := co45) ((Kd.R_reads' (Kd.R_after (ok := (fun _ => True)) HO_5.out hg hat)).2.2) KL44.out ((Kd.R_reads' (Kd.R_after (ok := (fun _ => True)) HO_5.out hg hat)).2.1))); have n6_ := Aside0.mk (ho); clear HO_5 BK271 BK272 HO283 HB HR290 HO286; revert n0_ n1_ n2_ n3_ n4_ n5_ n6_; intro HO_5 BK271 BK272 HO283 HB HR290 HO293; clear ho hb hg hat; have hcz47_0 : w46.cell? ⟨gb272, 0, none⟩ = some (.int .u64 a1_0) := (blk_cell BK272.out 0).trans rfl; have hcz47_1 : w46.cell? ⟨gb272, 1, none⟩ = some (.int .u64 a1_1) := (blk_cell BK272.out 1).trans rfl; have hcz47_2 : w46.cell? ⟨gb272, 2, none⟩ = some (.bool true) := (blk_cell BK272.out 2).trans rfl; have hcz47_3 : w46.cell? ⟨gb272, 3, none⟩ = some (.int .u32 a1_3) := (blk_cell BK272.out 3).trans rfl; have hcz47_4 : w46.cell? ⟨gb272, 4, none⟩ = some (.int .u8 a1_4) := (blk_cell BK272.out 4).trans rfl; have hcz47_5 : w46.cell? ⟨gb272, 5, none⟩ = some (.int .i64 a1_5) := (blk_cell BK272.out 5).trans rfl; have hcz47_6 : w46.cell? ⟨gb272, 6, none⟩ = some (.int .u16 a1_6) := (blk_cell BK272.out 6).trans rfl; have hcz47_7 : w46.cell? ⟨gb272, 7, none⟩ = some (.int .u16 a1_7) := (blk_cell BK272.out 7).trans rfl; have hfz47_0 := blk_frozen BK272.out 0; have hfz47_1 := blk_frozen BK272.out 1; have hfz47_2 := blk_frozen BK272.out 2; have hfz47_3 := blk_frozen BK272.out 3; have hfz47_4 := blk_frozen BK272.out 4; have hfz47_5 := blk_frozen BK272.out 5; have hfz47_6 := blk_frozen BK272.out 6; have hfz47_7 := blk_frozen BK272.out 7))
             go_ret; exact ⟨_, by first | rfl | (simp [*, errW_none, errW_some] <;> rfl), by exact Kd.R_mono HO293.out (fun _ hk => trivial), by repeat (first | (with_reducible first | exact HB.out | refine below_set ?_ GE272.out))⟩
           replace c36 := Bool.eq_false_iff.mpr c36; subst c36
           have H1 : ((gb_zig.f (wrap64 (a1_5 - a0_5))).bind fun t294 => ((gb_zig.f (wrap64 ((wrap64 (a1_6)) - (wrap64 (a0_6))))).bind fun t295 => ((ga_Coins.f kj27 (([t294, t295, Int.tmod (IntKind.u64.wrap ((IntKind.u64.wrap ((IntKind.u64.wrap (a1_7)) + 65536)) - (IntKind.u64.wrap (a0_7)))) 65536] : List Int))).bind fun t299 => (if y291.length + t299.length < 140737488355328 then (some (y291 ++ t299)) else (none))))) = some r := by rw [if_neg (show ¬ (false = true) by decide)] at H; exact H
           clear H; have H := H1; clear H1; replace H := Option.bind_eq_some_iff.mp H; obtain ⟨t294, A480, H⟩ := H; replace H : ((gb_zig.f (wrap64 ((wrap64 (a1_6)) - (wrap64 (a0_6))))).bind fun t295 => ((ga_Coins.f kj27 (([t294, t295, Int.tmod (IntKind.u64.wrap ((IntKind.u64.wrap ((IntKind.u64.wrap (a1_7)) + 65536)) - (IntKind.u64.wrap (a0_7)))) 65536] : List Int))).bind fun t299 => (if y291.length + t299.length < 140737488355328 then (some (y291 ++ t299)) else (none)))) = some r := H; have A48 := Aside0.mk A480; clear A480; replace H := Option.bind_eq_some_iff.mp H; obtain ⟨t295, A490, H⟩ := H; replace H : ((ga_Coins.f kj27 (([t294, t295, Int.tmod (IntKind.u64.wrap ((IntKind.u64.wrap ((IntKind.u64.wrap (a1_7)) + 65536)) - (IntKind.u64.wrap (a0_7)))) 65536] : List Int))).bind fun t299 => (if y291.length + t299.length < 140737488355328 then (some (y291 ++ t299)) else (none))) = some r := H; have A49 := Aside0.mk A490; clear A490
           obtain ⟨y296, hy296⟩ : ∃ y_ : List Int, y_ = (([t294, t295, Int.tmod (IntKind.u64.wrap ((IntKind.u64.wrap ((IntKind.u64.wrap (a1_7)) + 65536)) - (IntKind.u64.wrap (a0_7)))) 65536] : List Int)) := ⟨_, rfl⟩
           replace H : ((ga_Coins.f kj27 y296).bind fun t299 => (if y291.length + t299.length < 140737488355328 then (some (y291 ++ t299)) else (none))) = some r := by first | (rw [hy296]; with_reducible exact H) | exact H
           have Ny296 := Aside0.mk hy296; clear hy296; replace H := Option.bind_eq_some_iff.mp H; obtain ⟨t299, A500, H⟩ := H; replace H : (if y291.length + t299.length < 140737488355328 then (some (y291 ++ t299)) else (none)) = some r := H; have A50 := Aside0.mk A500; clear A500
           by_cases c51 : y291.length + t299.length < 140737488355328
           · rw [if_pos c51] at H
             have LMc51 := Aside0.mk c51; clear c51
             obtain ⟨y302, hy302⟩ : ∃ y_ : List Int, y_ = (y291 ++ t299) := ⟨_, rfl⟩
             replace H : (some y302) = some r := by first | (rw [hy302]; with_reducible exact H) | exact H
             have Ny302 := Aside0.mk hy302; clear hy302; obtain rfl := Option.some.inj H
             simp only [Option.some.injEq, Prod.mk.injEq] at H
             obtain ⟨rfl⟩ := H; have hnb52 := NB272_271.out; have hnc52 := NB271_272.out; have hcz53_0 : wc.cell? ⟨gb272, 0, none⟩ = some (.int .u64 a1_0) := (blk_cell BK272.out 0).trans rfl; have hcz53_1 : wc.cell? ⟨gb272, 1, none⟩ = some (.int .u64 a1_1) := (blk_cell BK272.out 1).trans rfl; have hcz53_2 : wc.cell? ⟨gb272, 2, none⟩ = some (.bool false) := (blk_cell BK272.out 2).trans rfl; have hcz53_3 : wc.cell? ⟨gb272, 3, none⟩ = some (.int .u32 a1_3) := (blk_cell BK272.out 3).trans rfl; have hcz53_4 : wc.cell? ⟨gb272, 4, none⟩ = some (.int .u8 a1_4) := (blk_cell BK272.out 4).trans rfl; have hcz53_5 : wc.cell? ⟨gb272, 5, none⟩ = some (.int .i64 a1_5) := (blk_cell BK272.out 5).trans rfl; have hcz53_6 : wc.cell? ⟨gb272, 6, none⟩ = some (.int .u16 a1_6) := (blk_cell BK272.out 6).trans rfl; have hcz53_7 : wc.cell? ⟨gb272, 7, none⟩ = some (.int .u16 a1_7) := (blk_cell BK272.out 7).trans rfl; have hfz53_0 := blk_frozen BK272.out 0; have hfz53_1 := blk_frozen BK272.out 1; have hfz53_2 := blk_frozen BK272.out 2; have hfz53_3 := blk_frozen BK272.out 3; have hfz53_4 := blk_frozen BK272.out 4; have hfz53_5 := blk_frozen BK272.out 5; have hfz53_6 := blk_frozen BK272.out 6; have hfz53_7 := blk_frozen BK272.out 7; have hcz54_0 : wc.cell? ⟨gb271, 0, none⟩ = some (.int .u64 a0_0) := (blk_cell BK271.out 0).trans rfl; have hcz54_1 : wc.cell? ⟨gb271, 1, none⟩ = some (.int .u64 a0_1) := (blk_cell BK271.out 1).trans rfl; have hcz54_2 : wc.cell? ⟨gb271, 2, none⟩ = some (.bool a0_2) := (blk_cell BK271.out 2).trans rfl; have hcz54_3 : wc.cell? ⟨gb271, 3, none⟩ = some (.int .u32 a0_3) := (blk_cell BK271.out 3).trans rfl; have hcz54_4 : wc.cell? ⟨gb271, 4, none⟩ = some (.int .u8 a0_4) := (blk_cell BK271.out 4).trans rfl; have hcz54_5 : wc.cell? ⟨gb271, 5, none⟩ = some (.int .i64 a0_5) := (blk_cell BK271.out 5).trans rfl; have hcz54_6 : wc.cell? ⟨gb271, 6, none⟩ = some (.int .u16 a0_6) := (blk_cell BK271.out 6).trans rfl; have hcz54_7 : wc.cell? ⟨gb271, 7, none⟩ = some (.int .u16 a0_7) := (blk_cell BK271.out 7).trans rfl; have hfz54_0 := blk_frozen BK271.out 0; have hfz54_1 := blk_frozen BK271.out 1; have hfz54_2 := blk_frozen BK271.out 2; have hfz54_3 := blk_frozen BK271.out 3; have hfz54_4 := blk_frozen BK271.out 4; have hfz54_5 := blk_frozen BK271.out 5; have hfz54_6 := blk_frozen BK271.out 6; have hfz54_7 := blk_frozen BK271.out 7
             try go_wp2_with (first | ((with_reducible refine gate_dst (N := 61) rfl ?_); (try (refine gate_guard (by rfl) ?_; dsimp only)); refine Kd.R_lit (Kd.int .u64) _ 22 ?hg (N := 61) ?hd (xs := ([IntKind.u64.wrap (a1_1 - a0_1), x8_27] : List Int)) (inner := [.int .u64 (IntKind.u64.wrap (a1_1 - a0_1)), .int .u64 x8_27]) (ok := fun _ => True) (okp := fun _ => True) ?hr ?hp (fun _ hk => hk) trivial (Below.refl _ _) (Nat.le_refl _) (by simp) ?_; (case hd => rfl); (case hg => rfl); (case hr => first | (go_simp; done)); (case hp => exact (Reps.one (show Kd.M (Kd.int .u64) _ _ _ (IntKind.u64.wrap (a1_1 - a0_1)) [.int .u64 (IntKind.u64.wrap (a1_1 - a0_1))] from rfl) (Reps.one (show Kd.M (Kd.int .u64) _ _ _ x8_27 [.int .u64 x8_27] from rfl) (Reps.none _ _)))); intro v282 w55 ho56 hb hg_ hnew_; clear hg_ hnew_; (first | rw [← Ny281.out] at ho56); have n0_ := Aside0.mk (Kd.R_below HO_5.out hb); have n1_ := Aside0.mk (Kd.R_lower ho56 (below_size (by repeat (first | (with_reducible first | exact HB.out | refine below_set ?_ GE272.out))))); have n2_ := Aside0.mk (blk_below BK271.out hb); have n3_ := Aside0.mk (blk_below BK272.out hb); have n4_ := Aside0.mk (below_step (by repeat (first | (with_reducible first | exact HB.out | refine below_set ?_ GE272.out))) hb); clear HO_5 BK271 BK272 HB; revert n0_ n1_ n2_ n3_ n4_; intro HO_5 HO283 BK271 BK272 HB; clear hb ho56; obtain ⟨Ao57, co57, eo57⟩ := Kd.R_slice HO283.out; subst eo57) | ((with_reducible refine gate_callee (f := 46) rfl ?_); refine goesL_ (some 62) rfl rfl Try.func46 (by kernel_rfl) rfl #[.slice Ao57 y281.length co57] rfl (by (try simp only [List.map_toArray, List.map_cons, List.map_nil]); first | rfl | (refine qa_arr ?_; (repeat' (first | rfl | refine qa_cons ?_ ?_ | refine qa_int ?_ | refine qa_agg ?_ | refine qa_arr ?_ | omega)); done)) ?_; (with_reducible refine (ga_Coins.calls kj27 _ _ y281 t284 _ ?side1 ?side2 A32.out).mono ?_); (case side1 => repeat (first | exact (Kd.R_reads' HO283.out).2.2 | (with_reducible refine Kd.C_drew ?_))); (case side2 => exact (Kd.R_reads' HO283.out).2.1); rintro e w58 ⟨v285, rfl, ho0, hb⟩; refine ⟨_, rfl, ?_⟩; have n0_ := Aside0.mk (Kd.R_elder' HO_5.out (Kd.R_base ho0) hb); have n1_ := Aside0.mk (Kd.R_below HO283.out hb); have n2_ := Aside0.mk (Kd.R_lower (Kd.R_new' ho0 (Kd.R_lt HO_5.out)) (below_size (by repeat (first | (with_reducible first | exact HB.out | refine below_set ?_ GE272.out))))); have n3_ := Aside0.mk (blk_below BK271.out hb); have n4_ := Aside0.mk (blk_below BK272.out hb); have n5_ := Aside0.mk (below_step (by repeat (first | (with_reducible first | exact HB.out | refine below_set ?_ GE272.out))) hb); clear HO_5 HO283 BK271 BK272 HB; revert n0_ n1_ n2_ n3_ n4_ n5_; intro HO_5 HO283 HO286 BK271 BK272 HB; (try clear hb); (try clear hb2); (try clear hk); (try clear hi); (try clear ho0); obtain ⟨Ao60, co60, eo60⟩ := Kd.R_slice HO_5.out; subst eo60; have q59 : (x7_4 : Int) ≤ ((t273.length : Int) : Int) := of_decide_eq_true (by with_reducible assumption); obtain ⟨i059, hi059, _, hsz59, _⟩ := info_parts info5; have hroom59 : t273.length ≤ co60 := (Kd.R_reads' HO_5.out).2.1; have hC59 : Kd.C (Kd.int .u8) _ Ao60 t273.length t273 := (Kd.R_reads' HO_5.out).2.2; have q059 : (0 : Int) ≤ (x7_4 : Int) := of_decide_eq_true (by with_reducible assumption); have hcut59 := cut_from (P := Try.prog) 33 5 .i64 Try.underlying33 hi059 1 hsz59 Ao60 t273.length co60 x7_4 q059 q59; have hr59 := Kd.C_drop (m := (x7_4 : Int).toNat) (c := co60) hC59 (by omega) hroom59; obtain ⟨A59, hA59⟩ : ∃ A1, A1 = (if co60 = (x7_4 : Int).toNat then Ao60 else (Ao60 : Option Addr).map (·.add ((x7_4 : Int).toNat * 1))) := ⟨_, rfl⟩; obtain ⟨c59, hc59⟩ : ∃ c1, c1 = co60 - (x7_4 : Int).toNat := ⟨_, rfl⟩; have hy59 : y287.length = t273.length - (x7_4 : Int).toNat := (by rw [Ny287.out, List.length_drop] <;> omega); rw [show (t273).drop (x7_4 : Int).toNat = y287 from Ny287.out.symm] at hr59; replace hr59 : Kd.C (Kd.int .u8) _ A59 y287.length y287 := (by rw [hA59]; exact hr59); rw [← hy59, ← hA59, ← hc59] at hcut59; have HR290 := Aside0.mk hr59; have HC290 := Aside0.mk (show y287.length ≤ c59 from by rw [hy59, hc59]; exact Nat.sub_le_sub_right hroom59 _); clear hr59 hC59 hroom59 hi059 hsz59 hc59; have KY59 := Aside0.mk hy59; have KA59 := Aside0.mk hA59; clear hy59 hA59; have KL59 := Aside0.mk (show (x7_4 : Int).toNat ≤ t273.length from by omega); replace q59 := eq_true q59) | ((with_reducible refine gate_builtin (b := .append) (xs := #[.tmp 63, .tmp 66]) rfl ?_); (try (refine gate_guard (by rfl) ?_; dsimp only)); at_builtin; refine Kd.R_append_rows (Kd.int .u8) (w0 := w) w.heap.size rfl (.tmp 63) (.tmp 66) 33 5 (.int .u8 0) 1 rfl Try.underlying33 info5 rfl (by decide) (by omega) v285 t284 y287 _ _ _ (fun k_ => some k_ ≠ (.slice Ao60 t273.length co60 : Value).ownBlock) (fun _ => False) rfl rfl ?aO ?aR (fun _ _ h => h) (fun _ h => h.elim) ?aF ?aB ?aS ?aL ?_; (case aR => repeat (first | exact (by repeat (first | exact HR290.out)) | (with_reducible refine Kd.C_drew ?_))); (case aB => exact (by repeat (first | (with_reducible first | exact HB.out | refine below_set ?_ GE272.out)))); (case aF => exact (fun k_ hk => Kd.fresh' (Kd.R_lt HO_5.out) k_ hk)); (case aO => exact (by exact Kd.R_mono HO286.out (fun _ hk => hk.2))); (case aS => exact (below_size (by repeat (first | (with_reducible first | exact HB.out | refine below_set ?_ GE272.out))))); (case aL => have := LMc35.out; omega); intro v292 w61 ho hb hg hat; rw [← Ny291.out] at ho; have n0_ := Aside0.mk (Kd.R_after (ok := (fun _ => True)) HO_5.out hg hat); have n1_ := Aside0.mk (blk_grown BK271.out hg (Kd.R_ne HO286.out BK271.out (by decide))); have n2_ := Aside0.mk (blk_grown BK272.out hg (Kd.R_ne HO286.out BK272.out (by decide))); have n3_ := Aside0.mk (Kd.R_over' HO283.out (Kd.R_typed HO286.out) (by decide) hg); have n4_ := Aside0.mk (hb); have n5_ := Aside0.mk ((show Kd.C (Kd.int .u8) w61 A59 y287.length y287 from by rw [Ny287.out, KA59.out]; exact Kd.C_drop (m := (x7_4 : Int).toNat) (c := co60) ((Kd.R_reads' (Kd.R_after (ok := (fun _ => True)) HO_5.out hg hat)).2.2) KL59.out ((Kd.R_reads' (Kd.R_after (ok := (fun _ => True)) HO_5.out hg hat)).2.1))); have n6_ := Aside0.mk (ho); clear HO_5 BK271 BK272 HO283 HB HR290 HO286; revert n0_ n1_ n2_ n3_ n4_ n5_ n6_; intro HO_5 BK271 BK272 HO283 HB HR290 HO293; clear ho hb hg hat; have hcz62_0 : w61.cell? ⟨gb272, 0, none⟩ = some (.int .u64 a1_0) := (blk_cell BK272.out 0).trans rfl; have hcz62_1 : w61.cell? ⟨gb272, 1, none⟩ = some (.int .u64 a1_1) := (blk_cell BK272.out 1).trans rfl; have hcz62_2 : w61.cell? ⟨gb272, 2, none⟩ = some (.bool false) := (blk_cell BK272.out 2).trans rfl; have hcz62_3 : w61.cell? ⟨gb272, 3, none⟩ = some (.int .u32 a1_3) := (blk_cell BK272.out 3).trans rfl; have hcz62_4 : w61.cell? ⟨gb272, 4, none⟩ = some (.int .u8 a1_4) := (blk_cell BK272.out 4).trans rfl; have hcz62_5 : w61.cell? ⟨gb272, 5, none⟩ = some (.int .i64 a1_5) := (blk_cell BK272.out 5).trans rfl; have hcz62_6 : w61.cell? ⟨gb272, 6, none⟩ = some (.int .u16 a1_6) := (blk_cell BK272.out 6).trans rfl; have hcz62_7 : w61.cell? ⟨gb272, 7, none⟩ = some (.int .u16 a1_7) := (blk_cell BK272.out 7).trans rfl; have hfz62_0 := blk_frozen BK272.out 0; have hfz62_1 := blk_frozen BK272.out 1; have hfz62_2 := blk_frozen BK272.out 2; have hfz62_3 := blk_frozen BK272.out 3; have hfz62_4 := blk_frozen BK272.out 4; have hfz62_5 := blk_frozen BK272.out 5; have hfz62_6 := blk_frozen BK272.out 6; have hfz62_7 := blk_frozen BK272.out 7))
             have n0_ := Aside0.mk (Kd.R_drew HO_5.out); have n1_ := Aside0.mk (Kd.R_drew HO283.out); have n2_ := Aside0.mk (Kd.R_drew HO293.out); have n3_ := Aside0.mk (blk_drew BK271.out); have n4_ := Aside0.mk (blk_drew BK272.out); have n5_ := Aside0.mk (Kd.C_drew HR290.out); have n6_ := Aside0.mk (below_drew1 HB.out); clear HO_5; clear HO283; clear HO293; clear BK271; clear BK272; clear HR290; clear HB; have HO_5 := n0_; have HO283 := n1_; have HO293 := n2_; have BK271 := n3_; have BK272 := n4_; have HR290 := n5_; have HB := n6_; clear n0_ n1_ n2_ n3_ n4_ n5_ n6_
             refine start_ (n := 34) (S := fun w' => w'.cell? ⟨gb272, 0, none⟩ = some (.int .u64 a1_0) ∧ w'.cell? ⟨gb272, 1, none⟩ = some (.int .u64 a1_1) ∧ w'.cell? ⟨gb272, 2, none⟩ = some (.bool false) ∧ w'.cell? ⟨gb272, 3, none⟩ = some (.int .u32 a1_3) ∧ w'.cell? ⟨gb272, 4, none⟩ = some (.int .u8 a1_4) ∧ w'.cell? ⟨gb272, 5, none⟩ = some (.int .i64 a1_5) ∧ w'.cell? ⟨gb272, 6, none⟩ = some (.int .u16 a1_6) ∧ w'.cell? ⟨gb272, 7, none⟩ = some (.int .u16 a1_7) ∧ w'.cell? ⟨gb271, 0, none⟩ = some (.int .u64 a0_0) ∧ w'.cell? ⟨gb271, 1, none⟩ = some (.int .u64 a0_1) ∧ w'.cell? ⟨gb271, 2, none⟩ = some (.bool a0_2) ∧ w'.cell? ⟨gb271, 3, none⟩ = some (.int .u32 a0_3) ∧ w'.cell? ⟨gb271, 4, none⟩ = some (.int .u8 a0_4) ∧ w'.cell? ⟨gb271, 5, none⟩ = some (.int .i64 a0_5) ∧ w'.cell? ⟨gb271, 6, none⟩ = some (.int .u16 a0_6) ∧ w'.cell? ⟨gb271, 7, none⟩ = some (.int .u16 a0_7)) (ds := []) #[O,O,O,O,O,O,O,O,O,O,O,O,O,O,O,O,O,O,O,O,O,O,O,O,O,O,O,O,O,O,O,O,O,O] (by kernel_rfl) rfl rfl ⟨(blk_cell BK272.out 0).trans rfl, (blk_cell BK272.out 1).trans rfl, (blk_cell BK272.out 2).trans rfl, (blk_cell BK272.out 3).trans rfl, (blk_cell BK272.out 4).trans rfl, (blk_cell BK272.out 5).trans rfl, (blk_cell BK272.out 6).trans rfl, (blk_cell BK272.out 7).trans rfl, (blk_cell BK271.out 0).trans rfl, (blk_cell BK271.out 1).trans rfl, (blk_cell BK271.out 2).trans rfl, (blk_cell BK271.out 3).trans rfl, (blk_cell BK271.out 4).trans rfl, (blk_cell BK271.out 5).trans rfl, (blk_cell BK271.out 6).trans rfl, (blk_cell BK271.out 7).trans rfl⟩ (fun hHeld => ?_); refine with_tabW gb_Encode.tab12 gb_Encode.bits12 (fun HT_ HW_ => ?_)
             generalize w61.drew = w63 at HO_5 HO283 HO293 BK271 BK272 HR290 HB hHeld ⊢; refine pure_ (i := 0) (N := some 71) (v := ?_) (a' := ?_) #[I,O,O,O,O,O,O,O,O,O,O,O,O,O,O,O,O,O,O,O,O,O,O,O,O,O,O,O,O,O,O,O,O,O] rfl rfl (any_of HT_.out (by kernel_rfl)) (fun _ _ _ h => h) (Or.inl ⟨by rfl, ?_⟩) ?_ ?_; rotate_left; · intro w'; go_simp; with_reducible rfl
             rotate_left; · simp only [Act.put, la0, la1, la2, i64_w, i32_w]; rfl
             refine pure_ (i := 1) (N := some 72) (v := ?_) (a' := ?_) #[I,I,O,O,O,O,O,O,O,O,O,O,O,O,O,O,O,O,O,O,O,O,O,O,O,O,O,O,O,O,O,O,O,O] rfl rfl (any_of HT_.out (by kernel_rfl)) (fun _ _ _ h => h) (Or.inl ⟨by rfl, ?_⟩) ?_ ?_; rotate_left; · intro w'; go_simp; with_reducible rfl
             rotate_left; · simp only [Act.put, la0, la1, la2, i64_w, i32_w]; rfl
             refine pure_ (i := 2) (N := some 73) (v := ?_) (a' := ?_) #[I,I,I,O,O,O,O,O,O,O,O,O,O,O,O,O,O,O,O,O,O,O,O,O,O,O,O,O,O,O,O,O,O,O] rfl rfl (any_of HT_.out (by kernel_rfl)) (fun _ _ _ h => h) (Or.inl ⟨by rfl, ?_⟩) ?_ ?_; rotate_left; · intro w'; go_simp; with_reducible rfl
             rotate_left; · simp only [Act.put, la0, la1, la2, i64_w, i32_w]; rfl
             refine pure_ (i := 4) (N := some 75) (v := ?_) (a' := ?_) #[I,I,I,O,I,O,O,O,O,O,O,O,O,O,O,O,O,O,O,O,O,O,O,O,O,O,O,O,O,O,O,O,O,O] rfl rfl (any_of HT_.out (by kernel_rfl)) (fun _ _ _ h => h) (Or.inl ⟨by rfl, ?_⟩) ?_ ?_; rotate_left; · intro w'; go_simp; with_reducible rfl
             rotate_left; · simp only [Act.put, la0, la1, la2, i64_w, i32_w]; rfl
             refine pure_ (i := 5) (N := some 76) (v := ?_) (a' := ?_) #[I,I,I,O,I,I,O,O,O,O,O,O,O,O,O,O,O,O,O,O,O,O,O,O,O,O,O,O,O,O,O,O,O,O] rfl rfl (any_of HT_.out (by kernel_rfl)) (fun _ _ _ h => h) (Or.inl ⟨by rfl, ?_⟩) ?_ ?_; rotate_left; · intro w'; go_simp; with_reducible rfl
             rotate_left; · simp only [Act.put, la0, la1, la2, i64_w, i32_w]; rfl
             refine pure_ (i := 9) (N := some 80) (v := ?_) (a' := ?_) #[I,I,I,O,I,I,O,O,O,I,O,O,O,O,O,O,O,O,O,O,O,O,O,O,O,O,O,O,O,O,O,O,O,O] rfl rfl (any_of HT_.out (by kernel_rfl)) (fun _ _ _ h => h) (Or.inl ⟨by rfl, ?_⟩) ?_ ?_; rotate_left; · intro w'; go_simp; with_reducible rfl
             rotate_left; · simp only [Act.put, la0, la1, la2, i64_w, i32_w]; rfl
             refine pure_ (i := 10) (N := some 81) (v := ?_) (a' := ?_) #[I,I,I,O,I,I,O,O,O,I,I,O,O,O,O,O,O,O,O,O,O,O,O,O,O,O,O,O,O,O,O,O,O,O] rfl rfl (any_of HT_.out (by kernel_rfl)) (fun _ _ _ h => h) (Or.inl ⟨by rfl, ?_⟩) ?_ ?_; rotate_left; · intro w'; go_simp; with_reducible rfl
             rotate_left; · simp only [Act.put, la0, la1, la2, i64_w, i32_w]; rfl
             refine pure_ (i := 13) (N := some 84) (v := ?_) (a' := ?_) #[I,I,I,O,I,I,O,O,O,I,I,O,O,I,O,O,O,O,O,O,O,O,O,O,O,O,O,O,O,O,O,O,O,O] rfl rfl (any_of HT_.out (by kernel_rfl)) (fun _ _ _ h => h) (Or.inl ⟨by rfl, ?_⟩) ?_ ?_; rotate_left; · intro w'; go_simp; with_reducible rfl
             rotate_left; · simp only [Act.put, la0, la1, la2, i64_w, i32_w]; rfl
             refine pure_ (i := 14) (N := some 85) (v := ?_) (a' := ?_) #[I,I,I,O,I,I,O,O,O,I,I,O,O,I,I,O,O,O,O,O,O,O,O,O,O,O,O,O,O,O,O,O,O,O] rfl rfl (any_of HT_.out (by kernel_rfl)) (fun _ _ _ h => h) (Or.inl ⟨by rfl, ?_⟩) ?_ ?_; rotate_left; · intro w'; go_simp; with_reducible rfl
             rotate_left; · simp only [Act.put, la0, la1, la2, i64_w, i32_w]; rfl
             refine pure_ (i := 19) (N := some 90) (v := ?_) (a' := ?_) #[I,I,I,O,I,I,O,O,O,I,I,O,O,I,I,O,O,O,O,I,O,O,O,O,O,O,O,O,O,O,O,O,O,O] rfl rfl (any_of HT_.out (by kernel_rfl)) (fun _ _ _ h => h) (Or.inl ⟨by rfl, ?_⟩) ?_ ?_; rotate_left; · intro w'; go_simp; with_reducible rfl
             rotate_left; · simp only [Act.put, la0, la1, la2, i64_w, i32_w]; rfl
             refine pure_ (i := 20) (N := some 91) (v := ?_) (a' := ?_) #[I,I,I,O,I,I,O,O,O,I,I,O,O,I,I,O,O,O,O,I,I,O,O,O,O,O,O,O,O,O,O,O,O,O] rfl rfl (any_of HT_.out (by kernel_rfl)) (fun _ _ _ h => h) (Or.inl ⟨by rfl, ?_⟩) ?_ ?_; rotate_left; · intro w'; go_simp; with_reducible rfl
             rotate_left; · simp only [Act.put, la0, la1, la2, i64_w, i32_w]; rfl
             refine pure_ (i := 24) (N := some 95) (v := ?_) (a' := ?_) #[I,I,I,O,I,I,O,O,O,I,I,O,O,I,I,O,O,O,O,I,I,O,O,O,I,O,O,O,O,O,O,O,O,O] rfl rfl (any_of HT_.out (by kernel_rfl)) (fun _ _ _ h => h) (Or.inl ⟨by rfl, ?_⟩) ?_ ?_; rotate_left; · intro w'; go_simp; with_reducible rfl
             rotate_left; · simp only [Act.put, la0, la1, la2, i64_w, i32_w]; rfl
             refine pure_ (i := 25) (N := some 96) (v := ?_) (a' := ?_) #[I,I,I,O,I,I,O,O,O,I,I,O,O,I,I,O,O,O,O,I,I,O,O,O,I,I,O,O,O,O,O,O,O,O] rfl rfl (any_of HT_.out (by kernel_rfl)) (fun _ _ _ h => h) (Or.inl ⟨by rfl, ?_⟩) ?_ ?_; rotate_left; · intro w'; go_simp; with_reducible rfl
             rotate_left; · simp only [Act.put, la0, la1, la2, i64_w, i32_w]; rfl
             refine take_ (i := 3) (N := some 74) (v := ?_) (a' := ?_) #[I,I,I,I,I,I,O,O,O,I,I,O,O,I,I,O,O,O,O,I,I,O,O,O,I,I,O,O,O,O,O,O,O,O] rfl rfl (take_ofW HT_.out HW_.out (by kernel_rfl)) (fun _ _ _ h => h) (Or.inl ⟨by rfl, ?_⟩) hHeld ?_ ?_; rotate_left; · rintro w' ⟨s0, s1, s2, s3, s4, s5, s6, s7, s8, s9, s10, s11, s12, s13, s14, s15⟩; go_simp; with_reducible rfl
             rotate_left; · simp only [Act.put, la0, la1, la2, i64_w, i32_w]; rfl
             refine take_ (i := 6) (N := some 77) (v := ?_) (a' := ?_) #[I,I,I,I,I,I,I,O,O,I,I,O,O,I,I,O,O,O,O,I,I,O,O,O,I,I,O,O,O,O,O,O,O,O] rfl rfl (take_ofW HT_.out HW_.out (by kernel_rfl)) (fun _ _ _ h => h) (Or.inl ⟨by rfl, ?_⟩) hHeld ?_ ?_; rotate_left; · rintro w' ⟨s0, s1, s2, s3, s4, s5, s6, s7, s8, s9, s10, s11, s12, s13, s14, s15⟩; go_simp; with_reducible rfl
             rotate_left; · simp only [Act.put, la0, la1, la2, i64_w, i32_w]; rfl
             refine pure_ (i := 7) (N := some 78) (v := ?_) (a' := ?_) #[I,I,I,I,I,I,I,I,O,I,I,O,O,I,I,O,O,O,O,I,I,O,O,O,I,I,O,O,O,O,O,O,O,O] rfl rfl (any_of HT_.out (by kernel_rfl)) (fun _ _ _ h => h) (Or.inl ⟨by rfl, ?_⟩) ?_ ?_; rotate_left; · intro w'; go_simp; with_reducible rfl
             rotate_left; · simp only [Act.put, la0, la1, la2, i64_w, i32_w]; rfl
             refine take_ (i := 11) (N := some 82) (v := ?_) (a' := ?_) #[I,I,I,I,I,I,I,I,O,I,I,I,O,I,I,O,O,O,O,I,I,O,O,O,I,I,O,O,O,O,O,O,O,O] rfl rfl (take_ofW HT_.out HW_.out (by kernel_rfl)) (fun _ _ _ h => h) (Or.inl ⟨by rfl, ?_⟩) hHeld ?_ ?_; rotate_left; · rintro w' ⟨s0, s1, s2, s3, s4, s5, s6, s7, s8, s9, s10, s11, s12, s13, s14, s15⟩; go_simp; with_reducible rfl
             rotate_left; · simp only [Act.put, la0, la1, la2, i64_w, i32_w]; rfl
             refine pure_ (i := 12) (N := some 83) (v := ?_) (a' := ?_) #[I,I,I,I,I,I,I,I,O,I,I,I,I,I,I,O,O,O,O,I,I,O,O,O,I,I,O,O,O,O,O,O,O,O] rfl rfl (any_of HT_.out (by kernel_rfl)) (fun _ _ _ h => h) (Or.inl ⟨by rfl, ?_⟩) ?_ ?_; rotate_left; · intro w'; go_simp; with_reducible rfl
             rotate_left; · simp only [Act.put, la0, la1, la2, i64_w, i32_w]; rfl
             refine take_ (i := 15) (N := some 86) (v := ?_) (a' := ?_) #[I,I,I,I,I,I,I,I,O,I,I,I,I,I,I,I,O,O,O,I,I,O,O,O,I,I,O,O,O,O,O,O,O,O] rfl rfl (take_ofW HT_.out HW_.out (by kernel_rfl)) (fun _ _ _ h => h) (Or.inl ⟨by rfl, ?_⟩) hHeld ?_ ?_; rotate_left; · rintro w' ⟨s0, s1, s2, s3, s4, s5, s6, s7, s8, s9, s10, s11, s12, s13, s14, s15⟩; go_simp; with_reducible rfl
             rotate_left; · simp only [Act.put, la0, la1, la2, i64_w, i32_w]; rfl
             refine pure_ (i := 16) (N := some 87) (v := ?_) (a' := ?_) #[I,I,I,I,I,I,I,I,O,I,I,I,I,I,I,I,I,O,O,I,I,O,O,O,I,I,O,O,O,O,O,O,O,O] rfl rfl (any_of HT_.out (by kernel_rfl)) (fun _ _ _ h => h) (Or.inl ⟨by rfl, ?_⟩) ?_ ?_; rotate_left; · intro w'; go_simp; with_reducible rfl
             rotate_left; · simp only [Act.put, la0, la1, la2, i64_w, i32_w]; rfl
             refine pure_ (i := 17) (N := some 88) (v := ?_) (a' := ?_) #[I,I,I,I,I,I,I,I,O,I,I,I,I,I,I,I,I,I,O,I,I,O,O,O,I,I,O,O,O,O,O,O,O,O] rfl rfl (any_of HT_.out (by kernel_rfl)) (fun _ _ _ h => h) (Or.inl ⟨by rfl, ?_⟩) ?_ ?_; rotate_left; · intro w'; go_simp; with_reducible rfl
             rotate_left; · simp only [Act.put, la0, la1, la2, i64_w, i32_w]; rfl
             refine take_ (i := 21) (N := some 92) (v := ?_) (a' := ?_) #[I,I,I,I,I,I,I,I,O,I,I,I,I,I,I,I,I,I,O,I,I,I,O,O,I,I,O,O,O,O,O,O,O,O] rfl rfl (take_ofW HT_.out HW_.out (by kernel_rfl)) (fun _ _ _ h => h) (Or.inl ⟨by rfl, ?_⟩) hHeld ?_ ?_; rotate_left; · rintro w' ⟨s0, s1, s2, s3, s4, s5, s6, s7, s8, s9, s10, s11, s12, s13, s14, s15⟩; go_simp; with_reducible rfl
             rotate_left; · simp only [Act.put, la0, la1, la2, i64_w, i32_w]; rfl
             refine pure_ (i := 22) (N := some 93) (v := ?_) (a' := ?_) #[I,I,I,I,I,I,I,I,O,I,I,I,I,I,I,I,I,I,O,I,I,I,I,O,I,I,O,O,O,O,O,O,O,O] rfl rfl (any_of HT_.out (by kernel_rfl)) (fun _ _ _ h => h) (Or.inl ⟨by rfl, ?_⟩) ?_ ?_; rotate_left; · intro w'; go_simp; with_reducible rfl
             rotate_left; · simp only [Act.put, la0, la1, la2, i64_w, i32_w]; rfl
             refine pure_ (i := 23) (N := some 94) (v := ?_) (a' := ?_) #[I,I,I,I,I,I,I,I,O,I,I,I,I,I,I,I,I,I,O,I,I,I,I,I,I,I,O,O,O,O,O,O,O,O] rfl rfl (any_of HT_.out (by kernel_rfl)) (fun _ _ _ h => h) (Or.inl ⟨by rfl, ?_⟩) ?_ ?_; rotate_left; · intro w'; go_simp; with_reducible rfl
             rotate_left; · simp only [Act.put, la0, la1, la2, i64_w, i32_w]; rfl
             refine take_ (i := 26) (N := some 97) (v := ?_) (a' := ?_) #[I,I,I,I,I,I,I,I,O,I,I,I,I,I,I,I,I,I,O,I,I,I,I,I,I,I,I,O,O,O,O,O,O,O] rfl rfl (take_ofW HT_.out HW_.out (by kernel_rfl)) (fun _ _ _ h => h) (Or.inl ⟨by rfl, ?_⟩) hHeld ?_ ?_; rotate_left; · rintro w' ⟨s0, s1, s2, s3, s4, s5, s6, s7, s8, s9, s10, s11, s12, s13, s14, s15⟩; go_simp; with_reducible rfl
             rotate_left; · simp only [Act.put, la0, la1, la2, i64_w, i32_w]; rfl
             refine pure_ (i := 27) (N := some 98) (v := ?_) (a' := ?_) #[I,I,I,I,I,I,I,I,O,I,I,I,I,I,I,I,I,I,O,I,I,I,I,I,I,I,I,I,O,O,O,O,O,O] rfl rfl (any_of HT_.out (by kernel_rfl)) (fun _ _ _ h => h) (Or.inl ⟨by rfl, ?_⟩) ?_ ?_; rotate_left; · intro w'; go_simp; with_reducible rfl
             rotate_left; · simp only [Act.put, la0, la1, la2, i64_w, i32_w]; rfl
             refine pure_ (i := 28) (N := some 99) (v := ?_) (a' := ?_) #[I,I,I,I,I,I,I,I,O,I,I,I,I,I,I,I,I,I,O,I,I,I,I,I,I,I,I,I,I,O,O,O,O,O] rfl rfl (any_of HT_.out (by kernel_rfl)) (fun _ _ _ h => h) (Or.inl ⟨by rfl, ?_⟩) ?_ ?_; rotate_left; · intro w'; go_simp; with_reducible rfl
             rotate_left; · simp only [Act.put, la0, la1, la2, i64_w, i32_w]; rfl
             refine pure_ (i := 29) (N := some 100) (v := ?_) (a' := ?_) #[I,I,I,I,I,I,I,I,O,I,I,I,I,I,I,I,I,I,O,I,I,I,I,I,I,I,I,I,I,I,O,O,O,O] rfl rfl (any_of HT_.out (by kernel_rfl)) (fun _ _ _ h => h) (Or.inl ⟨by rfl, ?_⟩) ?_ ?_; rotate_left; · intro w'; go_simp; with_reducible rfl
             rotate_left; · simp only [Act.put, la0, la1, la2, i64_w, i32_w]; rfl
             refine one_ (i := 8) (N := some 79) #[I,I,I,I,I,I,I,I,I,I,I,I,I,I,I,I,I,I,O,I,I,I,I,I,I,I,I,I,I,I,O,O,O,O] rfl rfl (one_of HT_.out (by kernel_rfl)) (by decide) (fun K hK => ?_); refine goes_ Try.func47 (by kernel_rfl) rfl #[.int .i64 (wrap64 (a1_5 - a0_5))] (by rfl) rfl rfl (by (try simp only [List.map_toArray, List.map_cons, List.map_nil]); first | rfl) ?_
             with_reducible refine (gb_zig.calls (wrap64 (a1_5 - a0_5)) t294 _ A48.out).mono ?_
             rintro e w' ⟨rfl, ⟨nd, rfl⟩⟩; refine ⟨_, rfl, ?_⟩; refine hK.out _ _ ⟨(blk_cell BK272.out 0).trans rfl, (blk_cell BK272.out 1).trans rfl, (blk_cell BK272.out 2).trans rfl, (blk_cell BK272.out 3).trans rfl, (blk_cell BK272.out 4).trans rfl, (blk_cell BK272.out 5).trans rfl, (blk_cell BK272.out 6).trans rfl, (blk_cell BK272.out 7).trans rfl, (blk_cell BK271.out 0).trans rfl, (blk_cell BK271.out 1).trans rfl, (blk_cell BK271.out 2).trans rfl, (blk_cell BK271.out 3).trans rfl, (blk_cell BK271.out 4).trans rfl, (blk_cell BK271.out 5).trans rfl, (blk_cell BK271.out 6).trans rfl, (blk_cell BK271.out 7).trans rfl⟩ (fun hHeld => ?_); clear hK K; refine norm_ (a' := ?_) ?_ ?_; rotate_left
             · show Act.put _ (some 79) _ = _
               simp only [Act.put, la0, la1, la2, i64_w, i32_w]
               rfl
             refine one_ (i := 18) (N := some 89) #[I,I,I,I,I,I,I,I,I,I,I,I,I,I,I,I,I,I,I,I,I,I,I,I,I,I,I,I,I,I,O,O,O,O] rfl rfl (one_of HT_.out (by kernel_rfl)) (by decide) (fun K hK => ?_); refine goes_ Try.func47 (by kernel_rfl) rfl #[.int .i64 (wrap64 ((wrap64 (a1_6)) - (wrap64 (a0_6))))] (by rfl) rfl rfl (by (try simp only [List.map_toArray, List.map_cons, List.map_nil]); first | rfl) ?_
             with_reducible refine (gb_zig.calls (wrap64 ((wrap64 (a1_6)) - (wrap64 (a0_6)))) t295 _ A49.out).mono ?_
             rintro e w' ⟨rfl, ⟨nd, rfl⟩⟩; refine ⟨_, rfl, ?_⟩; refine hK.out _ _ ⟨(blk_cell BK272.out 0).trans rfl, (blk_cell BK272.out 1).trans rfl, (blk_cell BK272.out 2).trans rfl, (blk_cell BK272.out 3).trans rfl, (blk_cell BK272.out 4).trans rfl, (blk_cell BK272.out 5).trans rfl, (blk_cell BK272.out 6).trans rfl, (blk_cell BK272.out 7).trans rfl, (blk_cell BK271.out 0).trans rfl, (blk_cell BK271.out 1).trans rfl, (blk_cell BK271.out 2).trans rfl, (blk_cell BK271.out 3).trans rfl, (blk_cell BK271.out 4).trans rfl, (blk_cell BK271.out 5).trans rfl, (blk_cell BK271.out 6).trans rfl, (blk_cell BK271.out 7).trans rfl⟩ (fun hHeld => ?_); clear hK K; refine norm_ (a' := ?_) ?_ ?_; rotate_left
             · show Act.put _ (some 89) _ = _
               simp only [Act.put, la0, la1, la2, i64_w, i32_w]
               rfl
             refine one_ (i := 30) (N := some 101) #[I,I,I,I,I,I,I,I,I,I,I,I,I,I,I,I,I,I,I,I,I,I,I,I,I,I,I,I,I,I,I,O,O,O] rfl rfl (one_of HT_.out (by kernel_rfl)) (by decide) (fun K hK => ?_)
             refine Kd.R_lit_step (Kd.int .u64) _ 22 ?hg (N := 101) ?hd (xs := ([t294, t295, Int.tmod (IntKind.u64.wrap ((IntKind.u64.wrap ((IntKind.u64.wrap (a1_7)) + 65536)) - (IntKind.u64.wrap (a0_7)))) 65536] : List Int)) (inner := [.int .u64 t294, .int .u64 t295, .int .u64 (Int.tmod (IntKind.u64.wrap ((IntKind.u64.wrap ((IntKind.u64.wrap (a1_7)) + 65536)) - (IntKind.u64.wrap (a0_7)))) 65536)]) (ok := fun _ => True) (okp := fun _ => True) ?hr ?hp (fun _ hk => hk) trivial (Below.refl _ _) (Nat.le_refl _) (by simp) ?_; (case hd => rfl); (case hg => rfl); (case hr => first | (go_simp; done)); (case hp => exact (Reps.one (show Kd.M (Kd.int .u64) _ _ _ t294 [.int .u64 t294] from rfl) (Reps.one (show Kd.M (Kd.int .u64) _ _ _ t295 [.int .u64 t295] from rfl) (Reps.one (show Kd.M (Kd.int .u64) _ _ _ (Int.tmod (IntKind.u64.wrap ((IntKind.u64.wrap ((IntKind.u64.wrap (a1_7)) + 65536)) - (IntKind.u64.wrap (a0_7)))) 65536) [.int .u64 (Int.tmod (IntKind.u64.wrap ((IntKind.u64.wrap ((IntKind.u64.wrap (a1_7)) + 65536)) - (IntKind.u64.wrap (a0_7)))) 65536)] from rfl) (Reps.none _ _)))))
             intro v297 w64 ho65 hb hg_ hnew_; clear hg_ hnew_
             (first | rw [← Ny296.out] at ho65)
             have n0_ := Aside0.mk (Kd.R_below (by (with_reducible repeat (first | apply Kd.R_drewN)); exact HO_5.out) hb); have n1_ := Aside0.mk (Kd.R_elder' (by (with_reducible repeat (first | apply Kd.R_drewN)); exact HO283.out) (Kd.R_base ho65) hb); have n2_ := Aside0.mk (Kd.R_below (by (with_reducible repeat (first | apply Kd.R_drewN)); exact HO293.out) hb); have n3_ := Aside0.mk (Kd.R_lower (Kd.R_new' ho65 (Kd.R_lt (by (with_reducible repeat (first | apply Kd.R_drewN)); exact HO283.out))) (below_size (by repeat (first | (with_reducible first | exact HB.out | apply pw_below_drewN | refine below_set ?_ GE272.out))))); have n4_ := Aside0.mk (blk_below (g := gb271) (o := .cells #[.int .u64 a0_0, .int .u64 a0_1, .bool a0_2, .int .u32 a0_3, .int .u8 a0_4, .int .i64 a0_5, .int .u16 a0_6, .int .u16 a0_7] 31 (0, 0)) (by (with_reducible repeat (first | refine blk_drewN ?_ _ | refine blk_alloc ?_ _)); exact BK271.out) hb); have n5_ := Aside0.mk (blk_below (g := gb272) (o := .cells #[.int .u64 a1_0, .int .u64 a1_1, .bool false, .int .u32 a1_3, .int .u8 a1_4, .int .i64 a1_5, .int .u16 a1_6, .int .u16 a1_7] 31 (0, 0)) (by (with_reducible repeat (first | refine blk_drewN ?_ _ | refine blk_alloc ?_ _)); exact BK272.out) hb); have n6_ := Aside0.mk (Kd.C_below (by repeat (first | exact HR290.out)) hb); have n7_ := Aside0.mk (below_step (by repeat (first | (with_reducible first | exact HB.out | apply pw_below_drewN | refine below_set ?_ GE272.out))) hb); clear HO_5; clear HO283; clear HO293; clear BK271; clear BK272; clear HR290; clear HB; have HO_5 := n0_; have HO283 := n1_; have HO293 := n2_; have HO298 := n3_; have BK271 := n4_; have BK272 := n5_; have HR290 := n6_; have HB := n7_; clear n0_ n1_ n2_ n3_ n4_ n5_ n6_ n7_; clear hb ho65; obtain ⟨Ao66, co66, eo66⟩ := Kd.R_slice HO298.out
             (first | subst eo66)
             refine hK.out _ _ ⟨(blk_cell BK272.out 0).trans rfl, (blk_cell BK272.out 1).trans rfl, (blk_cell BK272.out 2).trans rfl, (blk_cell BK272.out 3).trans rfl, (blk_cell BK272.out 4).trans rfl, (blk_cell BK272.out 5).trans rfl, (blk_cell BK272.out 6).trans rfl, (blk_cell BK272.out 7).trans rfl, (blk_cell BK271.out 0).trans rfl, (blk_cell BK271.out 1).trans rfl, (blk_cell BK271.out 2).trans rfl, (blk_cell BK271.out 3).trans rfl, (blk_cell BK271.out 4).trans rfl, (blk_cell BK271.out 5).trans rfl, (blk_cell BK271.out 6).trans rfl, (blk_cell BK271.out 7).trans rfl⟩ (fun hHeld => ?_); clear hK K; refine norm_ (a' := ?_) ?_ ?_; rotate_left
             · show Act.put _ (some 101) _ = _
               simp only [Act.put, la0, la1, la2, i64_w, i32_w]
               rfl
             refine one_ (i := 31) (N := some 102) #[I,I,I,I,I,I,I,I,I,I,I,I,I,I,I,I,I,I,I,I,I,I,I,I,I,I,I,I,I,I,I,I,O,O] rfl rfl (one_of HT_.out (by kernel_rfl)) (by decide) (fun K hK => ?_); refine goes_ Try.func46 (by kernel_rfl) rfl #[.slice Ao66 y296.length co66] (by rfl) rfl rfl (by (try simp only [List.map_toArray, List.map_cons, List.map_nil]); first | rfl) ?_
             with_reducible refine (ga_Coins.calls kj27 _ _ y296 t299 _ ?side1 ?side2 A50.out).mono ?_
             (case side1 => repeat (first | exact (Kd.R_reads' HO298.out).2.2 | (with_reducible refine Kd.C_drew ?_)))
             (case side2 => exact (Kd.R_reads' HO298.out).2.1)
             rintro e w67 ⟨v300, rfl, ho0, hb⟩; refine ⟨_, rfl, ?_⟩; have n0_ := Aside0.mk (Kd.R_elder' HO_5.out (Kd.R_base ho0) hb); have n1_ := Aside0.mk (Kd.R_below HO283.out hb); have n2_ := Aside0.mk (Kd.R_elder' HO293.out (Kd.R_base ho0) hb); have n3_ := Aside0.mk (Kd.R_below HO298.out hb); have n4_ := Aside0.mk (Kd.R_lower (Kd.R_new' (Kd.R_new' ho0 (Kd.R_lt HO_5.out)) (Kd.R_lt HO293.out)) (below_size (by repeat (first | (with_reducible first | exact HB.out | refine below_set ?_ GE272.out))))); have n5_ := Aside0.mk (blk_below BK271.out hb); have n6_ := Aside0.mk (blk_below BK272.out hb); have n7_ := Aside0.mk (Kd.C_below (by repeat (first | (with_reducible exact HR290.out) | exact HR290.out)) hb); have n8_ := Aside0.mk (below_step (by repeat (first | (with_reducible first | exact HB.out | refine below_set ?_ GE272.out))) hb); clear HO_5; clear HO283; clear HO293; clear HO298; clear BK271; clear BK272; clear HR290; clear HB; have HO_5 := n0_; have HO283 := n1_; have HO293 := n2_; have HO298 := n3_; have HO301 := n4_; have BK271 := n5_; have BK272 := n6_; have HR290 := n7_; have HB := n8_; clear n0_ n1_ n2_ n3_ n4_ n5_ n6_ n7_ n8_
             (try clear hb)
             (try clear hb2)
             (try clear hk)
             (try clear hi)
             (try clear ho0)
             obtain ⟨Ao69, co69, eo69⟩ := Kd.R_slice HO301.out
             (first | subst eo69)
             refine hK.out _ _ ⟨(blk_cell BK272.out 0).trans rfl, (blk_cell BK272.out 1).trans rfl, (blk_cell BK272.out 2).trans rfl, (blk_cell BK272.out 3).trans rfl, (blk_cell BK272.out 4).trans rfl, (blk_cell BK272.out 5).trans rfl, (blk_cell BK272.out 6).trans rfl, (blk_cell BK272.out 7).trans rfl, (blk_cell BK271.out 0).trans rfl, (blk_cell BK271.out 1).trans rfl, (blk_cell BK271.out 2).trans rfl, (blk_cell BK271.out 3).trans rfl, (blk_cell BK271.out 4).trans rfl, (blk_cell BK271.out 5).trans rfl, (blk_cell BK271.out 6).trans rfl, (blk_cell BK271.out 7).trans rfl⟩ (fun hHeld => ?_); clear hK K; refine norm_ (a' := ?_) ?_ ?_; rotate_left
             · show Act.put _ (some 102) _ = _
               simp only [Act.put, la0, la1, la2, i64_w, i32_w]
               rfl
             refine one_ (i := 32) (N := some 103) #[I,I,I,I,I,I,I,I,I,I,I,I,I,I,I,I,I,I,I,I,I,I,I,I,I,I,I,I,I,I,I,I,I,O] rfl rfl (one_of HT_.out (by kernel_rfl)) (by decide) (fun K hK => ?_); refine Kd.R_append_rows_step (Kd.int .u8) (w0 := w) w.heap.size (by rfl) (.tmp 71) (.tmp 102) 33 5 (.int .u8 0) 1 rfl Try.underlying33 info5 rfl (by decide) (by omega) v292 y291 t299 _ _ _ (fun k_ => some k_ ≠ (.slice Ao60 t273.length co60 : Value).ownBlock ∧ some k_ ≠ (.slice Ao69 t299.length co69 : Value).ownBlock) (fun _ => False) rfl rfl ?aO ?aR (fun _ _ h => h) (fun _ h => h.elim) ?aF ?aB ?aS ?aL ?_
             (case aR => repeat (first | exact (Kd.R_reads' HO301.out).2.2 | (with_reducible refine Kd.C_drew ?_)))
             (case aB => exact (by repeat (first | (with_reducible first | exact HB.out | refine below_set ?_ GE272.out))))
             (case aF => exact (fun k_ hk => ⟨Kd.fresh' (Kd.R_lt HO_5.out) k_ hk, Kd.fresh' (Kd.R_lt HO301.out) k_ hk⟩))
             (case aO => exact HO293.out)
             (case aS => exact (below_size (by repeat (first | (with_reducible first | exact HB.out | refine below_set ?_ GE272.out)))))
             (case aL => have := LMc51.out; omega)
             intro v303 w68 ho hb hg hat; rw [← Ny302.out] at ho; have n0_ := Aside0.mk (Kd.R_after (ok := (fun k_ => some k_ ≠ (.slice Ao69 t299.length co69 : Value).ownBlock)) (by exact Kd.R_mono HO_5.out (fun _ hk => ⟨hk.2, hk.1.2⟩)) hg hat); have n1_ := Aside0.mk (blk_grown BK271.out hg (Kd.R_ne HO293.out BK271.out (by decide))); have n2_ := Aside0.mk (blk_grown BK272.out hg (Kd.R_ne HO293.out BK272.out (by decide))); have n3_ := Aside0.mk (Kd.R_over' HO283.out (Kd.R_typed HO293.out) (by decide) hg); have n4_ := Aside0.mk (Kd.R_over' HO298.out (Kd.R_typed HO293.out) (by decide) hg); have n5_ := Aside0.mk (Kd.R_after (ok := (fun k_ => some k_ ≠ (.slice Ao60 t273.length co60 : Value).ownBlock)) (by exact Kd.R_mono HO301.out (fun _ hk => ⟨hk.1.2, hk.2⟩)) hg hat); have n6_ := Aside0.mk (hb); have n7_ := Aside0.mk ((show Kd.C (Kd.int .u8) w68 A59 y287.length y287 from by rw [Ny287.out, KA59.out]; exact Kd.C_drop (m := (x7_4 : Int).toNat) (c := co60) ((Kd.R_reads' (Kd.R_after (ok := (fun k_ => some k_ ≠ (.slice Ao69 t299.length co69 : Value).ownBlock)) (by exact Kd.R_mono HO_5.out (fun _ hk => ⟨hk.2, hk.1.2⟩)) hg hat)).2.2) KL59.out ((Kd.R_reads' (Kd.R_after (ok := (fun k_ => some k_ ≠ (.slice Ao69 t299.length co69 : Value).ownBlock)) (by exact Kd.R_mono HO_5.out (fun _ hk => ⟨hk.2, hk.1.2⟩)) hg hat)).2.1))); have n8_ := Aside0.mk (ho); clear HO_5; clear BK271; clear BK272; clear HO283; clear HO298; clear HO301; clear HB; clear HR290; clear HO293; have HO_5 := n0_; have BK271 := n1_; have BK272 := n2_; have HO283 := n3_; have HO298 := n4_; have HO301 := n5_; have HB := n6_; have HR290 := n7_; have HO304 := n8_; clear n0_ n1_ n2_ n3_ n4_ n5_ n6_ n7_ n8_; clear ho hb hg hat; refine hK.out _ _ ⟨(blk_cell BK272.out 0).trans rfl, (blk_cell BK272.out 1).trans rfl, (blk_cell BK272.out 2).trans rfl, (blk_cell BK272.out 3).trans rfl, (blk_cell BK272.out 4).trans rfl, (blk_cell BK272.out 5).trans rfl, (blk_cell BK272.out 6).trans rfl, (blk_cell BK272.out 7).trans rfl, (blk_cell BK271.out 0).trans rfl, (blk_cell BK271.out 1).trans rfl, (blk_cell BK271.out 2).trans rfl, (blk_cell BK271.out 3).trans rfl, (blk_cell BK271.out 4).trans rfl, (blk_cell BK271.out 5).trans rfl, (blk_cell BK271.out 6).trans rfl, (blk_cell BK271.out 7).trans rfl⟩ (fun hHeld => ?_); clear hK K; refine norm_ (a' := ?_) ?_ ?_; rotate_left
             · show Act.put _ (some 103) _ = _
               simp only [Act.put, la0, la1, la2, i64_w, i32_w]
               rfl
             refine pure_ (i := 33) (N := some 9) (v := ?_) (a' := ?_) #[I,I,I,I,I,I,I,I,I,I,I,I,I,I,I,I,I,I,I,I,I,I,I,I,I,I,I,I,I,I,I,I,I,I] rfl rfl (any_of HT_.out (by kernel_rfl)) (fun _ _ _ h => h) (Or.inl ⟨by rfl, ?_⟩) ?_ ?_; rotate_left; · intro w'; go_simp; with_reducible rfl
             rotate_left; · simp only [Act.put, la0, la1, la2, i64_w, i32_w]; rfl
             refine done_ (done_of HT_.out (by kernel_rfl)) ?_
             try go_wp2
             go_ret; exact ⟨_, by first | rfl | (simp [*, errW_none, errW_some] <;> rfl), by exact Kd.R_mono HO304.out (fun _ hk => trivial), by repeat (first | (with_reducible first | exact HB.out | refine below_set ?_ GE272.out))⟩
           rw [if_neg c51] at H; exact absurd H (by simp)
         rw [if_neg c35] at H; exact absurd H (by simp)
       rw [if_neg c34] at H; exact absurd H (by simp)
     rw [if_neg c33] at H; exact absurd H (by simp)

end Go.Proofs.Ytllcighpfikpkaa.QChangeBytes
