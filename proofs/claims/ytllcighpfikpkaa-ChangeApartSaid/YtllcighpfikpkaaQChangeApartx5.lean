-- Lines by a program of this session, for this claim.
import Derived.Test.YtllcighpfikpkaaQChangeApartx0
import Derived.Test.YtllcighpfikpkaaQChangeApartx4
namespace Go.Proofs.Ytllcighpfikpkaa.QChangeApart
open Go.RowKit Go.Proofs.YtllcighpfikpkaaW.PrintWords Go.Proofs.YtllcighpfikpkaaW.PrintLast Go.Proofs.YtllcighpfikpkaaW.PrintMore
attribute [local go_sem] max2_int min2_int max_two min_two max_three min_three max_four min_four   -- for this text's walks alone
set_option linter.unusedVariables false
set_option linter.unusedSimpArgs false

/-! ### change_Encode: function 13 -/
mutual
def change_Encode.j1 : Nat → List Int → Int → Int → Int → Bool → Int → Int → Int → Int → Int → Int → Int → Bool → Int → Int → Int → Int → Int → Option (List Int)
 | 0, _, _, _, _, _, _, _, _, _, _, _, _, _, _, _, _, _, _ => none
 | k + 1, x5, x6, x113000, x113001, x113002, x113003, x113004, x113005, x113006, x113007, x114000, x114001, x114002, x114003, x114004, x114005, x114006, x114007 => if x114002 = true then (change_Encode.j2 k x5 x6 (Go.bits .or .u64 (Go.bits .or .u64 (IntKind.u64.wrap ((IntKind.u64.wrap (x114004)) * 16)) (IntKind.u64.wrap ((IntKind.u64.wrap (x6)) * 2))) 1) x113000 x113001 x113002 x113003 x113004 x113005 x113006 x113007 x114000 x114001 x114002 x114003 x114004 x114005 x114006 x114007) else (change_Encode.j2 k x5 x6 (Go.bits .or .u64 (IntKind.u64.wrap ((IntKind.u64.wrap (x114004)) * 16)) (IntKind.u64.wrap ((IntKind.u64.wrap (x6)) * 2))) x113000 x113001 x113002 x113003 x113004 x113005 x113006 x113007 x114000 x114001 x114002 x114003 x114004 x114005 x114006 x114007)
def change_Encode.j2 : Nat → List Int → Int → Int → Int → Int → Bool → Int → Int → Int → Int → Int → Int → Int → Bool → Int → Int → Int → Int → Int → Option (List Int)
 | 0, _, _, _, _, _, _, _, _, _, _, _, _, _, _, _, _, _, _, _ => none
 | k + 1, x5, x6, x8, x113000, x113001, x113002, x113003, x113004, x113005, x113006, x113007, x114000, x114001, x114002, x114003, x114004, x114005, x114006, x114007 => (coin_Put.f k x5 x8).bind fun t121 => (change_Encode.l1 k t121 x6 x113000 x113001 x113002 x113003 x113004 x113005 x113006 x113007 x114000 x114001 x114002 x114003 x114004 x114005 x114006 x114007)
def change_Encode.l1 : Nat → List Int → Int → Int → Int → Bool → Int → Int → Int → Int → Int → Int → Int → Bool → Int → Int → Int → Int → Int → Option (List Int)
 | 0, _, _, _, _, _, _, _, _, _, _, _, _, _, _, _, _, _, _ => none
 | k + 1, x5, x9, x113000, x113001, x113002, x113003, x113004, x113005, x113006, x113007, x114000, x114001, x114002, x114003, x114004, x114005, x114006, x114007 => (change_octets.f x114004).bind fun t124 => (if x9 < t124 then ((change_octet.f x114003 x9).bind fun t125 => (if x5.length < 140737488355328 then (change_Encode.l1 k (x5 ++ [t125]) (wrap64 (x9 + 1)) x113000 x113001 x113002 x113003 x113004 x113005 x113006 x113007 x114000 x114001 x114002 x114003 x114004 x114005 x114006 x114007) else (none))) else (if x114002 = true then (some x5) else ((coin_Fold.f (wrap64 (x114005 - x113005))).bind fun t129 => ((coin_Put.f k x5 t129).bind fun t130 => ((coin_Fold.f (wrap64 ((wrap64 (x114006)) - (wrap64 (x113006))))).bind fun t133 => ((coin_Put.f k t130 t133).bind fun t134 => ((coin_Put.f k t134 (IntKind.u64.wrap (IntKind.u16.wrap (x114007 - x113007)))).bind fun t137 => (some t137))))))))
def change_Encode.l0 : Nat → List Int → Int → Int → Int → Int → Bool → Int → Int → Int → Int → Int → Int → Int → Bool → Int → Int → Int → Int → Int → Option (List Int)
 | 0, _, _, _, _, _, _, _, _, _, _, _, _, _, _, _, _, _, _, _ => none
 | k + 1, x5, x6, x7, x113000, x113001, x113002, x113003, x113004, x113005, x113006, x113007, x114000, x114001, x114002, x114003, x114004, x114005, x114006, x114007 => if x6 < x7 then ((change_octet.f x114003 x6).bind fun t119 => ((change_octet.f x113003 x6).bind fun t120 => (if t119 = t120 then (change_Encode.l0 k x5 (wrap64 (x6 + 1)) x7 x113000 x113001 x113002 x113003 x113004 x113005 x113006 x113007 x114000 x114001 x114002 x114003 x114004 x114005 x114006 x114007) else (change_Encode.j1 k x5 x6 x113000 x113001 x113002 x113003 x113004 x113005 x113006 x113007 x114000 x114001 x114002 x114003 x114004 x114005 x114006 x114007)))) else (change_Encode.j1 k x5 x6 x113000 x113001 x113002 x113003 x113004 x113005 x113006 x113007 x114000 x114001 x114002 x114003 x114004 x114005 x114006 x114007)
end
def change_Encode.f (k : Nat) (a0_0 : Int) (a0_1 : Int) (a0_2 : Bool) (a0_3 : Int) (a0_4 : Int) (a0_5 : Int) (a0_6 : Int) (a0_7 : Int) (a1_0 : Int) (a1_1 : Int) (a1_2 : Bool) (a1_3 : Int) (a1_4 : Int) (a1_5 : Int) (a1_6 : Int) (a1_7 : Int) : Option (List Int) := (coin_Put.f k ([] : List Int) (IntKind.u64.wrap (a1_1 - a0_1))).bind fun t114 => ((change_octets.f a1_4).bind fun t117 => ((change_octets.f a0_4).bind fun t118 => (change_Encode.l0 k t114 0 (mn t117 t118) a0_0 a0_1 a0_2 a0_3 a0_4 a0_5 a0_6 a0_7 a1_0 a1_1 a1_2 a1_3 a1_4 a1_5 a1_6 a1_7)))
theorem change_Encode.mono_l : ∀ k, (∀ y0 y1 y2 y3 y4 y5 y6 y7 y8 y9 y10 y11 y12 y13 y14 y15 y16 y17, LeO (change_Encode.j1 k y0 y1 y2 y3 y4 y5 y6 y7 y8 y9 y10 y11 y12 y13 y14 y15 y16 y17) (change_Encode.j1 (k + 1) y0 y1 y2 y3 y4 y5 y6 y7 y8 y9 y10 y11 y12 y13 y14 y15 y16 y17)) ∧ (∀ y0 y1 y2 y3 y4 y5 y6 y7 y8 y9 y10 y11 y12 y13 y14 y15 y16 y17 y18, LeO (change_Encode.j2 k y0 y1 y2 y3 y4 y5 y6 y7 y8 y9 y10 y11 y12 y13 y14 y15 y16 y17 y18) (change_Encode.j2 (k + 1) y0 y1 y2 y3 y4 y5 y6 y7 y8 y9 y10 y11 y12 y13 y14 y15 y16 y17 y18)) ∧ (∀ y0 y1 y2 y3 y4 y5 y6 y7 y8 y9 y10 y11 y12 y13 y14 y15 y16 y17, LeO (change_Encode.l1 k y0 y1 y2 y3 y4 y5 y6 y7 y8 y9 y10 y11 y12 y13 y14 y15 y16 y17) (change_Encode.l1 (k + 1) y0 y1 y2 y3 y4 y5 y6 y7 y8 y9 y10 y11 y12 y13 y14 y15 y16 y17)) ∧ (∀ y0 y1 y2 y3 y4 y5 y6 y7 y8 y9 y10 y11 y12 y13 y14 y15 y16 y17 y18, LeO (change_Encode.l0 k y0 y1 y2 y3 y4 y5 y6 y7 y8 y9 y10 y11 y12 y13 y14 y15 y16 y17 y18) (change_Encode.l0 (k + 1) y0 y1 y2 y3 y4 y5 y6 y7 y8 y9 y10 y11 y12 y13 y14 y15 y16 y17 y18))
 | 0 => ⟨fun _ _ _ _ _ _ _ _ _ _ _ _ _ _ _ _ _ _ r h => by simp [change_Encode.j1] at h, fun _ _ _ _ _ _ _ _ _ _ _ _ _ _ _ _ _ _ _ r h => by simp [change_Encode.j2] at h, fun _ _ _ _ _ _ _ _ _ _ _ _ _ _ _ _ _ _ r h => by simp [change_Encode.l1] at h, fun _ _ _ _ _ _ _ _ _ _ _ _ _ _ _ _ _ _ _ r h => by simp [change_Encode.l0] at h⟩
 | k + 1 => by
  obtain ⟨ih0, ih1, ih2, ih3⟩ := change_Encode.mono_l k
  refine ⟨?_, ?_, ?_, ?_⟩
  · intro y0 y1 y2 y3 y4 y5 y6 y7 y8 y9 y10 y11 y12 y13 y14 y15 y16 y17
    unfold change_Encode.j1
    repeat' first
    | (with_reducible exact ih0 ..)
    | (with_reducible exact ih1 ..)
    | (with_reducible exact ih2 ..)
    | (with_reducible exact ih3 ..)
    | (with_reducible exact coin_Put.mono ..)
    | (with_reducible exact LeO.refl ..)
    | (with_reducible exact LeO.none ..)
    | (with_reducible refine LeO.ite ?_ ?_)
    | (with_reducible refine LeO.bind ?_ (fun _ => ?_))
  · intro y0 y1 y2 y3 y4 y5 y6 y7 y8 y9 y10 y11 y12 y13 y14 y15 y16 y17 y18
    unfold change_Encode.j2
    repeat' first
    | (with_reducible exact ih0 ..)
    | (with_reducible exact ih1 ..)
    | (with_reducible exact ih2 ..)
    | (with_reducible exact ih3 ..)
    | (with_reducible exact coin_Put.mono ..)
    | (with_reducible exact LeO.refl ..)
    | (with_reducible exact LeO.none ..)
    | (with_reducible refine LeO.ite ?_ ?_)
    | (with_reducible refine LeO.bind ?_ (fun _ => ?_))
  · intro y0 y1 y2 y3 y4 y5 y6 y7 y8 y9 y10 y11 y12 y13 y14 y15 y16 y17
    unfold change_Encode.l1
    repeat' first
    | (with_reducible exact ih0 ..)
    | (with_reducible exact ih1 ..)
    | (with_reducible exact ih2 ..)
    | (with_reducible exact ih3 ..)
    | (with_reducible exact coin_Put.mono ..)
    | (with_reducible exact LeO.refl ..)
    | (with_reducible exact LeO.none ..)
    | (with_reducible refine LeO.ite ?_ ?_)
    | (with_reducible refine LeO.bind ?_ (fun _ => ?_))
  · intro y0 y1 y2 y3 y4 y5 y6 y7 y8 y9 y10 y11 y12 y13 y14 y15 y16 y17 y18
    unfold change_Encode.l0
    repeat' first
    | (with_reducible exact ih0 ..)
    | (with_reducible exact ih1 ..)
    | (with_reducible exact ih2 ..)
    | (with_reducible exact ih3 ..)
    | (with_reducible exact coin_Put.mono ..)
    | (with_reducible exact LeO.refl ..)
    | (with_reducible exact LeO.none ..)
    | (with_reducible refine LeO.ite ?_ ?_)
    | (with_reducible refine LeO.bind ?_ (fun _ => ?_))
theorem change_Encode.mono : ∀ a0 a1 a2 a3 a4 a5 a6 a7 a8 a9 a10 a11 a12 a13 a14 a15 k, LeO (change_Encode.f k a0 a1 a2 a3 a4 a5 a6 a7 a8 a9 a10 a11 a12 a13 a14 a15) (change_Encode.f (k + 1) a0 a1 a2 a3 a4 a5 a6 a7 a8 a9 a10 a11 a12 a13 a14 a15) := by
 intro a0 a1 a2 a3 a4 a5 a6 a7 a8 a9 a10 a11 a12 a13 a14 a15 k
 obtain ⟨ih0, ih1, ih2, ih3⟩ := change_Encode.mono_l k
 unfold change_Encode.f
 repeat' first
  | (with_reducible exact ih0 ..)
  | (with_reducible exact ih1 ..)
  | (with_reducible exact ih2 ..)
  | (with_reducible exact ih3 ..)
  | (with_reducible exact coin_Put.mono ..)
  | (with_reducible exact LeO.refl ..)
  | (with_reducible exact LeO.none ..)
  | (with_reducible refine LeO.ite ?_ ?_)
  | (with_reducible refine LeO.bind ?_ (fun _ => ?_))
set_option maxHeartbeats 8000000 in
set_option maxRecDepth 100000 in
theorem change_Encode.calls (k : Nat) (a0_0 : Int) (a0_1 : Int) (a0_2 : Bool) (a0_3 : Int) (a0_4 : Int) (a0_5 : Int) (a0_6 : Int) (a0_7 : Int) (a1_0 : Int) (a1_1 : Int) (a1_2 : Bool) (a1_3 : Int) (a1_4 : Int) (a1_5 : Int) (a1_6 : Int) (a1_7 : Int) (r : List Int) (w : World) (h : change_Encode.f k a0_0 a0_1 a0_2 a0_3 a0_4 a0_5 a0_6 a0_7 a1_0 a1_1 a1_2 a1_3 a1_4 a1_5 a1_6 a1_7 = some r) :
 Calls Try.prog 13 #[.agg #[.int .u64 a0_0, .int .u64 a0_1, .bool a0_2, .int .u32 a0_3, .int .u8 a0_4, .int .i64 a0_5, .int .u16 a0_6, .int .u16 a0_7], .agg #[.int .u64 a1_0, .int .u64 a1_1, .bool a1_2, .int .u32 a1_3, .int .u8 a1_4, .int .i64 a1_5, .int .u16 a1_6, .int .u16 a1_7]] w fun e w' => ∃ v0_ : Value, e = .returned (v0_) ∧ Kd.R (Kd.int .u8) 5 w' w.heap.size (fun _ => True) v0_ r ∧ Below w.heap.size w w' := by
 have hu31 := Try.underlying31
 have HB := Aside0.mk (Below.refl w.heap.size w)
 have H : ((coin_Put.f k ([] : List Int) (IntKind.u64.wrap (a1_1 - a0_1))).bind fun t114 => ((change_octets.f a1_4).bind fun t117 => ((change_octets.f a0_4).bind fun t118 => (change_Encode.l0 k t114 0 (mn t117 t118) a0_0 a0_1 a0_2 a0_3 a0_4 a0_5 a0_6 a0_7 a1_0 a1_1 a1_2 a1_3 a1_4 a1_5 a1_6 a1_7)))) = some r := h
 clear h
 replace H := Option.bind_eq_some_iff.mp H
 obtain ⟨t114, A30, H⟩ := H
 replace H : ((change_octets.f a1_4).bind fun t117 => ((change_octets.f a0_4).bind fun t118 => (change_Encode.l0 k t114 0 (mn t117 t118) a0_0 a0_1 a0_2 a0_3 a0_4 a0_5 a0_6 a0_7 a1_0 a1_1 a1_2 a1_3 a1_4 a1_5 a1_6 a1_7))) = some r := H
 have A3 := Aside0.mk A30
 clear A30
 replace H := Option.bind_eq_some_iff.mp H
 obtain ⟨t117, A40, H⟩ := H
 replace H : ((change_octets.f a0_4).bind fun t118 => (change_Encode.l0 k t114 0 (mn t117 t118) a0_0 a0_1 a0_2 a0_3 a0_4 a0_5 a0_6 a0_7 a1_0 a1_1 a1_2 a1_3 a1_4 a1_5 a1_6 a1_7)) = some r := H
 have A4 := Aside0.mk A40
 clear A40
 replace H := Option.bind_eq_some_iff.mp H
 obtain ⟨t118, A50, H⟩ := H
 replace H : (change_Encode.l0 k t114 0 (mn t117 t118) a0_0 a0_1 a0_2 a0_3 a0_4 a0_5 a0_6 a0_7 a1_0 a1_1 a1_2 a1_3 a1_4 a1_5 a1_6 a1_7) = some r := H
 have A5 := Aside0.mk A50
 clear A50
 obtain ⟨ji6, hji6⟩ : ∃ j_ : Int, (mn t117 t118) = j_ := ⟨_, rfl⟩
 replace H : (change_Encode.l0 k t114 0 ji6 a0_0 a0_1 a0_2 a0_3 a0_4 a0_5 a0_6 a0_7 a1_0 a1_1 a1_2 a1_3 a1_4 a1_5 a1_6 a1_7) = some r := by first | (rw [hji6] at H; exact H)
 (try rw [hji6] at A3)
 (try rw [hji6] at A4)
 (try rw [hji6] at A5)
 have hji6_ : (if t118 < t117 then t118 else t117) = ji6 := hji6
 have HC7 := Aside0.mk H
 clear H
 go_enter Try.func13, Try.ntmps13
 go_upto_block 0 with (first | ((with_reducible refine gate_dst (N := 2) rfl ?_); refine box_event ?hg (N := 2) ?hd (cs := #[.int .u64 a0_0, .int .u64 a0_1, .bool a0_2, .int .u32 a0_3, .int .u8 a0_4, .int .i64 a0_5, .int .u16 a0_6, .int .u16 a0_7]) (t := 31) ?hr ?_; (case hd => rfl); (case hg => rfl); (case hr => first | (go_simp; done)); intro gb112 hg w8 hbox hb; have n0_ := Aside0.mk (below_step (by repeat (first | (with_reducible first | exact HB.out | apply below_drew1))) hb); have n1_ := Aside0.mk (hbox); have n2_ := Aside0.mk ((by rw [hg]; exact (below_size (by repeat (first | (with_reducible first | exact HB.out | apply below_drew1)))) : w.heap.size ≤ gb112)); have n3_ := Aside0.mk ((by rw [hg]; exact (below_size (by repeat (first | (with_reducible first | exact HB.out | apply below_drew1)))) : w.heap.size ≤ gb112)); clear HB; have HB := n0_; have BK112 := n1_; have GW112 := n2_; have GE112 := n3_; clear n0_ n1_ n2_ n3_; clear hb hbox hg) | ((with_reducible refine gate_dst (N := 3) rfl ?_); refine box_event ?hg (N := 3) ?hd (cs := #[.int .u64 a1_0, .int .u64 a1_1, .bool a1_2, .int .u32 a1_3, .int .u8 a1_4, .int .i64 a1_5, .int .u16 a1_6, .int .u16 a1_7]) (t := 31) ?hr ?_; (case hd => rfl); (case hg => rfl); (case hr => first | (go_simp; done)); intro gb113 hg w9 hbox hb; have n0_ := Aside0.mk (blk_below (g := gb112) (o := .cells #[.int .u64 a0_0, .int .u64 a0_1, .bool a0_2, .int .u32 a0_3, .int .u8 a0_4, .int .i64 a0_5, .int .u16 a0_6, .int .u16 a0_7] 31 (0, 0)) (by exact BK112.out) hb); have n1_ := Aside0.mk (below_step (by repeat (first | (with_reducible first | exact HB.out | refine below_set ?_ GE112.out))) hb); have n2_ := Aside0.mk (hbox); have n3_ := Aside0.mk ((by rw [hg]; exact (below_size (by repeat (first | (with_reducible first | exact HB.out | refine below_set ?_ GE112.out)))) : w.heap.size ≤ gb113)); have n4_ := Aside0.mk ((by rw [hg]; exact (below_size (by repeat (first | (with_reducible first | exact HB.out | refine below_set ?_ GE112.out)))) : w.heap.size ≤ gb113)); have n5_ := Aside0.mk ((by rw [hg]; exact Nat.ne_of_lt (blk_lt (g := gb112) (o := .cells #[.int .u64 a0_0, .int .u64 a0_1, .bool a0_2, .int .u32 a0_3, .int .u8 a0_4, .int .i64 a0_5, .int .u16 a0_6, .int .u16 a0_7] 31 (0, 0)) (by exact BK112.out)) : gb112 ≠ gb113)); have n6_ := Aside0.mk ((by rw [hg]; exact Nat.ne_of_gt (blk_lt (g := gb112) (o := .cells #[.int .u64 a0_0, .int .u64 a0_1, .bool a0_2, .int .u32 a0_3, .int .u8 a0_4, .int .i64 a0_5, .int .u16 a0_6, .int .u16 a0_7] 31 (0, 0)) (by exact BK112.out)) : gb113 ≠ gb112)); clear BK112; clear HB; have BK112 := n0_; have HB := n1_; have BK113 := n2_; have GW113 := n3_; have GE113 := n4_; have NB112_113 := n5_; have NB113_112 := n6_; clear n0_ n1_ n2_ n3_ n4_ n5_ n6_; clear hb hbox hg; have hnb10 := NB113_112.out; have hnc10 := NB112_113.out; have hcz11_0 : w9.cell? ⟨gb113, 0, none⟩ = some (.int .u64 a1_0) := (blk_cell BK113.out 0).trans rfl; have hcz11_1 : w9.cell? ⟨gb113, 1, none⟩ = some (.int .u64 a1_1) := (blk_cell BK113.out 1).trans rfl; have hcz11_2 : w9.cell? ⟨gb113, 2, none⟩ = some (.bool a1_2) := (blk_cell BK113.out 2).trans rfl; have hcz11_3 : w9.cell? ⟨gb113, 3, none⟩ = some (.int .u32 a1_3) := (blk_cell BK113.out 3).trans rfl; have hcz11_4 : w9.cell? ⟨gb113, 4, none⟩ = some (.int .u8 a1_4) := (blk_cell BK113.out 4).trans rfl; have hcz11_5 : w9.cell? ⟨gb113, 5, none⟩ = some (.int .i64 a1_5) := (blk_cell BK113.out 5).trans rfl; have hcz11_6 : w9.cell? ⟨gb113, 6, none⟩ = some (.int .u16 a1_6) := (blk_cell BK113.out 6).trans rfl; have hcz11_7 : w9.cell? ⟨gb113, 7, none⟩ = some (.int .u16 a1_7) := (blk_cell BK113.out 7).trans rfl; have hfz11_0 := blk_frozen BK113.out 0; have hfz11_1 := blk_frozen BK113.out 1; have hfz11_2 := blk_frozen BK113.out 2; have hfz11_3 := blk_frozen BK113.out 3; have hfz11_4 := blk_frozen BK113.out 4; have hfz11_5 := blk_frozen BK113.out 5; have hfz11_6 := blk_frozen BK113.out 6; have hfz11_7 := blk_frozen BK113.out 7; have hcz12_0 : w9.cell? ⟨gb112, 0, none⟩ = some (.int .u64 a0_0) := (blk_cell BK112.out 0).trans rfl; have hcz12_1 : w9.cell? ⟨gb112, 1, none⟩ = some (.int .u64 a0_1) := (blk_cell BK112.out 1).trans rfl; have hcz12_2 : w9.cell? ⟨gb112, 2, none⟩ = some (.bool a0_2) := (blk_cell BK112.out 2).trans rfl; have hcz12_3 : w9.cell? ⟨gb112, 3, none⟩ = some (.int .u32 a0_3) := (blk_cell BK112.out 3).trans rfl; have hcz12_4 : w9.cell? ⟨gb112, 4, none⟩ = some (.int .u8 a0_4) := (blk_cell BK112.out 4).trans rfl; have hcz12_5 : w9.cell? ⟨gb112, 5, none⟩ = some (.int .i64 a0_5) := (blk_cell BK112.out 5).trans rfl; have hcz12_6 : w9.cell? ⟨gb112, 6, none⟩ = some (.int .u16 a0_6) := (blk_cell BK112.out 6).trans rfl; have hcz12_7 : w9.cell? ⟨gb112, 7, none⟩ = some (.int .u16 a0_7) := (blk_cell BK112.out 7).trans rfl; have hfz12_0 := blk_frozen BK112.out 0; have hfz12_1 := blk_frozen BK112.out 1; have hfz12_2 := blk_frozen BK112.out 2; have hfz12_3 := blk_frozen BK112.out 3; have hfz12_4 := blk_frozen BK112.out 4; have hfz12_5 := blk_frozen BK112.out 5; have hfz12_6 := blk_frozen BK112.out 6; have hfz12_7 := blk_frozen BK112.out 7) | (go_at_call 27; (first | (refine (coin_Put.calls k (fun k_ => some k_ = (.slice none 0 0 : Value).ownBlock) (.slice none 0 0) ([] : List Int) (IntKind.u64.wrap (a1_1 - a0_1)) t114 w _ ?side1 ?side2 A3.out).mono ?_)); (case side1 => repeat (first | (with_reducible first | exact HB.out | refine below_set ?_ GE113.out))); (case side2 => exact Kd.R_nil _ _ _ _ _); rintro e w13 ⟨v115, rfl, ho0, hb, hkp⟩; have n0_ := Aside0.mk (blk_kept (o := .cells #[.int .u64 a0_0, .int .u64 a0_1, .bool a0_2, .int .u32 a0_3, .int .u8 a0_4, .int .i64 a0_5, .int .u16 a0_6, .int .u16 a0_7] 31 (0, 0)) (by exact BK112.out) hkp (fun hs_ => (fun e_ => by simp [Value.ownBlock] at e_) hs_)); have n1_ := Aside0.mk (blk_kept (o := .cells #[.int .u64 a1_0, .int .u64 a1_1, .bool a1_2, .int .u32 a1_3, .int .u8 a1_4, .int .i64 a1_5, .int .u16 a1_6, .int .u16 a1_7] 31 (0, 0)) (by exact BK113.out) hkp (fun hs_ => (fun e_ => by simp [Value.ownBlock] at e_) hs_)); have n2_ := Aside0.mk (Kd.R_mono (ok' := fun k_ => True) ho0 (fun k_ hk_ => trivial)); have n3_ := Aside0.mk (hb); clear BK112; clear BK113; clear HB; have BK112 := n0_; have BK113 := n1_; have HO116 := n2_; have HB := n3_; clear n0_ n1_ n2_ n3_; (try clear hb); (try clear hkp); (try clear ho0); have hcz14_0 : w13.cell? ⟨gb113, 0, none⟩ = some (.int .u64 a1_0) := (blk_cell BK113.out 0).trans rfl; have hcz14_1 : w13.cell? ⟨gb113, 1, none⟩ = some (.int .u64 a1_1) := (blk_cell BK113.out 1).trans rfl; have hcz14_2 : w13.cell? ⟨gb113, 2, none⟩ = some (.bool a1_2) := (blk_cell BK113.out 2).trans rfl; have hcz14_3 : w13.cell? ⟨gb113, 3, none⟩ = some (.int .u32 a1_3) := (blk_cell BK113.out 3).trans rfl; have hcz14_4 : w13.cell? ⟨gb113, 4, none⟩ = some (.int .u8 a1_4) := (blk_cell BK113.out 4).trans rfl; have hcz14_5 : w13.cell? ⟨gb113, 5, none⟩ = some (.int .i64 a1_5) := (blk_cell BK113.out 5).trans rfl; have hcz14_6 : w13.cell? ⟨gb113, 6, none⟩ = some (.int .u16 a1_6) := (blk_cell BK113.out 6).trans rfl; have hcz14_7 : w13.cell? ⟨gb113, 7, none⟩ = some (.int .u16 a1_7) := (blk_cell BK113.out 7).trans rfl; have hfz14_0 := blk_frozen BK113.out 0; have hfz14_1 := blk_frozen BK113.out 1; have hfz14_2 := blk_frozen BK113.out 2; have hfz14_3 := blk_frozen BK113.out 3; have hfz14_4 := blk_frozen BK113.out 4; have hfz14_5 := blk_frozen BK113.out 5; have hfz14_6 := blk_frozen BK113.out 6; have hfz14_7 := blk_frozen BK113.out 7) | (go_at_call 28; (first | (with_reducible refine (change_octets.calls a0_4 t118 _ A5.out).mono ?_) | (refine calls_of_args (args' := #[.int .u8 a0_4]) ?_ ?_; focus (first | rfl | (simp; done) | (refine qa_arr ?_; (repeat' (first | rfl | refine qa_cons ?_ ?_ | refine qa_int ?_ | refine qa_agg ?_ | refine qa_arr ?_ | omega)); done)); (with_reducible refine (change_octets.calls a0_4 t118 _ A5.out).mono ?_))); rintro e w' ⟨rfl, ⟨nd, rfl⟩⟩; (try first | exact ⟨rfl, _, World.drewN_drewN _ _ _⟩ | exact ⟨rfl, _, Eq.trans (World.drewN_drewN _ _ _) (congrArg (World.drewN _) (Nat.add_assoc _ _ _))⟩)))
 repeat (go_quiet (first | (go_at_call 28; (first | (with_reducible refine (change_octets.calls a1_4 t117 _ A4.out).mono ?_)); rintro e w' ⟨rfl, ⟨nd, rfl⟩⟩; (try first | exact ⟨rfl, _, World.drewN_drewN _ _ _⟩); have hcz15_0 : w13.cell? ⟨gb112, 0, none⟩ = some (.int .u64 a0_0) := (blk_cell BK112.out 0).trans rfl; have hcz15_1 : w13.cell? ⟨gb112, 1, none⟩ = some (.int .u64 a0_1) := (blk_cell BK112.out 1).trans rfl; have hcz15_2 : w13.cell? ⟨gb112, 2, none⟩ = some (.bool a0_2) := (blk_cell BK112.out 2).trans rfl; have hcz15_3 : w13.cell? ⟨gb112, 3, none⟩ = some (.int .u32 a0_3) := (blk_cell BK112.out 3).trans rfl; have hcz15_4 : w13.cell? ⟨gb112, 4, none⟩ = some (.int .u8 a0_4) := (blk_cell BK112.out 4).trans rfl; have hcz15_5 : w13.cell? ⟨gb112, 5, none⟩ = some (.int .i64 a0_5) := (blk_cell BK112.out 5).trans rfl; have hcz15_6 : w13.cell? ⟨gb112, 6, none⟩ = some (.int .u16 a0_6) := (blk_cell BK112.out 6).trans rfl; have hcz15_7 : w13.cell? ⟨gb112, 7, none⟩ = some (.int .u16 a0_7) := (blk_cell BK112.out 7).trans rfl; have hfz15_0 := blk_frozen BK112.out 0; have hfz15_1 := blk_frozen BK112.out 1; have hfz15_2 := blk_frozen BK112.out 2; have hfz15_3 := blk_frozen BK112.out 3; have hfz15_4 := blk_frozen BK112.out 4; have hfz15_5 := blk_frozen BK112.out 5; have hfz15_6 := blk_frozen BK112.out 6; have hfz15_7 := blk_frozen BK112.out 7) | (go_at_call 28; (first | (with_reducible refine (change_octets.calls a0_4 t118 _ A5.out).mono ?_)); rintro e w' ⟨rfl, ⟨nd, rfl⟩⟩; (try first | exact ⟨rfl, _, World.drewN_drewN _ _ _⟩))); go_upto_block 0 with (first | ((with_reducible refine gate_dst (N := 2) rfl ?_); refine box_event ?hg (N := 2) ?hd (cs := #[.int .u64 a0_0, .int .u64 a0_1, .bool a0_2, .int .u32 a0_3, .int .u8 a0_4, .int .i64 a0_5, .int .u16 a0_6, .int .u16 a0_7]) (t := 31) ?hr ?_; (case hd => rfl); (case hg => rfl); (case hr => first | (go_simp; done) | (go_simp; rfl)); intro gb112 hg w8 hbox hb; have n0_ := Aside0.mk (below_step (by repeat (first | (with_reducible first | exact HB.out | apply below_alloc | apply pw_below_drewN | apply below_drew1) | exact HB.out)) hb); have n1_ := Aside0.mk (hbox); have n2_ := Aside0.mk ((by rw [hg]; exact (below_size (by repeat (first | (with_reducible first | exact HB.out | apply below_alloc | apply pw_below_drewN | apply below_drew1) | exact HB.out))) : w.heap.size ≤ gb112)); have n3_ := Aside0.mk ((by rw [hg]; exact (below_size (by repeat (first | (with_reducible first | exact HB.out | apply below_alloc | apply pw_below_drewN | apply below_drew1) | exact HB.out))) : w.heap.size ≤ gb112)); clear HB; have HB := n0_; have BK112 := n1_; have GW112 := n2_; have GE112 := n3_; clear n0_ n1_ n2_ n3_; clear hb hbox hg) | ((with_reducible refine gate_dst (N := 3) rfl ?_); refine box_event ?hg (N := 3) ?hd (cs := #[.int .u64 a1_0, .int .u64 a1_1, .bool a1_2, .int .u32 a1_3, .int .u8 a1_4, .int .i64 a1_5, .int .u16 a1_6, .int .u16 a1_7]) (t := 31) ?hr ?_; (case hd => rfl); (case hg => rfl); (case hr => first | (go_simp; done) | (go_simp; rfl)); intro gb113 hg w9 hbox hb; have n0_ := Aside0.mk (blk_below (g := gb112) (o := .cells #[.int .u64 a0_0, .int .u64 a0_1, .bool a0_2, .int .u32 a0_3, .int .u8 a0_4, .int .i64 a0_5, .int .u16 a0_6, .int .u16 a0_7] 31 (0, 0)) (by exact BK112.out) hb); have n1_ := Aside0.mk (below_step (by repeat (first | (with_reducible first | exact HB.out | apply below_alloc | apply pw_below_drewN | apply below_drew1 | refine below_set ?_ GE112.out) | exact HB.out)) hb); have n2_ := Aside0.mk (hbox); have n3_ := Aside0.mk ((by rw [hg]; exact (below_size (by repeat (first | (with_reducible first | exact HB.out | apply below_alloc | apply pw_below_drewN | apply below_drew1 | refine below_set ?_ GE112.out) | exact HB.out))) : w.heap.size ≤ gb113)); have n4_ := Aside0.mk ((by rw [hg]; exact (below_size (by repeat (first | (with_reducible first | exact HB.out | apply below_alloc | apply pw_below_drewN | apply below_drew1 | refine below_set ?_ GE112.out) | exact HB.out))) : w.heap.size ≤ gb113)); have n5_ := Aside0.mk ((by rw [hg]; exact Nat.ne_of_lt (blk_lt (g := gb112) (o := .cells #[.int .u64 a0_0, .int .u64 a0_1, .bool a0_2, .int .u32 a0_3, .int .u8 a0_4, .int .i64 a0_5, .int .u16 a0_6, .int .u16 a0_7] 31 (0, 0)) (by exact BK112.out)) : gb112 ≠ gb113)); have n6_ := Aside0.mk ((by rw [hg]; exact Nat.ne_of_gt (blk_lt (g := gb112) (o := .cells #[.int .u64 a0_0, .int .u64 a0_1, .bool a0_2, .int .u32 a0_3, .int .u8 a0_4, .int .i64 a0_5, .int .u16 a0_6, .int .u16 a0_7] 31 (0, 0)) (by exact BK112.out)) : gb113 ≠ gb112)); clear BK112; clear HB; have BK112 := n0_; have HB := n1_; have BK113 := n2_; have GW113 := n3_; have GE113 := n4_; have NB112_113 := n5_; have NB113_112 := n6_; clear n0_ n1_ n2_ n3_ n4_ n5_ n6_; clear hb hbox hg; have hnb10 := NB113_112.out; have hnc10 := NB112_113.out; have hcz11_0 : w9.cell? ⟨gb113, 0, none⟩ = some (.int .u64 a1_0) := (blk_cell BK113.out 0).trans rfl; have hcz11_1 : w9.cell? ⟨gb113, 1, none⟩ = some (.int .u64 a1_1) := (blk_cell BK113.out 1).trans rfl; have hcz11_2 : w9.cell? ⟨gb113, 2, none⟩ = some (.bool a1_2) := (blk_cell BK113.out 2).trans rfl; have hcz11_3 : w9.cell? ⟨gb113, 3, none⟩ = some (.int .u32 a1_3) := (blk_cell BK113.out 3).trans rfl; have hcz11_4 : w9.cell? ⟨gb113, 4, none⟩ = some (.int .u8 a1_4) := (blk_cell BK113.out 4).trans rfl; have hcz11_5 : w9.cell? ⟨gb113, 5, none⟩ = some (.int .i64 a1_5) := (blk_cell BK113.out 5).trans rfl; have hcz11_6 : w9.cell? ⟨gb113, 6, none⟩ = some (.int .u16 a1_6) := (blk_cell BK113.out 6).trans rfl; have hcz11_7 : w9.cell? ⟨gb113, 7, none⟩ = some (.int .u16 a1_7) := (blk_cell BK113.out 7).trans rfl; have hfz11_0 := blk_frozen BK113.out 0; have hfz11_1 := blk_frozen BK113.out 1; have hfz11_2 := blk_frozen BK113.out 2; have hfz11_3 := blk_frozen BK113.out 3; have hfz11_4 := blk_frozen BK113.out 4; have hfz11_5 := blk_frozen BK113.out 5; have hfz11_6 := blk_frozen BK113.out 6; have hfz11_7 := blk_frozen BK113.out 7; have hcz12_0 : w9.cell? ⟨gb112, 0, none⟩ = some (.int .u64 a0_0) := (blk_cell BK112.out 0).trans rfl; have hcz12_1 : w9.cell? ⟨gb112, 1, none⟩ = some (.int .u64 a0_1) := (blk_cell BK112.out 1).trans rfl; have hcz12_2 : w9.cell? ⟨gb112, 2, none⟩ = some (.bool a0_2) := (blk_cell BK112.out 2).trans rfl; have hcz12_3 : w9.cell? ⟨gb112, 3, none⟩ = some (.int .u32 a0_3) := (blk_cell BK112.out 3).trans rfl; have hcz12_4 : w9.cell? ⟨gb112, 4, none⟩ = some (.int .u8 a0_4) := (blk_cell BK112.out 4).trans rfl; have hcz12_5 : w9.cell? ⟨gb112, 5, none⟩ = some (.int .i64 a0_5) := (blk_cell BK112.out 5).trans rfl; have hcz12_6 : w9.cell? ⟨gb112, 6, none⟩ = some (.int .u16 a0_6) := (blk_cell BK112.out 6).trans rfl; have hcz12_7 : w9.cell? ⟨gb112, 7, none⟩ = some (.int .u16 a0_7) := (blk_cell BK112.out 7).trans rfl; have hfz12_0 := blk_frozen BK112.out 0; have hfz12_1 := blk_frozen BK112.out 1; have hfz12_2 := blk_frozen BK112.out 2; have hfz12_3 := blk_frozen BK112.out 3; have hfz12_4 := blk_frozen BK112.out 4; have hfz12_5 := blk_frozen BK112.out 5; have hfz12_6 := blk_frozen BK112.out 6; have hfz12_7 := blk_frozen BK112.out 7) | (go_at_call 27; (first | (refine (coin_Put.calls k (fun k_ => some k_ = (.slice none 0 0 : Value).ownBlock) (.slice none 0 0) ([] : List Int) (IntKind.u64.wrap (a1_1 - a0_1)) t114 w _ ?side1 ?side2 A3.out).mono ?_) | (refine calls_of_args (args' := #[.slice none 0 0, .int .u64 (IntKind.u64.wrap (a1_1 - a0_1))]) ?_ ?_; focus (first | rfl | (simp; done) | (refine qa_arr ?_; (repeat' (first | rfl | refine qa_cons ?_ ?_ | refine qa_int ?_ | refine qa_agg ?_ | refine qa_arr ?_ | omega)); done)); (refine (coin_Put.calls k (fun k_ => some k_ = (.slice none 0 0 : Value).ownBlock) (.slice none 0 0) ([] : List Int) (IntKind.u64.wrap (a1_1 - a0_1)) t114 w _ ?side1 ?side2 A3.out).mono ?_))); (case side1 => repeat (first | (with_reducible first | exact HB.out | apply below_alloc | apply pw_below_drewN | apply below_drew1 | refine below_set ?_ GE112.out | refine below_set ?_ GE113.out) | exact HB.out)); (case side2 => exact Kd.R_nil _ _ _ _ _); rintro e w13 ⟨v115, rfl, ho0, hb, hkp⟩; have n0_ := Aside0.mk (blk_kept (o := .cells #[.int .u64 a0_0, .int .u64 a0_1, .bool a0_2, .int .u32 a0_3, .int .u8 a0_4, .int .i64 a0_5, .int .u16 a0_6, .int .u16 a0_7] 31 (0, 0)) (by exact BK112.out) hkp (fun hs_ => (fun e_ => by simp [Value.ownBlock] at e_) hs_)); have n1_ := Aside0.mk (blk_kept (o := .cells #[.int .u64 a1_0, .int .u64 a1_1, .bool a1_2, .int .u32 a1_3, .int .u8 a1_4, .int .i64 a1_5, .int .u16 a1_6, .int .u16 a1_7] 31 (0, 0)) (by exact BK113.out) hkp (fun hs_ => (fun e_ => by simp [Value.ownBlock] at e_) hs_)); have n2_ := Aside0.mk (Kd.R_mono (ok' := fun k_ => True) ho0 (fun k_ hk_ => trivial)); have n3_ := Aside0.mk (hb); clear BK112; clear BK113; clear HB; have BK112 := n0_; have BK113 := n1_; have HO116 := n2_; have HB := n3_; clear n0_ n1_ n2_ n3_; (try clear hb); (try clear hkp); (try clear ho0); have hcz14_0 : w13.cell? ⟨gb113, 0, none⟩ = some (.int .u64 a1_0) := (blk_cell BK113.out 0).trans rfl; have hcz14_1 : w13.cell? ⟨gb113, 1, none⟩ = some (.int .u64 a1_1) := (blk_cell BK113.out 1).trans rfl; have hcz14_2 : w13.cell? ⟨gb113, 2, none⟩ = some (.bool a1_2) := (blk_cell BK113.out 2).trans rfl; have hcz14_3 : w13.cell? ⟨gb113, 3, none⟩ = some (.int .u32 a1_3) := (blk_cell BK113.out 3).trans rfl; have hcz14_4 : w13.cell? ⟨gb113, 4, none⟩ = some (.int .u8 a1_4) := (blk_cell BK113.out 4).trans rfl; have hcz14_5 : w13.cell? ⟨gb113, 5, none⟩ = some (.int .i64 a1_5) := (blk_cell BK113.out 5).trans rfl; have hcz14_6 : w13.cell? ⟨gb113, 6, none⟩ = some (.int .u16 a1_6) := (blk_cell BK113.out 6).trans rfl; have hcz14_7 : w13.cell? ⟨gb113, 7, none⟩ = some (.int .u16 a1_7) := (blk_cell BK113.out 7).trans rfl; have hfz14_0 := blk_frozen BK113.out 0; have hfz14_1 := blk_frozen BK113.out 1; have hfz14_2 := blk_frozen BK113.out 2; have hfz14_3 := blk_frozen BK113.out 3; have hfz14_4 := blk_frozen BK113.out 4; have hfz14_5 := blk_frozen BK113.out 5; have hfz14_6 := blk_frozen BK113.out 6; have hfz14_7 := blk_frozen BK113.out 7) | (go_at_call 28; (first | (with_reducible refine (change_octets.calls a1_4 t117 _ A4.out).mono ?_) | (refine calls_of_args (args' := #[.int .u8 a1_4]) ?_ ?_; focus (first | rfl | (simp; done) | (refine qa_arr ?_; (repeat' (first | rfl | refine qa_cons ?_ ?_ | refine qa_int ?_ | refine qa_agg ?_ | refine qa_arr ?_ | omega)); done)); (with_reducible refine (change_octets.calls a1_4 t117 _ A4.out).mono ?_))); rintro e w' ⟨rfl, ⟨nd, rfl⟩⟩; (try first | exact ⟨rfl, _, World.drewN_drewN _ _ _⟩ | exact ⟨rfl, _, Eq.trans (World.drewN_drewN _ _ _) (congrArg (World.drewN _) (Nat.add_assoc _ _ _))⟩); have hcz15_0 : w13.cell? ⟨gb112, 0, none⟩ = some (.int .u64 a0_0) := (blk_cell BK112.out 0).trans rfl; have hcz15_1 : w13.cell? ⟨gb112, 1, none⟩ = some (.int .u64 a0_1) := (blk_cell BK112.out 1).trans rfl; have hcz15_2 : w13.cell? ⟨gb112, 2, none⟩ = some (.bool a0_2) := (blk_cell BK112.out 2).trans rfl; have hcz15_3 : w13.cell? ⟨gb112, 3, none⟩ = some (.int .u32 a0_3) := (blk_cell BK112.out 3).trans rfl; have hcz15_4 : w13.cell? ⟨gb112, 4, none⟩ = some (.int .u8 a0_4) := (blk_cell BK112.out 4).trans rfl; have hcz15_5 : w13.cell? ⟨gb112, 5, none⟩ = some (.int .i64 a0_5) := (blk_cell BK112.out 5).trans rfl; have hcz15_6 : w13.cell? ⟨gb112, 6, none⟩ = some (.int .u16 a0_6) := (blk_cell BK112.out 6).trans rfl; have hcz15_7 : w13.cell? ⟨gb112, 7, none⟩ = some (.int .u16 a0_7) := (blk_cell BK112.out 7).trans rfl; have hfz15_0 := blk_frozen BK112.out 0; have hfz15_1 := blk_frozen BK112.out 1; have hfz15_2 := blk_frozen BK112.out 2; have hfz15_3 := blk_frozen BK112.out 3; have hfz15_4 := blk_frozen BK112.out 4; have hfz15_5 := blk_frozen BK112.out 5; have hfz15_6 := blk_frozen BK112.out 6; have hfz15_7 := blk_frozen BK112.out 7) | (go_at_call 28; (first | (with_reducible refine (change_octets.calls a0_4 t118 _ A5.out).mono ?_) | (refine calls_of_args (args' := #[.int .u8 a0_4]) ?_ ?_; focus (first | rfl | (simp; done) | (refine qa_arr ?_; (repeat' (first | rfl | refine qa_cons ?_ ?_ | refine qa_int ?_ | refine qa_agg ?_ | refine qa_arr ?_ | omega)); done)); (with_reducible refine (change_octets.calls a0_4 t118 _ A5.out).mono ?_))); rintro e w' ⟨rfl, ⟨nd, rfl⟩⟩; (try first | exact ⟨rfl, _, World.drewN_drewN _ _ _⟩ | exact ⟨rfl, _, Eq.trans (World.drewN_drewN _ _ _) (congrArg (World.drewN _) (Nat.add_assoc _ _ _))⟩))))
 (try simp only [Act.put, la0, la1, la2])
 go_cut [6] (fun v6 wc => ∃ (kq : Nat) (x6_6 : Int), v6 = .int .i64 x6_6 ∧ Aside0 (change_Encode.j1 kq t114 x6_6 a0_0 a0_1 a0_2 a0_3 a0_4 a0_5 a0_6 a0_7 a1_0 a1_1 a1_2 a1_3 a1_4 a1_5 a1_6 a1_7 = some r) ∧ Aside0 (kq ≤ k) ∧ Aside0 (Kd.R (Kd.int .u8) 5 wc w.heap.size (fun _ => True) v115 t114) ∧ Aside0 (wc.heap[gb112]? = some (.cells #[.int .u64 a0_0, .int .u64 a0_1, .bool a0_2, .int .u32 a0_3, .int .u8 a0_4, .int .i64 a0_5, .int .u16 a0_6, .int .u16 a0_7] 31 (0, 0))) ∧ Aside0 (wc.heap[gb113]? = some (.cells #[.int .u64 a1_0, .int .u64 a1_1, .bool a1_2, .int .u32 a1_3, .int .u8 a1_4, .int .i64 a1_5, .int .u16 a1_6, .int .u16 a1_7] 31 (0, 0))) ∧ Aside0 (Below w.heap.size w wc))
 case first =>
  have H := HC7.out
  clear HC7
  have H' := Aside0.mk H
  clear H
  go_wp2
  repeat (go_quiet (fail); try go_wp2)
  go_loopg [6] k (fun kq v6 w' => ∃ (x6_1 : Int), v6 = .int .i64 x6_1 ∧ Aside0 (change_Encode.l0 kq t114 x6_1 ji6 a0_0 a0_1 a0_2 a0_3 a0_4 a0_5 a0_6 a0_7 a1_0 a1_1 a1_2 a1_3 a1_4 a1_5 a1_6 a1_7 = some r) ∧ Aside0 (kq ≤ k) ∧ Aside0 (Kd.R (Kd.int .u8) 5 w' w.heap.size (fun _ => True) v115 t114) ∧ Aside0 (w'.heap[gb112]? = some (.cells #[.int .u64 a0_0, .int .u64 a0_1, .bool a0_2, .int .u32 a0_3, .int .u8 a0_4, .int .i64 a0_5, .int .u16 a0_6, .int .u16 a0_7] 31 (0, 0))) ∧ Aside0 (w'.heap[gb113]? = some (.cells #[.int .u64 a1_0, .int .u64 a1_1, .bool a1_2, .int .u32 a1_3, .int .u8 a1_4, .int .i64 a1_5, .int .u16 a1_6, .int .u16 a1_7] 31 (0, 0))) ∧ Aside0 (Below w.heap.size w w'))
  case atStart => exact ⟨(0), (by first | rfl | (refine qa_int ?_; simp <;> omega)), H', ⟨Nat.le_refl _⟩, ⟨by (with_reducible repeat (first | apply Kd.R_drewN)); exact HO116.out⟩, ⟨by (with_reducible repeat (first | refine blk_drewN ?_ _ | refine blk_alloc ?_ _)); exact BK112.out⟩, ⟨by (with_reducible repeat (first | refine blk_drewN ?_ _ | refine blk_alloc ?_ _)); exact BK113.out⟩, ⟨by repeat (first | (with_reducible first | exact HB.out | apply pw_below_drewN | refine below_set ?_ GE113.out))⟩⟩
  case round =>
   clear H'
   try clear c1
   try clear p2
   try clear c10
   try clear c13
   try clear hcz11_0
   try clear hcz11_1
   try clear hcz11_2
   try clear hcz11_3
   try clear hcz11_4
   try clear hcz11_5
   try clear hcz11_6
   try clear hcz11_7
   try clear hcz12_0
   try clear hcz12_1
   try clear hcz12_2
   try clear hcz12_3
   try clear hcz12_4
   try clear hcz12_5
   try clear hcz12_6
   try clear hcz12_7
   try clear hcz14_0
   try clear hcz14_1
   try clear hcz14_2
   try clear hcz14_3
   try clear hcz14_4
   try clear hcz14_5
   try clear hcz14_6
   try clear hcz14_7
   try clear hcz15_0
   try clear hcz15_1
   try clear hcz15_2
   try clear hcz15_3
   try clear hcz15_4
   try clear hcz15_5
   try clear hcz15_6
   try clear hcz15_7
   try clear hfz11_0
   try clear hfz11_1
   try clear hfz11_2
   try clear hfz11_3
   try clear hfz11_4
   try clear hfz11_5
   try clear hfz11_6
   try clear hfz11_7
   try clear hfz12_0
   try clear hfz12_1
   try clear hfz12_2
   try clear hfz12_3
   try clear hfz12_4
   try clear hfz12_5
   try clear hfz12_6
   try clear hfz12_7
   try clear hfz14_0
   try clear hfz14_1
   try clear hfz14_2
   try clear hfz14_3
   try clear hfz14_4
   try clear hfz14_5
   try clear hfz14_6
   try clear hfz14_7
   try clear hfz15_0
   try clear hfz15_1
   try clear hfz15_2
   try clear hfz15_3
   try clear hfz15_4
   try clear hfz15_5
   try clear hfz15_6
   try clear hfz15_7
   obtain ⟨x6_1, rfl, HA, HK1, HO_5, BK112, BK113, HB⟩ := hrel
   cases gk with
   | zero => exact absurd HA.out (by simp [change_Encode.l0])
   | succ k1 =>
    have H := HA.out
    clear HA
    simp only [change_Encode.l0] at H
    by_cases c16 : x6_1 < ji6
    · rw [if_pos c16] at H
      have c16b0 : decide (x6_1 < ji6) = true := decide_eq_true c16
      clear c16
      (first | skip)
      replace H := Option.bind_eq_some_iff.mp H
      obtain ⟨t119, A170, H⟩ := H
      replace H : ((change_octet.f a0_3 x6_1).bind fun t120 => (if t119 = t120 then (change_Encode.l0 k1 t114 (wrap64 (x6_1 + 1)) ji6 a0_0 a0_1 a0_2 a0_3 a0_4 a0_5 a0_6 a0_7 a1_0 a1_1 a1_2 a1_3 a1_4 a1_5 a1_6 a1_7) else (change_Encode.j1 k1 t114 x6_1 a0_0 a0_1 a0_2 a0_3 a0_4 a0_5 a0_6 a0_7 a1_0 a1_1 a1_2 a1_3 a1_4 a1_5 a1_6 a1_7))) = some r := H
      have A17 := Aside0.mk A170
      clear A170
      replace H := Option.bind_eq_some_iff.mp H
      obtain ⟨t120, A180, H⟩ := H
      replace H : (if t119 = t120 then (change_Encode.l0 k1 t114 (wrap64 (x6_1 + 1)) ji6 a0_0 a0_1 a0_2 a0_3 a0_4 a0_5 a0_6 a0_7 a1_0 a1_1 a1_2 a1_3 a1_4 a1_5 a1_6 a1_7) else (change_Encode.j1 k1 t114 x6_1 a0_0 a0_1 a0_2 a0_3 a0_4 a0_5 a0_6 a0_7 a1_0 a1_1 a1_2 a1_3 a1_4 a1_5 a1_6 a1_7)) = some r := H
      have A18 := Aside0.mk A180
      clear A180
      by_cases c19 : t119 = t120
      · rw [if_pos c19] at H
        have c19b0 : (t119 == t120) = true := beq_iff_eq.mpr c19
        have c19b1 : (t119 != t120) = false := bne_eq_false_iff_eq.mpr c19
        clear c19
        have H' := Aside0.mk H
        clear H
        have hnb20 := NB113_112.out
        have hnc20 := NB112_113.out
        have hcz21_0 : wr.cell? ⟨gb113, 0, none⟩ = some (.int .u64 a1_0) := (blk_cell BK113.out 0).trans rfl
        have hcz21_1 : wr.cell? ⟨gb113, 1, none⟩ = some (.int .u64 a1_1) := (blk_cell BK113.out 1).trans rfl
        have hcz21_2 : wr.cell? ⟨gb113, 2, none⟩ = some (.bool a1_2) := (blk_cell BK113.out 2).trans rfl
        have hcz21_3 : wr.cell? ⟨gb113, 3, none⟩ = some (.int .u32 a1_3) := (blk_cell BK113.out 3).trans rfl
        have hcz21_4 : wr.cell? ⟨gb113, 4, none⟩ = some (.int .u8 a1_4) := (blk_cell BK113.out 4).trans rfl
        have hcz21_5 : wr.cell? ⟨gb113, 5, none⟩ = some (.int .i64 a1_5) := (blk_cell BK113.out 5).trans rfl
        have hcz21_6 : wr.cell? ⟨gb113, 6, none⟩ = some (.int .u16 a1_6) := (blk_cell BK113.out 6).trans rfl
        have hcz21_7 : wr.cell? ⟨gb113, 7, none⟩ = some (.int .u16 a1_7) := (blk_cell BK113.out 7).trans rfl
        have hfz21_0 := blk_frozen BK113.out 0
        have hfz21_1 := blk_frozen BK113.out 1
        have hfz21_2 := blk_frozen BK113.out 2
        have hfz21_3 := blk_frozen BK113.out 3
        have hfz21_4 := blk_frozen BK113.out 4
        have hfz21_5 := blk_frozen BK113.out 5
        have hfz21_6 := blk_frozen BK113.out 6
        have hfz21_7 := blk_frozen BK113.out 7
        go_wp2_with (first | (go_at_call 29; (with_reducible refine (change_octet.calls a1_3 x6_1 t119 _ A17.out).mono ?_); rintro e w' ⟨rfl, ⟨nd, rfl⟩⟩; (try first | exact ⟨rfl, _, World.drewN_drewN _ _ _⟩ | exact ⟨rfl, _, Eq.trans (World.drewN_drewN _ _ _) (congrArg (World.drewN _) (Nat.add_assoc _ _ _))⟩); have hcz22_0 : wr.cell? ⟨gb112, 0, none⟩ = some (.int .u64 a0_0) := (blk_cell BK112.out 0).trans rfl; have hcz22_1 : wr.cell? ⟨gb112, 1, none⟩ = some (.int .u64 a0_1) := (blk_cell BK112.out 1).trans rfl; have hcz22_2 : wr.cell? ⟨gb112, 2, none⟩ = some (.bool a0_2) := (blk_cell BK112.out 2).trans rfl; have hcz22_3 : wr.cell? ⟨gb112, 3, none⟩ = some (.int .u32 a0_3) := (blk_cell BK112.out 3).trans rfl; have hcz22_4 : wr.cell? ⟨gb112, 4, none⟩ = some (.int .u8 a0_4) := (blk_cell BK112.out 4).trans rfl; have hcz22_5 : wr.cell? ⟨gb112, 5, none⟩ = some (.int .i64 a0_5) := (blk_cell BK112.out 5).trans rfl; have hcz22_6 : wr.cell? ⟨gb112, 6, none⟩ = some (.int .u16 a0_6) := (blk_cell BK112.out 6).trans rfl; have hcz22_7 : wr.cell? ⟨gb112, 7, none⟩ = some (.int .u16 a0_7) := (blk_cell BK112.out 7).trans rfl; have hfz22_0 := blk_frozen BK112.out 0; have hfz22_1 := blk_frozen BK112.out 1; have hfz22_2 := blk_frozen BK112.out 2; have hfz22_3 := blk_frozen BK112.out 3; have hfz22_4 := blk_frozen BK112.out 4; have hfz22_5 := blk_frozen BK112.out 5; have hfz22_6 := blk_frozen BK112.out 6; have hfz22_7 := blk_frozen BK112.out 7) | (go_at_call 29; (with_reducible refine (change_octet.calls a0_3 x6_1 t120 _ A18.out).mono ?_); rintro e w' ⟨rfl, ⟨nd, rfl⟩⟩; (try first | exact ⟨rfl, _, World.drewN_drewN _ _ _⟩ | exact ⟨rfl, _, Eq.trans (World.drewN_drewN _ _ _) (congrArg (World.drewN _) (Nat.add_assoc _ _ _))⟩)) | (go_at_call 29; (refine calls_of_args (args' := #[.int .u32 a1_3, .int .i64 x6_1]) ?_ ?_; focus (first | rfl | (simp; done) | (refine qa_arr ?_; (repeat' (first | rfl | refine qa_cons ?_ ?_ | refine qa_int ?_ | refine qa_agg ?_ | refine qa_arr ?_ | omega)); done)); (with_reducible refine (change_octet.calls a1_3 x6_1 t119 _ A17.out).mono ?_)); rintro e w' ⟨rfl, ⟨nd, rfl⟩⟩; (try first | exact ⟨rfl, _, World.drewN_drewN _ _ _⟩ | exact ⟨rfl, _, Eq.trans (World.drewN_drewN _ _ _) (congrArg (World.drewN _) (Nat.add_assoc _ _ _))⟩); have hcz22_0 : wr.cell? ⟨gb112, 0, none⟩ = some (.int .u64 a0_0) := (blk_cell BK112.out 0).trans rfl; have hcz22_1 : wr.cell? ⟨gb112, 1, none⟩ = some (.int .u64 a0_1) := (blk_cell BK112.out 1).trans rfl; have hcz22_2 : wr.cell? ⟨gb112, 2, none⟩ = some (.bool a0_2) := (blk_cell BK112.out 2).trans rfl; have hcz22_3 : wr.cell? ⟨gb112, 3, none⟩ = some (.int .u32 a0_3) := (blk_cell BK112.out 3).trans rfl; have hcz22_4 : wr.cell? ⟨gb112, 4, none⟩ = some (.int .u8 a0_4) := (blk_cell BK112.out 4).trans rfl; have hcz22_5 : wr.cell? ⟨gb112, 5, none⟩ = some (.int .i64 a0_5) := (blk_cell BK112.out 5).trans rfl; have hcz22_6 : wr.cell? ⟨gb112, 6, none⟩ = some (.int .u16 a0_6) := (blk_cell BK112.out 6).trans rfl; have hcz22_7 : wr.cell? ⟨gb112, 7, none⟩ = some (.int .u16 a0_7) := (blk_cell BK112.out 7).trans rfl; have hfz22_0 := blk_frozen BK112.out 0; have hfz22_1 := blk_frozen BK112.out 1; have hfz22_2 := blk_frozen BK112.out 2; have hfz22_3 := blk_frozen BK112.out 3; have hfz22_4 := blk_frozen BK112.out 4; have hfz22_5 := blk_frozen BK112.out 5; have hfz22_6 := blk_frozen BK112.out 6; have hfz22_7 := blk_frozen BK112.out 7) | (go_at_call 29; (refine calls_of_args (args' := #[.int .u32 a0_3, .int .i64 x6_1]) ?_ ?_; focus (first | rfl | (simp; done) | (refine qa_arr ?_; (repeat' (first | rfl | refine qa_cons ?_ ?_ | refine qa_int ?_ | refine qa_agg ?_ | refine qa_arr ?_ | omega)); done)); (with_reducible refine (change_octet.calls a0_3 x6_1 t120 _ A18.out).mono ?_)); rintro e w' ⟨rfl, ⟨nd, rfl⟩⟩; (try first | exact ⟨rfl, _, World.drewN_drewN _ _ _⟩ | exact ⟨rfl, _, Eq.trans (World.drewN_drewN _ _ _) (congrArg (World.drewN _) (Nat.add_assoc _ _ _))⟩)))
        repeat (go_quiet (first | (go_at_call 29; (with_reducible refine (change_octet.calls a1_3 x6_1 t119 _ A17.out).mono ?_); rintro e w' ⟨rfl, ⟨nd, rfl⟩⟩; (try first | exact ⟨rfl, _, World.drewN_drewN _ _ _⟩); have hcz22_0 : wr.cell? ⟨gb112, 0, none⟩ = some (.int .u64 a0_0) := (blk_cell BK112.out 0).trans rfl; have hcz22_1 : wr.cell? ⟨gb112, 1, none⟩ = some (.int .u64 a0_1) := (blk_cell BK112.out 1).trans rfl; have hcz22_2 : wr.cell? ⟨gb112, 2, none⟩ = some (.bool a0_2) := (blk_cell BK112.out 2).trans rfl; have hcz22_3 : wr.cell? ⟨gb112, 3, none⟩ = some (.int .u32 a0_3) := (blk_cell BK112.out 3).trans rfl; have hcz22_4 : wr.cell? ⟨gb112, 4, none⟩ = some (.int .u8 a0_4) := (blk_cell BK112.out 4).trans rfl; have hcz22_5 : wr.cell? ⟨gb112, 5, none⟩ = some (.int .i64 a0_5) := (blk_cell BK112.out 5).trans rfl; have hcz22_6 : wr.cell? ⟨gb112, 6, none⟩ = some (.int .u16 a0_6) := (blk_cell BK112.out 6).trans rfl; have hcz22_7 : wr.cell? ⟨gb112, 7, none⟩ = some (.int .u16 a0_7) := (blk_cell BK112.out 7).trans rfl; have hfz22_0 := blk_frozen BK112.out 0; have hfz22_1 := blk_frozen BK112.out 1; have hfz22_2 := blk_frozen BK112.out 2; have hfz22_3 := blk_frozen BK112.out 3; have hfz22_4 := blk_frozen BK112.out 4; have hfz22_5 := blk_frozen BK112.out 5; have hfz22_6 := blk_frozen BK112.out 6; have hfz22_7 := blk_frozen BK112.out 7) | (go_at_call 29; (with_reducible refine (change_octet.calls a0_3 x6_1 t120 _ A18.out).mono ?_); rintro e w' ⟨rfl, ⟨nd, rfl⟩⟩; (try first | exact ⟨rfl, _, World.drewN_drewN _ _ _⟩)) | (go_at_call 29; (refine calls_of_args (args' := #[.int .u32 a0_3, .int .i64 x6_1]) ?_ ?_; focus (first | rfl | (simp; done) | (refine qa_arr ?_; (repeat' (first | rfl | refine qa_cons ?_ ?_ | refine qa_int ?_ | omega)); done)); (with_reducible refine (change_octet.calls a0_3 x6_1 t120 _ A18.out).mono ?_)); rintro e w' ⟨rfl, ⟨nd, rfl⟩⟩; (try first | exact ⟨rfl, _, World.drewN_drewN _ _ _⟩ | exact ⟨rfl, _, Eq.trans (World.drewN_drewN _ _ _) (congrArg (World.drewN _) (Nat.add_assoc _ _ _))⟩))); try go_wp2_with (first | (go_at_call 29; (with_reducible refine (change_octet.calls a1_3 x6_1 t119 _ A17.out).mono ?_); rintro e w' ⟨rfl, ⟨nd, rfl⟩⟩; (try first | exact ⟨rfl, _, World.drewN_drewN _ _ _⟩ | exact ⟨rfl, _, Eq.trans (World.drewN_drewN _ _ _) (congrArg (World.drewN _) (Nat.add_assoc _ _ _))⟩); have hcz22_0 : wr.cell? ⟨gb112, 0, none⟩ = some (.int .u64 a0_0) := (blk_cell BK112.out 0).trans rfl; have hcz22_1 : wr.cell? ⟨gb112, 1, none⟩ = some (.int .u64 a0_1) := (blk_cell BK112.out 1).trans rfl; have hcz22_2 : wr.cell? ⟨gb112, 2, none⟩ = some (.bool a0_2) := (blk_cell BK112.out 2).trans rfl; have hcz22_3 : wr.cell? ⟨gb112, 3, none⟩ = some (.int .u32 a0_3) := (blk_cell BK112.out 3).trans rfl; have hcz22_4 : wr.cell? ⟨gb112, 4, none⟩ = some (.int .u8 a0_4) := (blk_cell BK112.out 4).trans rfl; have hcz22_5 : wr.cell? ⟨gb112, 5, none⟩ = some (.int .i64 a0_5) := (blk_cell BK112.out 5).trans rfl; have hcz22_6 : wr.cell? ⟨gb112, 6, none⟩ = some (.int .u16 a0_6) := (blk_cell BK112.out 6).trans rfl; have hcz22_7 : wr.cell? ⟨gb112, 7, none⟩ = some (.int .u16 a0_7) := (blk_cell BK112.out 7).trans rfl; have hfz22_0 := blk_frozen BK112.out 0; have hfz22_1 := blk_frozen BK112.out 1; have hfz22_2 := blk_frozen BK112.out 2; have hfz22_3 := blk_frozen BK112.out 3; have hfz22_4 := blk_frozen BK112.out 4; have hfz22_5 := blk_frozen BK112.out 5; have hfz22_6 := blk_frozen BK112.out 6; have hfz22_7 := blk_frozen BK112.out 7) | (go_at_call 29; (with_reducible refine (change_octet.calls a0_3 x6_1 t120 _ A18.out).mono ?_); rintro e w' ⟨rfl, ⟨nd, rfl⟩⟩; (try first | exact ⟨rfl, _, World.drewN_drewN _ _ _⟩ | exact ⟨rfl, _, Eq.trans (World.drewN_drewN _ _ _) (congrArg (World.drewN _) (Nat.add_assoc _ _ _))⟩)) | (go_at_call 29; (refine calls_of_args (args' := #[.int .u32 a1_3, .int .i64 x6_1]) ?_ ?_; focus (first | rfl | (simp; done) | (refine qa_arr ?_; (repeat' (first | rfl | refine qa_cons ?_ ?_ | refine qa_int ?_ | refine qa_agg ?_ | refine qa_arr ?_ | omega)); done)); (with_reducible refine (change_octet.calls a1_3 x6_1 t119 _ A17.out).mono ?_)); rintro e w' ⟨rfl, ⟨nd, rfl⟩⟩; (try first | exact ⟨rfl, _, World.drewN_drewN _ _ _⟩ | exact ⟨rfl, _, Eq.trans (World.drewN_drewN _ _ _) (congrArg (World.drewN _) (Nat.add_assoc _ _ _))⟩); have hcz22_0 : wr.cell? ⟨gb112, 0, none⟩ = some (.int .u64 a0_0) := (blk_cell BK112.out 0).trans rfl; have hcz22_1 : wr.cell? ⟨gb112, 1, none⟩ = some (.int .u64 a0_1) := (blk_cell BK112.out 1).trans rfl; have hcz22_2 : wr.cell? ⟨gb112, 2, none⟩ = some (.bool a0_2) := (blk_cell BK112.out 2).trans rfl; have hcz22_3 : wr.cell? ⟨gb112, 3, none⟩ = some (.int .u32 a0_3) := (blk_cell BK112.out 3).trans rfl; have hcz22_4 : wr.cell? ⟨gb112, 4, none⟩ = some (.int .u8 a0_4) := (blk_cell BK112.out 4).trans rfl; have hcz22_5 : wr.cell? ⟨gb112, 5, none⟩ = some (.int .i64 a0_5) := (blk_cell BK112.out 5).trans rfl; have hcz22_6 : wr.cell? ⟨gb112, 6, none⟩ = some (.int .u16 a0_6) := (blk_cell BK112.out 6).trans rfl; have hcz22_7 : wr.cell? ⟨gb112, 7, none⟩ = some (.int .u16 a0_7) := (blk_cell BK112.out 7).trans rfl; have hfz22_0 := blk_frozen BK112.out 0; have hfz22_1 := blk_frozen BK112.out 1; have hfz22_2 := blk_frozen BK112.out 2; have hfz22_3 := blk_frozen BK112.out 3; have hfz22_4 := blk_frozen BK112.out 4; have hfz22_5 := blk_frozen BK112.out 5; have hfz22_6 := blk_frozen BK112.out 6; have hfz22_7 := blk_frozen BK112.out 7) | (go_at_call 29; (refine calls_of_args (args' := #[.int .u32 a0_3, .int .i64 x6_1]) ?_ ?_; focus (first | rfl | (simp; done) | (refine qa_arr ?_; (repeat' (first | rfl | refine qa_cons ?_ ?_ | refine qa_int ?_ | refine qa_agg ?_ | refine qa_arr ?_ | omega)); done)); (with_reducible refine (change_octet.calls a0_3 x6_1 t120 _ A18.out).mono ?_)); rintro e w' ⟨rfl, ⟨nd, rfl⟩⟩; (try first | exact ⟨rfl, _, World.drewN_drewN _ _ _⟩ | exact ⟨rfl, _, Eq.trans (World.drewN_drewN _ _ _) (congrArg (World.drewN _) (Nat.add_assoc _ _ _))⟩))))
        go_roundg k1
        case measure => have := HK1.out; omega
        case rel => exact ⟨(wrap64 (x6_1 + 1)), (by first | rfl | (refine qa_int ?_; simp <;> omega)), H', ⟨by have := HK1.out; omega⟩, ⟨by (with_reducible repeat (first | apply Kd.R_drewN)); exact HO_5.out⟩, ⟨by (with_reducible repeat (first | refine blk_drewN ?_ _ | refine blk_alloc ?_ _)); exact BK112.out⟩, ⟨by (with_reducible repeat (first | refine blk_drewN ?_ _ | refine blk_alloc ?_ _)); exact BK113.out⟩, ⟨by repeat (first | (with_reducible first | exact HB.out | apply pw_below_drewN | refine below_set ?_ GE113.out))⟩⟩
      · rw [if_neg c19] at H
        have c19b0 : (t119 == t120) = false := beq_eq_false_iff_ne.mpr c19
        have c19b1 : (t119 != t120) = true := bne_iff_ne.mpr c19
        have H' := Aside0.mk H
        clear H
        have hnb23 := NB113_112.out
        have hnc23 := NB112_113.out
        have hcz24_0 : wr.cell? ⟨gb113, 0, none⟩ = some (.int .u64 a1_0) := (blk_cell BK113.out 0).trans rfl
        have hcz24_1 : wr.cell? ⟨gb113, 1, none⟩ = some (.int .u64 a1_1) := (blk_cell BK113.out 1).trans rfl
        have hcz24_2 : wr.cell? ⟨gb113, 2, none⟩ = some (.bool a1_2) := (blk_cell BK113.out 2).trans rfl
        have hcz24_3 : wr.cell? ⟨gb113, 3, none⟩ = some (.int .u32 a1_3) := (blk_cell BK113.out 3).trans rfl
        have hcz24_4 : wr.cell? ⟨gb113, 4, none⟩ = some (.int .u8 a1_4) := (blk_cell BK113.out 4).trans rfl
        have hcz24_5 : wr.cell? ⟨gb113, 5, none⟩ = some (.int .i64 a1_5) := (blk_cell BK113.out 5).trans rfl
        have hcz24_6 : wr.cell? ⟨gb113, 6, none⟩ = some (.int .u16 a1_6) := (blk_cell BK113.out 6).trans rfl
        have hcz24_7 : wr.cell? ⟨gb113, 7, none⟩ = some (.int .u16 a1_7) := (blk_cell BK113.out 7).trans rfl
        have hfz24_0 := blk_frozen BK113.out 0
        have hfz24_1 := blk_frozen BK113.out 1
        have hfz24_2 := blk_frozen BK113.out 2
        have hfz24_3 := blk_frozen BK113.out 3
        have hfz24_4 := blk_frozen BK113.out 4
        have hfz24_5 := blk_frozen BK113.out 5
        have hfz24_6 := blk_frozen BK113.out 6
        have hfz24_7 := blk_frozen BK113.out 7
        go_wp2_with (first | (go_at_call 29; (with_reducible refine (change_octet.calls a1_3 x6_1 t119 _ A17.out).mono ?_); rintro e w' ⟨rfl, ⟨nd, rfl⟩⟩; (try first | exact ⟨rfl, _, World.drewN_drewN _ _ _⟩ | exact ⟨rfl, _, Eq.trans (World.drewN_drewN _ _ _) (congrArg (World.drewN _) (Nat.add_assoc _ _ _))⟩); have hcz25_0 : wr.cell? ⟨gb112, 0, none⟩ = some (.int .u64 a0_0) := (blk_cell BK112.out 0).trans rfl; have hcz25_1 : wr.cell? ⟨gb112, 1, none⟩ = some (.int .u64 a0_1) := (blk_cell BK112.out 1).trans rfl; have hcz25_2 : wr.cell? ⟨gb112, 2, none⟩ = some (.bool a0_2) := (blk_cell BK112.out 2).trans rfl; have hcz25_3 : wr.cell? ⟨gb112, 3, none⟩ = some (.int .u32 a0_3) := (blk_cell BK112.out 3).trans rfl; have hcz25_4 : wr.cell? ⟨gb112, 4, none⟩ = some (.int .u8 a0_4) := (blk_cell BK112.out 4).trans rfl; have hcz25_5 : wr.cell? ⟨gb112, 5, none⟩ = some (.int .i64 a0_5) := (blk_cell BK112.out 5).trans rfl; have hcz25_6 : wr.cell? ⟨gb112, 6, none⟩ = some (.int .u16 a0_6) := (blk_cell BK112.out 6).trans rfl; have hcz25_7 : wr.cell? ⟨gb112, 7, none⟩ = some (.int .u16 a0_7) := (blk_cell BK112.out 7).trans rfl; have hfz25_0 := blk_frozen BK112.out 0; have hfz25_1 := blk_frozen BK112.out 1; have hfz25_2 := blk_frozen BK112.out 2; have hfz25_3 := blk_frozen BK112.out 3; have hfz25_4 := blk_frozen BK112.out 4; have hfz25_5 := blk_frozen BK112.out 5; have hfz25_6 := blk_frozen BK112.out 6; have hfz25_7 := blk_frozen BK112.out 7) | (go_at_call 29; (with_reducible refine (change_octet.calls a0_3 x6_1 t120 _ A18.out).mono ?_); rintro e w' ⟨rfl, ⟨nd, rfl⟩⟩; (try first | exact ⟨rfl, _, World.drewN_drewN _ _ _⟩ | exact ⟨rfl, _, Eq.trans (World.drewN_drewN _ _ _) (congrArg (World.drewN _) (Nat.add_assoc _ _ _))⟩)) | (go_at_call 29; (refine calls_of_args (args' := #[.int .u32 a1_3, .int .i64 x6_1]) ?_ ?_; focus (first | rfl | (simp; done) | (refine qa_arr ?_; (repeat' (first | rfl | refine qa_cons ?_ ?_ | refine qa_int ?_ | refine qa_agg ?_ | refine qa_arr ?_ | omega)); done)); (with_reducible refine (change_octet.calls a1_3 x6_1 t119 _ A17.out).mono ?_)); rintro e w' ⟨rfl, ⟨nd, rfl⟩⟩; (try first | exact ⟨rfl, _, World.drewN_drewN _ _ _⟩ | exact ⟨rfl, _, Eq.trans (World.drewN_drewN _ _ _) (congrArg (World.drewN _) (Nat.add_assoc _ _ _))⟩); have hcz25_0 : wr.cell? ⟨gb112, 0, none⟩ = some (.int .u64 a0_0) := (blk_cell BK112.out 0).trans rfl; have hcz25_1 : wr.cell? ⟨gb112, 1, none⟩ = some (.int .u64 a0_1) := (blk_cell BK112.out 1).trans rfl; have hcz25_2 : wr.cell? ⟨gb112, 2, none⟩ = some (.bool a0_2) := (blk_cell BK112.out 2).trans rfl; have hcz25_3 : wr.cell? ⟨gb112, 3, none⟩ = some (.int .u32 a0_3) := (blk_cell BK112.out 3).trans rfl; have hcz25_4 : wr.cell? ⟨gb112, 4, none⟩ = some (.int .u8 a0_4) := (blk_cell BK112.out 4).trans rfl; have hcz25_5 : wr.cell? ⟨gb112, 5, none⟩ = some (.int .i64 a0_5) := (blk_cell BK112.out 5).trans rfl; have hcz25_6 : wr.cell? ⟨gb112, 6, none⟩ = some (.int .u16 a0_6) := (blk_cell BK112.out 6).trans rfl; have hcz25_7 : wr.cell? ⟨gb112, 7, none⟩ = some (.int .u16 a0_7) := (blk_cell BK112.out 7).trans rfl; have hfz25_0 := blk_frozen BK112.out 0; have hfz25_1 := blk_frozen BK112.out 1; have hfz25_2 := blk_frozen BK112.out 2; have hfz25_3 := blk_frozen BK112.out 3; have hfz25_4 := blk_frozen BK112.out 4; have hfz25_5 := blk_frozen BK112.out 5; have hfz25_6 := blk_frozen BK112.out 6; have hfz25_7 := blk_frozen BK112.out 7) | (go_at_call 29; (refine calls_of_args (args' := #[.int .u32 a0_3, .int .i64 x6_1]) ?_ ?_; focus (first | rfl | (simp; done) | (refine qa_arr ?_; (repeat' (first | rfl | refine qa_cons ?_ ?_ | refine qa_int ?_ | refine qa_agg ?_ | refine qa_arr ?_ | omega)); done)); (with_reducible refine (change_octet.calls a0_3 x6_1 t120 _ A18.out).mono ?_)); rintro e w' ⟨rfl, ⟨nd, rfl⟩⟩; (try first | exact ⟨rfl, _, World.drewN_drewN _ _ _⟩ | exact ⟨rfl, _, Eq.trans (World.drewN_drewN _ _ _) (congrArg (World.drewN _) (Nat.add_assoc _ _ _))⟩)))
        repeat (go_quiet (first | (go_at_call 29; (with_reducible refine (change_octet.calls a1_3 x6_1 t119 _ A17.out).mono ?_); rintro e w' ⟨rfl, ⟨nd, rfl⟩⟩; (try first | exact ⟨rfl, _, World.drewN_drewN _ _ _⟩); have hcz25_0 : wr.cell? ⟨gb112, 0, none⟩ = some (.int .u64 a0_0) := (blk_cell BK112.out 0).trans rfl; have hcz25_1 : wr.cell? ⟨gb112, 1, none⟩ = some (.int .u64 a0_1) := (blk_cell BK112.out 1).trans rfl; have hcz25_2 : wr.cell? ⟨gb112, 2, none⟩ = some (.bool a0_2) := (blk_cell BK112.out 2).trans rfl; have hcz25_3 : wr.cell? ⟨gb112, 3, none⟩ = some (.int .u32 a0_3) := (blk_cell BK112.out 3).trans rfl; have hcz25_4 : wr.cell? ⟨gb112, 4, none⟩ = some (.int .u8 a0_4) := (blk_cell BK112.out 4).trans rfl; have hcz25_5 : wr.cell? ⟨gb112, 5, none⟩ = some (.int .i64 a0_5) := (blk_cell BK112.out 5).trans rfl; have hcz25_6 : wr.cell? ⟨gb112, 6, none⟩ = some (.int .u16 a0_6) := (blk_cell BK112.out 6).trans rfl; have hcz25_7 : wr.cell? ⟨gb112, 7, none⟩ = some (.int .u16 a0_7) := (blk_cell BK112.out 7).trans rfl; have hfz25_0 := blk_frozen BK112.out 0; have hfz25_1 := blk_frozen BK112.out 1; have hfz25_2 := blk_frozen BK112.out 2; have hfz25_3 := blk_frozen BK112.out 3; have hfz25_4 := blk_frozen BK112.out 4; have hfz25_5 := blk_frozen BK112.out 5; have hfz25_6 := blk_frozen BK112.out 6; have hfz25_7 := blk_frozen BK112.out 7) | (go_at_call 29; (with_reducible refine (change_octet.calls a0_3 x6_1 t120 _ A18.out).mono ?_); rintro e w' ⟨rfl, ⟨nd, rfl⟩⟩; (try first | exact ⟨rfl, _, World.drewN_drewN _ _ _⟩)) | (go_at_call 29; (refine calls_of_args (args' := #[.int .u32 a0_3, .int .i64 x6_1]) ?_ ?_; focus (first | rfl | (simp; done) | (refine qa_arr ?_; (repeat' (first | rfl | refine qa_cons ?_ ?_ | refine qa_int ?_ | omega)); done)); (with_reducible refine (change_octet.calls a0_3 x6_1 t120 _ A18.out).mono ?_)); rintro e w' ⟨rfl, ⟨nd, rfl⟩⟩; (try first | exact ⟨rfl, _, World.drewN_drewN _ _ _⟩ | exact ⟨rfl, _, Eq.trans (World.drewN_drewN _ _ _) (congrArg (World.drewN _) (Nat.add_assoc _ _ _))⟩))); try go_wp2_with (first | (go_at_call 29; (with_reducible refine (change_octet.calls a1_3 x6_1 t119 _ A17.out).mono ?_); rintro e w' ⟨rfl, ⟨nd, rfl⟩⟩; (try first | exact ⟨rfl, _, World.drewN_drewN _ _ _⟩ | exact ⟨rfl, _, Eq.trans (World.drewN_drewN _ _ _) (congrArg (World.drewN _) (Nat.add_assoc _ _ _))⟩); have hcz25_0 : wr.cell? ⟨gb112, 0, none⟩ = some (.int .u64 a0_0) := (blk_cell BK112.out 0).trans rfl; have hcz25_1 : wr.cell? ⟨gb112, 1, none⟩ = some (.int .u64 a0_1) := (blk_cell BK112.out 1).trans rfl; have hcz25_2 : wr.cell? ⟨gb112, 2, none⟩ = some (.bool a0_2) := (blk_cell BK112.out 2).trans rfl; have hcz25_3 : wr.cell? ⟨gb112, 3, none⟩ = some (.int .u32 a0_3) := (blk_cell BK112.out 3).trans rfl; have hcz25_4 : wr.cell? ⟨gb112, 4, none⟩ = some (.int .u8 a0_4) := (blk_cell BK112.out 4).trans rfl; have hcz25_5 : wr.cell? ⟨gb112, 5, none⟩ = some (.int .i64 a0_5) := (blk_cell BK112.out 5).trans rfl; have hcz25_6 : wr.cell? ⟨gb112, 6, none⟩ = some (.int .u16 a0_6) := (blk_cell BK112.out 6).trans rfl; have hcz25_7 : wr.cell? ⟨gb112, 7, none⟩ = some (.int .u16 a0_7) := (blk_cell BK112.out 7).trans rfl; have hfz25_0 := blk_frozen BK112.out 0; have hfz25_1 := blk_frozen BK112.out 1; have hfz25_2 := blk_frozen BK112.out 2; have hfz25_3 := blk_frozen BK112.out 3; have hfz25_4 := blk_frozen BK112.out 4; have hfz25_5 := blk_frozen BK112.out 5; have hfz25_6 := blk_frozen BK112.out 6; have hfz25_7 := blk_frozen BK112.out 7) | (go_at_call 29; (with_reducible refine (change_octet.calls a0_3 x6_1 t120 _ A18.out).mono ?_); rintro e w' ⟨rfl, ⟨nd, rfl⟩⟩; (try first | exact ⟨rfl, _, World.drewN_drewN _ _ _⟩ | exact ⟨rfl, _, Eq.trans (World.drewN_drewN _ _ _) (congrArg (World.drewN _) (Nat.add_assoc _ _ _))⟩)) | (go_at_call 29; (refine calls_of_args (args' := #[.int .u32 a1_3, .int .i64 x6_1]) ?_ ?_; focus (first | rfl | (simp; done) | (refine qa_arr ?_; (repeat' (first | rfl | refine qa_cons ?_ ?_ | refine qa_int ?_ | refine qa_agg ?_ | refine qa_arr ?_ | omega)); done)); (with_reducible refine (change_octet.calls a1_3 x6_1 t119 _ A17.out).mono ?_)); rintro e w' ⟨rfl, ⟨nd, rfl⟩⟩; (try first | exact ⟨rfl, _, World.drewN_drewN _ _ _⟩ | exact ⟨rfl, _, Eq.trans (World.drewN_drewN _ _ _) (congrArg (World.drewN _) (Nat.add_assoc _ _ _))⟩); have hcz25_0 : wr.cell? ⟨gb112, 0, none⟩ = some (.int .u64 a0_0) := (blk_cell BK112.out 0).trans rfl; have hcz25_1 : wr.cell? ⟨gb112, 1, none⟩ = some (.int .u64 a0_1) := (blk_cell BK112.out 1).trans rfl; have hcz25_2 : wr.cell? ⟨gb112, 2, none⟩ = some (.bool a0_2) := (blk_cell BK112.out 2).trans rfl; have hcz25_3 : wr.cell? ⟨gb112, 3, none⟩ = some (.int .u32 a0_3) := (blk_cell BK112.out 3).trans rfl; have hcz25_4 : wr.cell? ⟨gb112, 4, none⟩ = some (.int .u8 a0_4) := (blk_cell BK112.out 4).trans rfl; have hcz25_5 : wr.cell? ⟨gb112, 5, none⟩ = some (.int .i64 a0_5) := (blk_cell BK112.out 5).trans rfl; have hcz25_6 : wr.cell? ⟨gb112, 6, none⟩ = some (.int .u16 a0_6) := (blk_cell BK112.out 6).trans rfl; have hcz25_7 : wr.cell? ⟨gb112, 7, none⟩ = some (.int .u16 a0_7) := (blk_cell BK112.out 7).trans rfl; have hfz25_0 := blk_frozen BK112.out 0; have hfz25_1 := blk_frozen BK112.out 1; have hfz25_2 := blk_frozen BK112.out 2; have hfz25_3 := blk_frozen BK112.out 3; have hfz25_4 := blk_frozen BK112.out 4; have hfz25_5 := blk_frozen BK112.out 5; have hfz25_6 := blk_frozen BK112.out 6; have hfz25_7 := blk_frozen BK112.out 7) | (go_at_call 29; (refine calls_of_args (args' := #[.int .u32 a0_3, .int .i64 x6_1]) ?_ ?_; focus (first | rfl | (simp; done) | (refine qa_arr ?_; (repeat' (first | rfl | refine qa_cons ?_ ?_ | refine qa_int ?_ | refine qa_agg ?_ | refine qa_arr ?_ | omega)); done)); (with_reducible refine (change_octet.calls a0_3 x6_1 t120 _ A18.out).mono ?_)); rintro e w' ⟨rfl, ⟨nd, rfl⟩⟩; (try first | exact ⟨rfl, _, World.drewN_drewN _ _ _⟩ | exact ⟨rfl, _, Eq.trans (World.drewN_drewN _ _ _) (congrArg (World.drewN _) (Nat.add_assoc _ _ _))⟩))))
        go_meet
        case rel => exact ⟨_, (x6_1), (by first | rfl | (refine qa_int ?_; simp <;> omega)), H', ⟨by have := HK1.out; first | omega⟩, ⟨by (with_reducible repeat (first | apply Kd.R_drewN)); exact HO_5.out⟩, ⟨by (with_reducible repeat (first | refine blk_drewN ?_ _ | refine blk_alloc ?_ _)); exact BK112.out⟩, ⟨by (with_reducible repeat (first | refine blk_drewN ?_ _ | refine blk_alloc ?_ _)); exact BK113.out⟩, ⟨by repeat (first | (with_reducible first | exact HB.out | apply pw_below_drewN | refine below_set ?_ GE113.out))⟩⟩
    · rw [if_neg c16] at H
      have c16b0 : decide (x6_1 < ji6) = false := decide_eq_false c16
      clear c16
      (first | skip)
      have H' := Aside0.mk H
      clear H
      go_wp2
      repeat (go_quiet (fail); try go_wp2)
      go_meet
      case rel => exact ⟨_, (x6_1), (by first | rfl | (refine qa_int ?_; simp <;> omega)), H', ⟨by have := HK1.out; first | omega⟩, ⟨by (with_reducible repeat (first | apply Kd.R_drewN)); exact HO_5.out⟩, ⟨by (with_reducible repeat (first | refine blk_drewN ?_ _ | refine blk_alloc ?_ _)); exact BK112.out⟩, ⟨by (with_reducible repeat (first | refine blk_drewN ?_ _ | refine blk_alloc ?_ _)); exact BK113.out⟩, ⟨by repeat (first | (with_reducible first | exact HB.out | apply pw_below_drewN | refine below_set ?_ GE113.out))⟩⟩
 case rest =>
  clear HC7
  try clear c1
  try clear c2
  try clear p2
  try clear p6
  try clear c10
  try clear c13
  try clear c16
  try clear c16b0
  try clear c19
  try clear c19b0
  try clear c19b1
  try clear c20
  try clear c23
  try clear hcz11_0
  try clear hcz11_1
  try clear hcz11_2
  try clear hcz11_3
  try clear hcz11_4
  try clear hcz11_5
  try clear hcz11_6
  try clear hcz11_7
  try clear hcz12_0
  try clear hcz12_1
  try clear hcz12_2
  try clear hcz12_3
  try clear hcz12_4
  try clear hcz12_5
  try clear hcz12_6
  try clear hcz12_7
  try clear hcz14_0
  try clear hcz14_1
  try clear hcz14_2
  try clear hcz14_3
  try clear hcz14_4
  try clear hcz14_5
  try clear hcz14_6
  try clear hcz14_7
  try clear hcz15_0
  try clear hcz15_1
  try clear hcz15_2
  try clear hcz15_3
  try clear hcz15_4
  try clear hcz15_5
  try clear hcz15_6
  try clear hcz15_7
  try clear hcz21_0
  try clear hcz21_1
  try clear hcz21_2
  try clear hcz21_3
  try clear hcz21_4
  try clear hcz21_5
  try clear hcz21_6
  try clear hcz21_7
  try clear hcz22_0
  try clear hcz22_1
  try clear hcz22_2
  try clear hcz22_3
  try clear hcz22_4
  try clear hcz22_5
  try clear hcz22_6
  try clear hcz22_7
  try clear hcz24_0
  try clear hcz24_1
  try clear hcz24_2
  try clear hcz24_3
  try clear hcz24_4
  try clear hcz24_5
  try clear hcz24_6
  try clear hcz24_7
  try clear hcz25_0
  try clear hcz25_1
  try clear hcz25_2
  try clear hcz25_3
  try clear hcz25_4
  try clear hcz25_5
  try clear hcz25_6
  try clear hcz25_7
  try clear hfz11_0
  try clear hfz11_1
  try clear hfz11_2
  try clear hfz11_3
  try clear hfz11_4
  try clear hfz11_5
  try clear hfz11_6
  try clear hfz11_7
  try clear hfz12_0
  try clear hfz12_1
  try clear hfz12_2
  try clear hfz12_3
  try clear hfz12_4
  try clear hfz12_5
  try clear hfz12_6
  try clear hfz12_7
  try clear hfz14_0
  try clear hfz14_1
  try clear hfz14_2
  try clear hfz14_3
  try clear hfz14_4
  try clear hfz14_5
  try clear hfz14_6
  try clear hfz14_7
  try clear hfz15_0
  try clear hfz15_1
  try clear hfz15_2
  try clear hfz15_3
  try clear hfz15_4
  try clear hfz15_5
  try clear hfz15_6
  try clear hfz15_7
  try clear hfz21_0
  try clear hfz21_1
  try clear hfz21_2
  try clear hfz21_3
  try clear hfz21_4
  try clear hfz21_5
  try clear hfz21_6
  try clear hfz21_7
  try clear hfz22_0
  try clear hfz22_1
  try clear hfz22_2
  try clear hfz22_3
  try clear hfz22_4
  try clear hfz22_5
  try clear hfz22_6
  try clear hfz22_7
  try clear hfz24_0
  try clear hfz24_1
  try clear hfz24_2
  try clear hfz24_3
  try clear hfz24_4
  try clear hfz24_5
  try clear hfz24_6
  try clear hfz24_7
  try clear hfz25_0
  try clear hfz25_1
  try clear hfz25_2
  try clear hfz25_3
  try clear hfz25_4
  try clear hfz25_5
  try clear hfz25_6
  try clear hfz25_7
  try clear p2
  obtain ⟨kq, x6_6, rfl, HA, HJ6, HO_5, BK112, BK113, HB⟩ := hcut
  cases kq with
  | zero => exact absurd HA.out (by simp [change_Encode.j1])
  | succ kj6 =>
   have H := HA.out
   clear HA
   simp only [change_Encode.j1] at H
   have HC26 := Aside0.mk H
   clear H
   have hnb27 := NB113_112.out
   have hnc27 := NB112_113.out
   have hcz28_0 : wc.cell? ⟨gb113, 0, none⟩ = some (.int .u64 a1_0) := (blk_cell BK113.out 0).trans rfl
   have hcz28_1 : wc.cell? ⟨gb113, 1, none⟩ = some (.int .u64 a1_1) := (blk_cell BK113.out 1).trans rfl
   have hcz28_2 : wc.cell? ⟨gb113, 2, none⟩ = some (.bool a1_2) := (blk_cell BK113.out 2).trans rfl
   have hcz28_3 : wc.cell? ⟨gb113, 3, none⟩ = some (.int .u32 a1_3) := (blk_cell BK113.out 3).trans rfl
   have hcz28_4 : wc.cell? ⟨gb113, 4, none⟩ = some (.int .u8 a1_4) := (blk_cell BK113.out 4).trans rfl
   have hcz28_5 : wc.cell? ⟨gb113, 5, none⟩ = some (.int .i64 a1_5) := (blk_cell BK113.out 5).trans rfl
   have hcz28_6 : wc.cell? ⟨gb113, 6, none⟩ = some (.int .u16 a1_6) := (blk_cell BK113.out 6).trans rfl
   have hcz28_7 : wc.cell? ⟨gb113, 7, none⟩ = some (.int .u16 a1_7) := (blk_cell BK113.out 7).trans rfl
   have hfz28_0 := blk_frozen BK113.out 0
   have hfz28_1 := blk_frozen BK113.out 1
   have hfz28_2 := blk_frozen BK113.out 2
   have hfz28_3 := blk_frozen BK113.out 3
   have hfz28_4 := blk_frozen BK113.out 4
   have hfz28_5 := blk_frozen BK113.out 5
   have hfz28_6 := blk_frozen BK113.out 6
   have hfz28_7 := blk_frozen BK113.out 7
   go_upto_if 58 with (fail)
   repeat (go_quiet (fail); go_upto_if 58 with (fail))
   go_cut [8] (fun v8 wc => ∃ (kq : Nat) (x8_25 : Int), v8 = .int .u64 x8_25 ∧ Aside0 (change_Encode.j2 kq t114 x6_6 x8_25 a0_0 a0_1 a0_2 a0_3 a0_4 a0_5 a0_6 a0_7 a1_0 a1_1 a1_2 a1_3 a1_4 a1_5 a1_6 a1_7 = some r) ∧ Aside0 (kq ≤ kj6) ∧ Aside0 (Kd.R (Kd.int .u8) 5 wc w.heap.size (fun _ => True) v115 t114) ∧ Aside0 (wc.heap[gb112]? = some (.cells #[.int .u64 a0_0, .int .u64 a0_1, .bool a0_2, .int .u32 a0_3, .int .u8 a0_4, .int .i64 a0_5, .int .u16 a0_6, .int .u16 a0_7] 31 (0, 0))) ∧ Aside0 (wc.heap[gb113]? = some (.cells #[.int .u64 a1_0, .int .u64 a1_1, .bool a1_2, .int .u32 a1_3, .int .u8 a1_4, .int .i64 a1_5, .int .u16 a1_6, .int .u16 a1_7] 31 (0, 0))) ∧ Aside0 (Below w.heap.size w wc))
   case first =>
    have H := HC26.out
    clear HC26
    by_cases c29 : a1_2 = true
    · subst c29
      have H1 : (change_Encode.j2 kj6 t114 x6_6 (Go.bits .or .u64 (Go.bits .or .u64 (IntKind.u64.wrap ((IntKind.u64.wrap (a1_4)) * 16)) (IntKind.u64.wrap ((IntKind.u64.wrap (x6_6)) * 2))) 1) a0_0 a0_1 a0_2 a0_3 a0_4 a0_5 a0_6 a0_7 a1_0 a1_1 true a1_3 a1_4 a1_5 a1_6 a1_7) = some r := by rw [if_pos rfl] at H; exact H
      clear H
      have H := H1
      clear H1
      have H' := Aside0.mk H
      clear H
      go_wp2
      repeat (go_quiet (fail); try go_wp2)
      go_meet
      case rel => exact ⟨_, (Go.bits .or .u64 (Go.bits .or .u64 (IntKind.u64.wrap ((IntKind.u64.wrap (a1_4)) * 16)) (IntKind.u64.wrap ((IntKind.u64.wrap (x6_6)) * 2))) 1), (by first | rfl | (refine qa_int ?_; simp <;> omega)), H', ⟨by have := HJ6.out; first | omega⟩, ⟨by exact HO_5.out⟩, ⟨by exact BK112.out⟩, ⟨by exact BK113.out⟩, ⟨by repeat (first | (with_reducible first | exact HB.out | refine below_set ?_ GE113.out))⟩⟩
    · replace c29 := Bool.eq_false_iff.mpr c29
      subst c29
      have H1 : (change_Encode.j2 kj6 t114 x6_6 (Go.bits .or .u64 (IntKind.u64.wrap ((IntKind.u64.wrap (a1_4)) * 16)) (IntKind.u64.wrap ((IntKind.u64.wrap (x6_6)) * 2))) a0_0 a0_1 a0_2 a0_3 a0_4 a0_5 a0_6 a0_7 a1_0 a1_1 false a1_3 a1_4 a1_5 a1_6 a1_7) = some r := by rw [if_neg (show ¬ (false = true) by decide)] at H; exact H
      clear H
      have H := H1
      clear H1
      have H' := Aside0.mk H
      clear H
      go_wp2
      repeat (go_quiet (fail); try go_wp2)
      go_meet
      case rel => exact ⟨_, (Go.bits .or .u64 (IntKind.u64.wrap ((IntKind.u64.wrap (a1_4)) * 16)) (IntKind.u64.wrap ((IntKind.u64.wrap (x6_6)) * 2))), (by first | rfl | (refine qa_int ?_; simp <;> omega)), H', ⟨by have := HJ6.out; first | omega⟩, ⟨by exact HO_5.out⟩, ⟨by exact BK112.out⟩, ⟨by exact BK113.out⟩, ⟨by repeat (first | (with_reducible first | exact HB.out | refine below_set ?_ GE113.out))⟩⟩
   case rest =>
    clear HC26
    try clear c1
    try clear c2
    try clear p2
    try clear p6
    try clear c10
    try clear c13
    try clear c16
    try clear c16b0
    try clear c19
    try clear c19b0
    try clear c19b1
    try clear c20
    try clear c23
    try clear c27
    try clear c29
    try clear hcz11_0
    try clear hcz11_1
    try clear hcz11_2
    try clear hcz11_3
    try clear hcz11_4
    try clear hcz11_5
    try clear hcz11_6
    try clear hcz11_7
    try clear hcz12_0
    try clear hcz12_1
    try clear hcz12_2
    try clear hcz12_3
    try clear hcz12_4
    try clear hcz12_5
    try clear hcz12_6
    try clear hcz12_7
    try clear hcz14_0
    try clear hcz14_1
    try clear hcz14_2
    try clear hcz14_3
    try clear hcz14_4
    try clear hcz14_5
    try clear hcz14_6
    try clear hcz14_7
    try clear hcz15_0
    try clear hcz15_1
    try clear hcz15_2
    try clear hcz15_3
    try clear hcz15_4
    try clear hcz15_5
    try clear hcz15_6
    try clear hcz15_7
    try clear hcz21_0
    try clear hcz21_1
    try clear hcz21_2
    try clear hcz21_3
    try clear hcz21_4
    try clear hcz21_5
    try clear hcz21_6
    try clear hcz21_7
    try clear hcz22_0
    try clear hcz22_1
    try clear hcz22_2
    try clear hcz22_3
    try clear hcz22_4
    try clear hcz22_5
    try clear hcz22_6
    try clear hcz22_7
    try clear hcz24_0
    try clear hcz24_1
    try clear hcz24_2
    try clear hcz24_3
    try clear hcz24_4
    try clear hcz24_5
    try clear hcz24_6
    try clear hcz24_7
    try clear hcz25_0
    try clear hcz25_1
    try clear hcz25_2
    try clear hcz25_3
    try clear hcz25_4
    try clear hcz25_5
    try clear hcz25_6
    try clear hcz25_7
    try clear hcz28_0
    try clear hcz28_1
    try clear hcz28_2
    try clear hcz28_3
    try clear hcz28_4
    try clear hcz28_5
    try clear hcz28_6
    try clear hcz28_7
    try clear hfz11_0
    try clear hfz11_1
    try clear hfz11_2
    try clear hfz11_3
    try clear hfz11_4
    try clear hfz11_5
    try clear hfz11_6
    try clear hfz11_7
    try clear hfz12_0
    try clear hfz12_1
    try clear hfz12_2
    try clear hfz12_3
    try clear hfz12_4
    try clear hfz12_5
    try clear hfz12_6
    try clear hfz12_7
    try clear hfz14_0
    try clear hfz14_1
    try clear hfz14_2
    try clear hfz14_3
    try clear hfz14_4
    try clear hfz14_5
    try clear hfz14_6
    try clear hfz14_7
    try clear hfz15_0
    try clear hfz15_1
    try clear hfz15_2
    try clear hfz15_3
    try clear hfz15_4
    try clear hfz15_5
    try clear hfz15_6
    try clear hfz15_7
    try clear hfz21_0
    try clear hfz21_1
    try clear hfz21_2
    try clear hfz21_3
    try clear hfz21_4
    try clear hfz21_5
    try clear hfz21_6
    try clear hfz21_7
    try clear hfz22_0
    try clear hfz22_1
    try clear hfz22_2
    try clear hfz22_3
    try clear hfz22_4
    try clear hfz22_5
    try clear hfz22_6
    try clear hfz22_7
    try clear hfz24_0
    try clear hfz24_1
    try clear hfz24_2
    try clear hfz24_3
    try clear hfz24_4
    try clear hfz24_5
    try clear hfz24_6
    try clear hfz24_7
    try clear hfz25_0
    try clear hfz25_1
    try clear hfz25_2
    try clear hfz25_3
    try clear hfz25_4
    try clear hfz25_5
    try clear hfz25_6
    try clear hfz25_7
    try clear hfz28_0
    try clear hfz28_1
    try clear hfz28_2
    try clear hfz28_3
    try clear hfz28_4
    try clear hfz28_5
    try clear hfz28_6
    try clear hfz28_7
    try clear p2
    try clear p6
    obtain ⟨kq, x8_25, rfl, HA, HJ25, HO_5, BK112, BK113, HB⟩ := hcut
    cases kq with
    | zero => exact absurd HA.out (by simp [change_Encode.j2])
    | succ kj25 =>
     have H := HA.out
     clear HA
     simp only [change_Encode.j2] at H
     replace H := Option.bind_eq_some_iff.mp H
     obtain ⟨t121, A300, H⟩ := H
     replace H : (change_Encode.l1 kj25 t121 x6_6 a0_0 a0_1 a0_2 a0_3 a0_4 a0_5 a0_6 a0_7 a1_0 a1_1 a1_2 a1_3 a1_4 a1_5 a1_6 a1_7) = some r := H
     have A30 := Aside0.mk A300
     clear A300
     have H' := Aside0.mk H
     clear H
     obtain ⟨Ao31, co31, eo31⟩ := Kd.R_slice HO_5.out
     subst eo31
     go_wp2_with (first | (go_at_call 27; (with_reducible refine (coin_Put.calls kj25 (fun k_ => some k_ = (.slice Ao31 t114.length co31 : Value).ownBlock) (.slice Ao31 t114.length co31) t114 x8_25 t121 w _ ?side1 ?side2 A30.out).mono ?_); (case side1 => repeat (first | (with_reducible first | exact HB.out | refine below_set ?_ GE113.out))); (case side2 => exact Kd.R_tight rfl HO_5.out); rintro e w32 ⟨v122, rfl, ho0, hb, hkp⟩; have n0_ := Aside0.mk (blk_kept (o := .cells #[.int .u64 a0_0, .int .u64 a0_1, .bool a0_2, .int .u32 a0_3, .int .u8 a0_4, .int .i64 a0_5, .int .u16 a0_6, .int .u16 a0_7] 31 (0, 0)) (by exact BK112.out) hkp (fun hs_ => (fun e_ => (Kd.R_ne HO_5.out BK112.out (by decide)) e_) hs_)); have n1_ := Aside0.mk (blk_kept (o := .cells #[.int .u64 a1_0, .int .u64 a1_1, .bool a1_2, .int .u32 a1_3, .int .u8 a1_4, .int .i64 a1_5, .int .u16 a1_6, .int .u16 a1_7] 31 (0, 0)) (by exact BK113.out) hkp (fun hs_ => (fun e_ => (Kd.R_ne HO_5.out BK113.out (by decide)) e_) hs_)); have n2_ := Aside0.mk (Kd.R_mono (ok' := fun k_ => True) ho0 (fun k_ hk_ => trivial)); have n3_ := Aside0.mk (hb); clear BK112; clear BK113; clear HB; clear HO_5; have BK112 := n0_; have BK113 := n1_; have HO123 := n2_; have HB := n3_; clear n0_ n1_ n2_ n3_; (try clear hb); (try clear hkp); (try clear ho0)))
     repeat (go_quiet (first | (go_at_call 27; (with_reducible refine (coin_Put.calls kj25 (fun k_ => some k_ = (.slice Ao31 t114.length co31 : Value).ownBlock) (.slice Ao31 t114.length co31) t114 x8_25 t121 w _ ?side1 ?side2 A30.out).mono ?_); (case side1 => repeat (first | (with_reducible first | exact HB.out | apply below_alloc | apply pw_below_drewN | apply below_drew1 | refine below_set ?_ GE112.out | refine below_set ?_ GE113.out) | exact HB.out)); (case side2 => exact Kd.R_tight rfl HO_5.out); rintro e w32 ⟨v122, rfl, ho0, hb, hkp⟩; have n0_ := Aside0.mk (blk_kept (o := .cells #[.int .u64 a0_0, .int .u64 a0_1, .bool a0_2, .int .u32 a0_3, .int .u8 a0_4, .int .i64 a0_5, .int .u16 a0_6, .int .u16 a0_7] 31 (0, 0)) (by exact BK112.out) hkp (fun hs_ => (fun e_ => (Kd.R_ne HO_5.out BK112.out (by decide)) e_) hs_)); have n1_ := Aside0.mk (blk_kept (o := .cells #[.int .u64 a1_0, .int .u64 a1_1, .bool a1_2, .int .u32 a1_3, .int .u8 a1_4, .int .i64 a1_5, .int .u16 a1_6, .int .u16 a1_7] 31 (0, 0)) (by exact BK113.out) hkp (fun hs_ => (fun e_ => (Kd.R_ne HO_5.out BK113.out (by decide)) e_) hs_)); have n2_ := Aside0.mk (Kd.R_mono (ok' := fun k_ => True) ho0 (fun k_ hk_ => trivial)); have n3_ := Aside0.mk (hb); clear BK112; clear BK113; clear HB; clear HO_5; have BK112 := n0_; have BK113 := n1_; have HO123 := n2_; have HB := n3_; clear n0_ n1_ n2_ n3_; (try clear hb); (try clear hkp); (try clear ho0)) | (go_at_call 27; (refine calls_of_args (args' := #[.slice Ao31 t114.length co31, .int .u64 x8_25]) ?_ ?_; focus (first | rfl | (simp; done) | (refine qa_arr ?_; (repeat' (first | rfl | refine qa_cons ?_ ?_ | refine qa_int ?_ | refine qa_agg ?_ | refine qa_arr ?_ | omega)); done)); (with_reducible refine (coin_Put.calls kj25 (fun k_ => some k_ = (.slice Ao31 t114.length co31 : Value).ownBlock) (.slice Ao31 t114.length co31) t114 x8_25 t121 w _ ?side1 ?side2 A30.out).mono ?_)); (case side1 => repeat (first | (with_reducible first | exact HB.out | apply below_alloc | apply pw_below_drewN | apply below_drew1 | refine below_set ?_ GE112.out | refine below_set ?_ GE113.out) | exact HB.out)); (case side2 => exact Kd.R_tight rfl HO_5.out); rintro e w32 ⟨v122, rfl, ho0, hb, hkp⟩; have n0_ := Aside0.mk (blk_kept (o := .cells #[.int .u64 a0_0, .int .u64 a0_1, .bool a0_2, .int .u32 a0_3, .int .u8 a0_4, .int .i64 a0_5, .int .u16 a0_6, .int .u16 a0_7] 31 (0, 0)) (by exact BK112.out) hkp (fun hs_ => (fun e_ => (Kd.R_ne HO_5.out BK112.out (by decide)) e_) hs_)); have n1_ := Aside0.mk (blk_kept (o := .cells #[.int .u64 a1_0, .int .u64 a1_1, .bool a1_2, .int .u32 a1_3, .int .u8 a1_4, .int .i64 a1_5, .int .u16 a1_6, .int .u16 a1_7] 31 (0, 0)) (by exact BK113.out) hkp (fun hs_ => (fun e_ => (Kd.R_ne HO_5.out BK113.out (by decide)) e_) hs_)); have n2_ := Aside0.mk (Kd.R_mono (ok' := fun k_ => True) ho0 (fun k_ hk_ => trivial)); have n3_ := Aside0.mk (hb); clear BK112; clear BK113; clear HB; clear HO_5; have BK112 := n0_; have BK113 := n1_; have HO123 := n2_; have HB := n3_; clear n0_ n1_ n2_ n3_; (try clear hb); (try clear hkp); (try clear ho0))); try go_wp2_with (first | (go_at_call 27; (with_reducible refine (coin_Put.calls kj25 (fun k_ => some k_ = (.slice Ao31 t114.length co31 : Value).ownBlock) (.slice Ao31 t114.length co31) t114 x8_25 t121 w _ ?side1 ?side2 A30.out).mono ?_); (case side1 => repeat (first | (with_reducible first | exact HB.out | apply below_alloc | apply pw_below_drewN | apply below_drew1 | refine below_set ?_ GE112.out | refine below_set ?_ GE113.out) | exact HB.out)); (case side2 => exact Kd.R_tight rfl HO_5.out); rintro e w32 ⟨v122, rfl, ho0, hb, hkp⟩; have n0_ := Aside0.mk (blk_kept (o := .cells #[.int .u64 a0_0, .int .u64 a0_1, .bool a0_2, .int .u32 a0_3, .int .u8 a0_4, .int .i64 a0_5, .int .u16 a0_6, .int .u16 a0_7] 31 (0, 0)) (by exact BK112.out) hkp (fun hs_ => (fun e_ => (Kd.R_ne HO_5.out BK112.out (by decide)) e_) hs_)); have n1_ := Aside0.mk (blk_kept (o := .cells #[.int .u64 a1_0, .int .u64 a1_1, .bool a1_2, .int .u32 a1_3, .int .u8 a1_4, .int .i64 a1_5, .int .u16 a1_6, .int .u16 a1_7] 31 (0, 0)) (by exact BK113.out) hkp (fun hs_ => (fun e_ => (Kd.R_ne HO_5.out BK113.out (by decide)) e_) hs_)); have n2_ := Aside0.mk (Kd.R_mono (ok' := fun k_ => True) ho0 (fun k_ hk_ => trivial)); have n3_ := Aside0.mk (hb); clear BK112; clear BK113; clear HB; clear HO_5; have BK112 := n0_; have BK113 := n1_; have HO123 := n2_; have HB := n3_; clear n0_ n1_ n2_ n3_; (try clear hb); (try clear hkp); (try clear ho0)) | (go_at_call 27; (refine calls_of_args (args' := #[.slice Ao31 t114.length co31, .int .u64 x8_25]) ?_ ?_; focus (first | rfl | (simp; done) | (refine qa_arr ?_; (repeat' (first | rfl | refine qa_cons ?_ ?_ | refine qa_int ?_ | refine qa_agg ?_ | refine qa_arr ?_ | omega)); done)); (with_reducible refine (coin_Put.calls kj25 (fun k_ => some k_ = (.slice Ao31 t114.length co31 : Value).ownBlock) (.slice Ao31 t114.length co31) t114 x8_25 t121 w _ ?side1 ?side2 A30.out).mono ?_)); (case side1 => repeat (first | (with_reducible first | exact HB.out | apply below_alloc | apply pw_below_drewN | apply below_drew1 | refine below_set ?_ GE112.out | refine below_set ?_ GE113.out) | exact HB.out)); (case side2 => exact Kd.R_tight rfl HO_5.out); rintro e w32 ⟨v122, rfl, ho0, hb, hkp⟩; have n0_ := Aside0.mk (blk_kept (o := .cells #[.int .u64 a0_0, .int .u64 a0_1, .bool a0_2, .int .u32 a0_3, .int .u8 a0_4, .int .i64 a0_5, .int .u16 a0_6, .int .u16 a0_7] 31 (0, 0)) (by exact BK112.out) hkp (fun hs_ => (fun e_ => (Kd.R_ne HO_5.out BK112.out (by decide)) e_) hs_)); have n1_ := Aside0.mk (blk_kept (o := .cells #[.int .u64 a1_0, .int .u64 a1_1, .bool a1_2, .int .u32 a1_3, .int .u8 a1_4, .int .i64 a1_5, .int .u16 a1_6, .int .u16 a1_7] 31 (0, 0)) (by exact BK113.out) hkp (fun hs_ => (fun e_ => (Kd.R_ne HO_5.out BK113.out (by decide)) e_) hs_)); have n2_ := Aside0.mk (Kd.R_mono (ok' := fun k_ => True) ho0 (fun k_ hk_ => trivial)); have n3_ := Aside0.mk (hb); clear BK112; clear BK113; clear HB; clear HO_5; have BK112 := n0_; have BK113 := n1_; have HO123 := n2_; have HB := n3_; clear n0_ n1_ n2_ n3_; (try clear hb); (try clear hkp); (try clear ho0))))
     go_loopg [5, 9] kj25 (fun kq v5 v9 w' => ∃ (x5_3 : List Int) (x9_3 : Int), v9 = .int .i64 x9_3 ∧ Aside0 (change_Encode.l1 kq x5_3 x9_3 a0_0 a0_1 a0_2 a0_3 a0_4 a0_5 a0_6 a0_7 a1_0 a1_1 a1_2 a1_3 a1_4 a1_5 a1_6 a1_7 = some r) ∧ Aside0 (kq ≤ kj25) ∧ Aside0 (Kd.R (Kd.int .u8) 5 w' w.heap.size (fun _ => True) v5 x5_3) ∧ Aside0 (w'.heap[gb112]? = some (.cells #[.int .u64 a0_0, .int .u64 a0_1, .bool a0_2, .int .u32 a0_3, .int .u8 a0_4, .int .i64 a0_5, .int .u16 a0_6, .int .u16 a0_7] 31 (0, 0))) ∧ Aside0 (w'.heap[gb113]? = some (.cells #[.int .u64 a1_0, .int .u64 a1_1, .bool a1_2, .int .u32 a1_3, .int .u8 a1_4, .int .i64 a1_5, .int .u16 a1_6, .int .u16 a1_7] 31 (0, 0))) ∧ Aside0 (Below w.heap.size w w'))
     case atStart => exact ⟨(t121), (x6_6), (by first | rfl | (refine qa_int ?_; simp <;> omega)), H', ⟨Nat.le_refl _⟩, ⟨by exact HO123.out⟩, ⟨by exact BK112.out⟩, ⟨by exact BK113.out⟩, ⟨by repeat (first | (with_reducible first | exact HB.out | refine below_set ?_ GE113.out))⟩⟩
     case round =>
      clear H'
      try clear c1
      try clear c2
      try clear p2
      try clear p6
      try clear c10
      try clear c13
      try clear c16
      try clear c16b0
      try clear c19
      try clear c19b0
      try clear c19b1
      try clear c20
      try clear c23
      try clear c27
      try clear c29
      try clear hcz11_0
      try clear hcz11_1
      try clear hcz11_2
      try clear hcz11_3
      try clear hcz11_4
      try clear hcz11_5
      try clear hcz11_6
      try clear hcz11_7
      try clear hcz12_0
      try clear hcz12_1
      try clear hcz12_2
      try clear hcz12_3
      try clear hcz12_4
      try clear hcz12_5
      try clear hcz12_6
      try clear hcz12_7
      try clear hcz14_0
      try clear hcz14_1
      try clear hcz14_2
      try clear hcz14_3
      try clear hcz14_4
      try clear hcz14_5
      try clear hcz14_6
      try clear hcz14_7
      try clear hcz15_0
      try clear hcz15_1
      try clear hcz15_2
      try clear hcz15_3
      try clear hcz15_4
      try clear hcz15_5
      try clear hcz15_6
      try clear hcz15_7
      try clear hcz21_0
      try clear hcz21_1
      try clear hcz21_2
      try clear hcz21_3
      try clear hcz21_4
      try clear hcz21_5
      try clear hcz21_6
      try clear hcz21_7
      try clear hcz22_0
      try clear hcz22_1
      try clear hcz22_2
      try clear hcz22_3
      try clear hcz22_4
      try clear hcz22_5
      try clear hcz22_6
      try clear hcz22_7
      try clear hcz24_0
      try clear hcz24_1
      try clear hcz24_2
      try clear hcz24_3
      try clear hcz24_4
      try clear hcz24_5
      try clear hcz24_6
      try clear hcz24_7
      try clear hcz25_0
      try clear hcz25_1
      try clear hcz25_2
      try clear hcz25_3
      try clear hcz25_4
      try clear hcz25_5
      try clear hcz25_6
      try clear hcz25_7
      try clear hcz28_0
      try clear hcz28_1
      try clear hcz28_2
      try clear hcz28_3
      try clear hcz28_4
      try clear hcz28_5
      try clear hcz28_6
      try clear hcz28_7
      try clear hfz11_0
      try clear hfz11_1
      try clear hfz11_2
      try clear hfz11_3
      try clear hfz11_4
      try clear hfz11_5
      try clear hfz11_6
      try clear hfz11_7
      try clear hfz12_0
      try clear hfz12_1
      try clear hfz12_2
      try clear hfz12_3
      try clear hfz12_4
      try clear hfz12_5
      try clear hfz12_6
      try clear hfz12_7
      try clear hfz14_0
      try clear hfz14_1
      try clear hfz14_2
      try clear hfz14_3
      try clear hfz14_4
      try clear hfz14_5
      try clear hfz14_6
      try clear hfz14_7
      try clear hfz15_0
      try clear hfz15_1
      try clear hfz15_2
      try clear hfz15_3
      try clear hfz15_4
      try clear hfz15_5
      try clear hfz15_6
      try clear hfz15_7
      try clear hfz21_0
      try clear hfz21_1
      try clear hfz21_2
      try clear hfz21_3
      try clear hfz21_4
      try clear hfz21_5
      try clear hfz21_6
      try clear hfz21_7
      try clear hfz22_0
      try clear hfz22_1
      try clear hfz22_2
      try clear hfz22_3
      try clear hfz22_4
      try clear hfz22_5
      try clear hfz22_6
      try clear hfz22_7
      try clear hfz24_0
      try clear hfz24_1
      try clear hfz24_2
      try clear hfz24_3
      try clear hfz24_4
      try clear hfz24_5
      try clear hfz24_6
      try clear hfz24_7
      try clear hfz25_0
      try clear hfz25_1
      try clear hfz25_2
      try clear hfz25_3
      try clear hfz25_4
      try clear hfz25_5
      try clear hfz25_6
      try clear hfz25_7
      try clear hfz28_0
      try clear hfz28_1
      try clear hfz28_2
      try clear hfz28_3
      try clear hfz28_4
      try clear hfz28_5
      try clear hfz28_6
      try clear hfz28_7
      try clear p2
      try clear p6
      obtain ⟨x5_3, x9_3, rfl, HA, HK3, HO_5, BK112, BK113, HB⟩ := hrel
      cases gk with
      | zero => exact absurd HA.out (by simp [change_Encode.l1])
      | succ k3 =>
       have H := HA.out
       clear HA
       simp only [change_Encode.l1] at H
       replace H := Option.bind_eq_some_iff.mp H
       obtain ⟨t124, A330, H⟩ := H
       replace H : (if x9_3 < t124 then ((change_octet.f a1_3 x9_3).bind fun t125 => (if x5_3.length < 140737488355328 then (change_Encode.l1 k3 (x5_3 ++ [t125]) (wrap64 (x9_3 + 1)) a0_0 a0_1 a0_2 a0_3 a0_4 a0_5 a0_6 a0_7 a1_0 a1_1 a1_2 a1_3 a1_4 a1_5 a1_6 a1_7) else (none))) else (if a1_2 = true then (some x5_3) else ((coin_Fold.f (wrap64 (a1_5 - a0_5))).bind fun t129 => ((coin_Put.f k3 x5_3 t129).bind fun t130 => ((coin_Fold.f (wrap64 ((wrap64 (a1_6)) - (wrap64 (a0_6))))).bind fun t133 => ((coin_Put.f k3 t130 t133).bind fun t134 => ((coin_Put.f k3 t134 (IntKind.u64.wrap (IntKind.u16.wrap (a1_7 - a0_7)))).bind fun t137 => (some t137)))))))) = some r := H
       have A33 := Aside0.mk A330
       clear A330
       by_cases c34 : x9_3 < t124
       · rw [if_pos c34] at H
         have c34b0 : decide (x9_3 < t124) = true := decide_eq_true c34
         clear c34
         replace H := Option.bind_eq_some_iff.mp H
         obtain ⟨t125, A350, H⟩ := H
         replace H : (if x5_3.length < 140737488355328 then (change_Encode.l1 k3 (x5_3 ++ [t125]) (wrap64 (x9_3 + 1)) a0_0 a0_1 a0_2 a0_3 a0_4 a0_5 a0_6 a0_7 a1_0 a1_1 a1_2 a1_3 a1_4 a1_5 a1_6 a1_7) else (none)) = some r := H
         have A35 := Aside0.mk A350
         clear A350
         by_cases c36 : x5_3.length < 140737488355328
         · rw [if_pos c36] at H
           have LMc36 := Aside0.mk c36
           clear c36
           obtain ⟨y126, hy126⟩ : ∃ y_ : List Int, y_ = (x5_3 ++ [t125]) := ⟨_, rfl⟩
           replace H : (change_Encode.l1 k3 y126 (wrap64 (x9_3 + 1)) a0_0 a0_1 a0_2 a0_3 a0_4 a0_5 a0_6 a0_7 a1_0 a1_1 a1_2 a1_3 a1_4 a1_5 a1_6 a1_7) = some r := by first | (rw [hy126]; with_reducible exact H) | exact H
           have Ny126 := Aside0.mk hy126
           clear hy126
           have H' := Aside0.mk H
           clear H
           have hnb37 := NB113_112.out
           have hnc37 := NB112_113.out
           have hcz38_0 : wr.cell? ⟨gb113, 0, none⟩ = some (.int .u64 a1_0) := (blk_cell BK113.out 0).trans rfl
           have hcz38_1 : wr.cell? ⟨gb113, 1, none⟩ = some (.int .u64 a1_1) := (blk_cell BK113.out 1).trans rfl
           have hcz38_2 : wr.cell? ⟨gb113, 2, none⟩ = some (.bool a1_2) := (blk_cell BK113.out 2).trans rfl
           have hcz38_3 : wr.cell? ⟨gb113, 3, none⟩ = some (.int .u32 a1_3) := (blk_cell BK113.out 3).trans rfl
           have hcz38_4 : wr.cell? ⟨gb113, 4, none⟩ = some (.int .u8 a1_4) := (blk_cell BK113.out 4).trans rfl
           have hcz38_5 : wr.cell? ⟨gb113, 5, none⟩ = some (.int .i64 a1_5) := (blk_cell BK113.out 5).trans rfl
           have hcz38_6 : wr.cell? ⟨gb113, 6, none⟩ = some (.int .u16 a1_6) := (blk_cell BK113.out 6).trans rfl
           have hcz38_7 : wr.cell? ⟨gb113, 7, none⟩ = some (.int .u16 a1_7) := (blk_cell BK113.out 7).trans rfl
           have hfz38_0 := blk_frozen BK113.out 0
           have hfz38_1 := blk_frozen BK113.out 1
           have hfz38_2 := blk_frozen BK113.out 2
           have hfz38_3 := blk_frozen BK113.out 3
           have hfz38_4 := blk_frozen BK113.out 4
           have hfz38_5 := blk_frozen BK113.out 5
           have hfz38_6 := blk_frozen BK113.out 6
           have hfz38_7 := blk_frozen BK113.out 7
           go_wp2_with (first | (go_at_call 28; (with_reducible refine (change_octets.calls a1_4 t124 _ A33.out).mono ?_); rintro e w' ⟨rfl, ⟨nd, rfl⟩⟩; (try first | exact ⟨rfl, _, World.drewN_drewN _ _ _⟩ | exact ⟨rfl, _, Eq.trans (World.drewN_drewN _ _ _) (congrArg (World.drewN _) (Nat.add_assoc _ _ _))⟩)) | (go_at_call 29; (with_reducible refine (change_octet.calls a1_3 x9_3 t125 _ A35.out).mono ?_); rintro e w' ⟨rfl, ⟨nd, rfl⟩⟩; (try first | exact ⟨rfl, _, World.drewN_drewN _ _ _⟩ | exact ⟨rfl, _, Eq.trans (World.drewN_drewN _ _ _) (congrArg (World.drewN _) (Nat.add_assoc _ _ _))⟩)) | ((with_reducible refine gate_builtin (b := .append) (xs := #[.tmp 74, .tmp 81]) rfl ?_); at_builtin; refine Kd.R_append (Kd.int .u8) (w0 := w) w.heap.size rfl (.tmp 74) (.tmp 81) 33 5 (.int .u8 0) 1 rfl Try.underlying33 info5 rfl (by decide) (by omega) u5 x5_3 t125 [.int .u8 t125] (fun _ => True) (fun _ => False) rfl rfl ?aP (fun _ hk => hk.elim) ?aF ?aO ?aB ?aS ?aL ?_; (case aP => exact rfl); (case aB => exact (by repeat (first | (with_reducible first | exact HB.out | apply pw_below_drewN | refine below_set ?_ GE113.out)))); (case aF => exact (fun _ _ => trivial)); (case aO => exact (by (with_reducible repeat (first | apply Kd.R_drewN)); exact HO_5.out)); (case aS => exact (below_size (by repeat (first | (with_reducible first | exact HB.out | apply pw_below_drewN | refine below_set ?_ GE113.out))))); (case aL => have := LMc36.out; omega); intro v127 w39 ho hb hg hat; rw [← Ny126.out] at ho; have n0_ := Aside0.mk (blk_grown (g := gb112) (o := .cells #[.int .u64 a0_0, .int .u64 a0_1, .bool a0_2, .int .u32 a0_3, .int .u8 a0_4, .int .i64 a0_5, .int .u16 a0_6, .int .u16 a0_7] 31 (0, 0)) (by (with_reducible repeat (first | refine blk_drewN ?_ _ | refine blk_alloc ?_ _)); exact BK112.out) hg (Kd.R_ne HO_5.out BK112.out (by decide))); have n1_ := Aside0.mk (blk_grown (g := gb113) (o := .cells #[.int .u64 a1_0, .int .u64 a1_1, .bool a1_2, .int .u32 a1_3, .int .u8 a1_4, .int .i64 a1_5, .int .u16 a1_6, .int .u16 a1_7] 31 (0, 0)) (by (with_reducible repeat (first | refine blk_drewN ?_ _ | refine blk_alloc ?_ _)); exact BK113.out) hg (Kd.R_ne HO_5.out BK113.out (by decide))); have n2_ := Aside0.mk (hb); have n3_ := Aside0.mk (ho); clear BK112; clear BK113; clear HB; clear HO_5; have BK112 := n0_; have BK113 := n1_; have HB := n2_; have HO128 := n3_; clear n0_ n1_ n2_ n3_; clear ho hb hg hat) | (go_at_call 29; (refine calls_of_args (args' := #[.int .u32 a1_3, .int .i64 x9_3]) ?_ ?_; focus (first | rfl | (simp; done) | (refine qa_arr ?_; (repeat' (first | rfl | refine qa_cons ?_ ?_ | refine qa_int ?_ | refine qa_agg ?_ | refine qa_arr ?_ | omega)); done)); (with_reducible refine (change_octet.calls a1_3 x9_3 t125 _ A35.out).mono ?_)); rintro e w' ⟨rfl, ⟨nd, rfl⟩⟩; (try first | exact ⟨rfl, _, World.drewN_drewN _ _ _⟩ | exact ⟨rfl, _, Eq.trans (World.drewN_drewN _ _ _) (congrArg (World.drewN _) (Nat.add_assoc _ _ _))⟩)))
           repeat (go_quiet (first | (go_at_call 28; (with_reducible refine (change_octets.calls a1_4 t124 _ A33.out).mono ?_); rintro e w' ⟨rfl, ⟨nd, rfl⟩⟩; (try first | exact ⟨rfl, _, World.drewN_drewN _ _ _⟩ | exact ⟨rfl, _, Eq.trans (World.drewN_drewN _ _ _) (congrArg (World.drewN _) (Nat.add_assoc _ _ _))⟩)) | (go_at_call 29; (with_reducible refine (change_octet.calls a1_3 x9_3 t125 _ A35.out).mono ?_); rintro e w' ⟨rfl, ⟨nd, rfl⟩⟩; (try first | exact ⟨rfl, _, World.drewN_drewN _ _ _⟩ | exact ⟨rfl, _, Eq.trans (World.drewN_drewN _ _ _) (congrArg (World.drewN _) (Nat.add_assoc _ _ _))⟩)) | ((with_reducible refine gate_builtin (b := .append) (xs := #[.tmp 74, .tmp 81]) rfl ?_); at_builtin; refine Kd.R_append (Kd.int .u8) (w0 := w) w.heap.size rfl (.tmp 74) (.tmp 81) 33 5 (.int .u8 0) 1 rfl Try.underlying33 info5 rfl (by decide) (by omega) u5 x5_3 t125 [.int .u8 t125] (fun _ => True) (fun _ => False) rfl rfl ?aP (fun _ hk => hk.elim) ?aF ?aO ?aB ?aS ?aL ?_; (case aP => exact rfl); (case aB => exact (by repeat (first | (with_reducible first | exact HB.out | apply below_alloc | apply pw_below_drewN | apply below_drew1 | refine below_set ?_ GE112.out | refine below_set ?_ GE113.out) | exact HB.out))); (case aF => exact (fun _ _ => trivial)); (case aO => exact (by exact HO_5.out)); (case aS => exact (below_size (by repeat (first | (with_reducible first | exact HB.out | apply below_alloc | apply pw_below_drewN | apply below_drew1 | refine below_set ?_ GE112.out | refine below_set ?_ GE113.out) | exact HB.out)))); (case aL => have := LMc36.out; omega); intro v127 w39 ho hb hg hat; rw [← Ny126.out] at ho; have n0_ := Aside0.mk (blk_grown (g := gb112) (o := .cells #[.int .u64 a0_0, .int .u64 a0_1, .bool a0_2, .int .u32 a0_3, .int .u8 a0_4, .int .i64 a0_5, .int .u16 a0_6, .int .u16 a0_7] 31 (0, 0)) (by exact BK112.out) hg (Kd.R_ne HO_5.out BK112.out (by decide))); have n1_ := Aside0.mk (blk_grown (g := gb113) (o := .cells #[.int .u64 a1_0, .int .u64 a1_1, .bool a1_2, .int .u32 a1_3, .int .u8 a1_4, .int .i64 a1_5, .int .u16 a1_6, .int .u16 a1_7] 31 (0, 0)) (by exact BK113.out) hg (Kd.R_ne HO_5.out BK113.out (by decide))); have n2_ := Aside0.mk (hb); have n3_ := Aside0.mk (ho); clear BK112; clear BK113; clear HB; clear HO_5; have BK112 := n0_; have BK113 := n1_; have HB := n2_; have HO128 := n3_; clear n0_ n1_ n2_ n3_; clear ho hb hg hat) | (go_at_call 28; (refine calls_of_args (args' := #[.int .u8 a1_4]) ?_ ?_; focus (first | rfl | (simp; done) | (refine qa_arr ?_; (repeat' (first | rfl | refine qa_cons ?_ ?_ | refine qa_int ?_ | refine qa_agg ?_ | refine qa_arr ?_ | omega)); done)); (with_reducible refine (change_octets.calls a1_4 t124 _ A33.out).mono ?_)); rintro e w' ⟨rfl, ⟨nd, rfl⟩⟩; (try first | exact ⟨rfl, _, World.drewN_drewN _ _ _⟩ | exact ⟨rfl, _, Eq.trans (World.drewN_drewN _ _ _) (congrArg (World.drewN _) (Nat.add_assoc _ _ _))⟩)) | (go_at_call 29; (refine calls_of_args (args' := #[.int .u32 a1_3, .int .i64 x9_3]) ?_ ?_; focus (first | rfl | (simp; done) | (refine qa_arr ?_; (repeat' (first | rfl | refine qa_cons ?_ ?_ | refine qa_int ?_ | refine qa_agg ?_ | refine qa_arr ?_ | omega)); done)); (with_reducible refine (change_octet.calls a1_3 x9_3 t125 _ A35.out).mono ?_)); rintro e w' ⟨rfl, ⟨nd, rfl⟩⟩; (try first | exact ⟨rfl, _, World.drewN_drewN _ _ _⟩ | exact ⟨rfl, _, Eq.trans (World.drewN_drewN _ _ _) (congrArg (World.drewN _) (Nat.add_assoc _ _ _))⟩))); try go_wp2_with (first | (go_at_call 28; (with_reducible refine (change_octets.calls a1_4 t124 _ A33.out).mono ?_); rintro e w' ⟨rfl, ⟨nd, rfl⟩⟩; (try first | exact ⟨rfl, _, World.drewN_drewN _ _ _⟩ | exact ⟨rfl, _, Eq.trans (World.drewN_drewN _ _ _) (congrArg (World.drewN _) (Nat.add_assoc _ _ _))⟩)) | (go_at_call 29; (with_reducible refine (change_octet.calls a1_3 x9_3 t125 _ A35.out).mono ?_); rintro e w' ⟨rfl, ⟨nd, rfl⟩⟩; (try first | exact ⟨rfl, _, World.drewN_drewN _ _ _⟩ | exact ⟨rfl, _, Eq.trans (World.drewN_drewN _ _ _) (congrArg (World.drewN _) (Nat.add_assoc _ _ _))⟩)) | ((with_reducible refine gate_builtin (b := .append) (xs := #[.tmp 74, .tmp 81]) rfl ?_); at_builtin; refine Kd.R_append (Kd.int .u8) (w0 := w) w.heap.size rfl (.tmp 74) (.tmp 81) 33 5 (.int .u8 0) 1 rfl Try.underlying33 info5 rfl (by decide) (by omega) u5 x5_3 t125 [.int .u8 t125] (fun _ => True) (fun _ => False) rfl rfl ?aP (fun _ hk => hk.elim) ?aF ?aO ?aB ?aS ?aL ?_; (case aP => exact rfl); (case aB => exact (by repeat (first | (with_reducible first | exact HB.out | apply below_alloc | apply pw_below_drewN | apply below_drew1 | refine below_set ?_ GE112.out | refine below_set ?_ GE113.out) | exact HB.out))); (case aF => exact (fun _ _ => trivial)); (case aO => exact (by exact HO_5.out)); (case aS => exact (below_size (by repeat (first | (with_reducible first | exact HB.out | apply below_alloc | apply pw_below_drewN | apply below_drew1 | refine below_set ?_ GE112.out | refine below_set ?_ GE113.out) | exact HB.out)))); (case aL => have := LMc36.out; omega); intro v127 w39 ho hb hg hat; rw [← Ny126.out] at ho; have n0_ := Aside0.mk (blk_grown (g := gb112) (o := .cells #[.int .u64 a0_0, .int .u64 a0_1, .bool a0_2, .int .u32 a0_3, .int .u8 a0_4, .int .i64 a0_5, .int .u16 a0_6, .int .u16 a0_7] 31 (0, 0)) (by exact BK112.out) hg (Kd.R_ne HO_5.out BK112.out (by decide))); have n1_ := Aside0.mk (blk_grown (g := gb113) (o := .cells #[.int .u64 a1_0, .int .u64 a1_1, .bool a1_2, .int .u32 a1_3, .int .u8 a1_4, .int .i64 a1_5, .int .u16 a1_6, .int .u16 a1_7] 31 (0, 0)) (by exact BK113.out) hg (Kd.R_ne HO_5.out BK113.out (by decide))); have n2_ := Aside0.mk (hb); have n3_ := Aside0.mk (ho); clear BK112; clear BK113; clear HB; clear HO_5; have BK112 := n0_; have BK113 := n1_; have HB := n2_; have HO128 := n3_; clear n0_ n1_ n2_ n3_; clear ho hb hg hat) | (go_at_call 28; (refine calls_of_args (args' := #[.int .u8 a1_4]) ?_ ?_; focus (first | rfl | (simp; done) | (refine qa_arr ?_; (repeat' (first | rfl | refine qa_cons ?_ ?_ | refine qa_int ?_ | refine qa_agg ?_ | refine qa_arr ?_ | omega)); done)); (with_reducible refine (change_octets.calls a1_4 t124 _ A33.out).mono ?_)); rintro e w' ⟨rfl, ⟨nd, rfl⟩⟩; (try first | exact ⟨rfl, _, World.drewN_drewN _ _ _⟩ | exact ⟨rfl, _, Eq.trans (World.drewN_drewN _ _ _) (congrArg (World.drewN _) (Nat.add_assoc _ _ _))⟩)) | (go_at_call 29; (refine calls_of_args (args' := #[.int .u32 a1_3, .int .i64 x9_3]) ?_ ?_; focus (first | rfl | (simp; done) | (refine qa_arr ?_; (repeat' (first | rfl | refine qa_cons ?_ ?_ | refine qa_int ?_ | refine qa_agg ?_ | refine qa_arr ?_ | omega)); done)); (with_reducible refine (change_octet.calls a1_3 x9_3 t125 _ A35.out).mono ?_)); rintro e w' ⟨rfl, ⟨nd, rfl⟩⟩; (try first | exact ⟨rfl, _, World.drewN_drewN _ _ _⟩ | exact ⟨rfl, _, Eq.trans (World.drewN_drewN _ _ _) (congrArg (World.drewN _) (Nat.add_assoc _ _ _))⟩))))
           go_roundg k3
           case measure => have := HJ6.out; have := HJ25.out; have := HK3.out; omega
           case rel => exact ⟨(y126), (wrap64 (x9_3 + 1)), (by first | rfl | (refine qa_int ?_; simp <;> omega)), H', ⟨by have := HJ6.out; have := HJ25.out; have := HK3.out; omega⟩, ⟨by exact HO128.out⟩, ⟨by exact BK112.out⟩, ⟨by exact BK113.out⟩, ⟨by repeat (first | (with_reducible first | exact HB.out | refine below_set ?_ GE113.out))⟩⟩
         · rw [if_neg c36] at H
           exact absurd H (by simp)
       · rw [if_neg c34] at H
         have c34b0 : decide (x9_3 < t124) = false := decide_eq_false c34
         clear c34
         by_cases c40 : a1_2 = true
         · subst c40
           have H1 : (some x5_3) = some r := by rw [if_pos rfl] at H; exact H
           clear H
           have H := H1
           clear H1
           obtain rfl := Option.some.inj H
           simp only [Option.some.injEq, Prod.mk.injEq] at H
           obtain ⟨rfl⟩ := H
           have hnb41 := NB113_112.out
           have hnc41 := NB112_113.out
           have hcz42_0 : wr.cell? ⟨gb113, 0, none⟩ = some (.int .u64 a1_0) := (blk_cell BK113.out 0).trans rfl
           have hcz42_1 : wr.cell? ⟨gb113, 1, none⟩ = some (.int .u64 a1_1) := (blk_cell BK113.out 1).trans rfl
           have hcz42_2 : wr.cell? ⟨gb113, 2, none⟩ = some (.bool true) := (blk_cell BK113.out 2).trans rfl
           have hcz42_3 : wr.cell? ⟨gb113, 3, none⟩ = some (.int .u32 a1_3) := (blk_cell BK113.out 3).trans rfl
           have hcz42_4 : wr.cell? ⟨gb113, 4, none⟩ = some (.int .u8 a1_4) := (blk_cell BK113.out 4).trans rfl
           have hcz42_5 : wr.cell? ⟨gb113, 5, none⟩ = some (.int .i64 a1_5) := (blk_cell BK113.out 5).trans rfl
           have hcz42_6 : wr.cell? ⟨gb113, 6, none⟩ = some (.int .u16 a1_6) := (blk_cell BK113.out 6).trans rfl
           have hcz42_7 : wr.cell? ⟨gb113, 7, none⟩ = some (.int .u16 a1_7) := (blk_cell BK113.out 7).trans rfl
           have hfz42_0 := blk_frozen BK113.out 0
           have hfz42_1 := blk_frozen BK113.out 1
           have hfz42_2 := blk_frozen BK113.out 2
           have hfz42_3 := blk_frozen BK113.out 3
           have hfz42_4 := blk_frozen BK113.out 4
           have hfz42_5 := blk_frozen BK113.out 5
           have hfz42_6 := blk_frozen BK113.out 6
           have hfz42_7 := blk_frozen BK113.out 7
           go_wp2_with (first | (go_at_call 28; (with_reducible refine (change_octets.calls a1_4 t124 _ A33.out).mono ?_); rintro e w' ⟨rfl, ⟨nd, rfl⟩⟩; (try first | exact ⟨rfl, _, World.drewN_drewN _ _ _⟩ | exact ⟨rfl, _, Eq.trans (World.drewN_drewN _ _ _) (congrArg (World.drewN _) (Nat.add_assoc _ _ _))⟩)))
           repeat (go_quiet (first | (go_at_call 28; (with_reducible refine (change_octets.calls a1_4 t124 _ A33.out).mono ?_); rintro e w' ⟨rfl, ⟨nd, rfl⟩⟩; (try first | exact ⟨rfl, _, World.drewN_drewN _ _ _⟩ | exact ⟨rfl, _, Eq.trans (World.drewN_drewN _ _ _) (congrArg (World.drewN _) (Nat.add_assoc _ _ _))⟩)) | (go_at_call 28; (refine calls_of_args (args' := #[.int .u8 a1_4]) ?_ ?_; focus (first | rfl | (simp; done) | (refine qa_arr ?_; (repeat' (first | rfl | refine qa_cons ?_ ?_ | refine qa_int ?_ | refine qa_agg ?_ | refine qa_arr ?_ | omega)); done)); (with_reducible refine (change_octets.calls a1_4 t124 _ A33.out).mono ?_)); rintro e w' ⟨rfl, ⟨nd, rfl⟩⟩; (try first | exact ⟨rfl, _, World.drewN_drewN _ _ _⟩ | exact ⟨rfl, _, Eq.trans (World.drewN_drewN _ _ _) (congrArg (World.drewN _) (Nat.add_assoc _ _ _))⟩))); try go_wp2_with (first | (go_at_call 28; (with_reducible refine (change_octets.calls a1_4 t124 _ A33.out).mono ?_); rintro e w' ⟨rfl, ⟨nd, rfl⟩⟩; (try first | exact ⟨rfl, _, World.drewN_drewN _ _ _⟩ | exact ⟨rfl, _, Eq.trans (World.drewN_drewN _ _ _) (congrArg (World.drewN _) (Nat.add_assoc _ _ _))⟩)) | (go_at_call 28; (refine calls_of_args (args' := #[.int .u8 a1_4]) ?_ ?_; focus (first | rfl | (simp; done) | (refine qa_arr ?_; (repeat' (first | rfl | refine qa_cons ?_ ?_ | refine qa_int ?_ | refine qa_agg ?_ | refine qa_arr ?_ | omega)); done)); (with_reducible refine (change_octets.calls a1_4 t124 _ A33.out).mono ?_)); rintro e w' ⟨rfl, ⟨nd, rfl⟩⟩; (try first | exact ⟨rfl, _, World.drewN_drewN _ _ _⟩ | exact ⟨rfl, _, Eq.trans (World.drewN_drewN _ _ _) (congrArg (World.drewN _) (Nat.add_assoc _ _ _))⟩))))
           go_ret
           exact ⟨_, by first | rfl | (simp [*, errW_none, errW_some] <;> rfl), by (with_reducible repeat (first | apply Kd.R_drewN)); exact HO_5.out, by repeat (first | (with_reducible first | exact HB.out | apply pw_below_drewN | refine below_set ?_ GE113.out))⟩
         · replace c40 := Bool.eq_false_iff.mpr c40
           subst c40
           have H1 : ((coin_Fold.f (wrap64 (a1_5 - a0_5))).bind fun t129 => ((coin_Put.f k3 x5_3 t129).bind fun t130 => ((coin_Fold.f (wrap64 ((wrap64 (a1_6)) - (wrap64 (a0_6))))).bind fun t133 => ((coin_Put.f k3 t130 t133).bind fun t134 => ((coin_Put.f k3 t134 (IntKind.u64.wrap (IntKind.u16.wrap (a1_7 - a0_7)))).bind fun t137 => (some t137)))))) = some r := by rw [if_neg (show ¬ (false = true) by decide)] at H; exact H
           clear H
           have H := H1
           clear H1
           replace H := Option.bind_eq_some_iff.mp H
           obtain ⟨t129, A430, H⟩ := H
           replace H : ((coin_Put.f k3 x5_3 t129).bind fun t130 => ((coin_Fold.f (wrap64 ((wrap64 (a1_6)) - (wrap64 (a0_6))))).bind fun t133 => ((coin_Put.f k3 t130 t133).bind fun t134 => ((coin_Put.f k3 t134 (IntKind.u64.wrap (IntKind.u16.wrap (a1_7 - a0_7)))).bind fun t137 => (some t137))))) = some r := H
           have A43 := Aside0.mk A430
           clear A430
           replace H := Option.bind_eq_some_iff.mp H
           obtain ⟨t130, A440, H⟩ := H
           replace H : ((coin_Fold.f (wrap64 ((wrap64 (a1_6)) - (wrap64 (a0_6))))).bind fun t133 => ((coin_Put.f k3 t130 t133).bind fun t134 => ((coin_Put.f k3 t134 (IntKind.u64.wrap (IntKind.u16.wrap (a1_7 - a0_7)))).bind fun t137 => (some t137)))) = some r := H
           have A44 := Aside0.mk A440
           clear A440
           replace H := Option.bind_eq_some_iff.mp H
           obtain ⟨t133, A450, H⟩ := H
           replace H : ((coin_Put.f k3 t130 t133).bind fun t134 => ((coin_Put.f k3 t134 (IntKind.u64.wrap (IntKind.u16.wrap (a1_7 - a0_7)))).bind fun t137 => (some t137))) = some r := H
           have A45 := Aside0.mk A450
           clear A450
           replace H := Option.bind_eq_some_iff.mp H
           obtain ⟨t134, A460, H⟩ := H
           replace H : ((coin_Put.f k3 t134 (IntKind.u64.wrap (IntKind.u16.wrap (a1_7 - a0_7)))).bind fun t137 => (some t137)) = some r := H
           have A46 := Aside0.mk A460
           clear A460
           replace H := Option.bind_eq_some_iff.mp H
           obtain ⟨t137, A470, H⟩ := H
           replace H : (some t137) = some r := H
           have A47 := Aside0.mk A470
           clear A470
           obtain rfl := Option.some.inj H
           simp only [Option.some.injEq, Prod.mk.injEq] at H
           obtain ⟨rfl⟩ := H
           have hnb48 := NB113_112.out
           have hnc48 := NB112_113.out
           have hcz49_0 : wr.cell? ⟨gb113, 0, none⟩ = some (.int .u64 a1_0) := (blk_cell BK113.out 0).trans rfl
           have hcz49_1 : wr.cell? ⟨gb113, 1, none⟩ = some (.int .u64 a1_1) := (blk_cell BK113.out 1).trans rfl
           have hcz49_2 : wr.cell? ⟨gb113, 2, none⟩ = some (.bool false) := (blk_cell BK113.out 2).trans rfl
           have hcz49_3 : wr.cell? ⟨gb113, 3, none⟩ = some (.int .u32 a1_3) := (blk_cell BK113.out 3).trans rfl
           have hcz49_4 : wr.cell? ⟨gb113, 4, none⟩ = some (.int .u8 a1_4) := (blk_cell BK113.out 4).trans rfl
           have hcz49_5 : wr.cell? ⟨gb113, 5, none⟩ = some (.int .i64 a1_5) := (blk_cell BK113.out 5).trans rfl
           have hcz49_6 : wr.cell? ⟨gb113, 6, none⟩ = some (.int .u16 a1_6) := (blk_cell BK113.out 6).trans rfl
           have hcz49_7 : wr.cell? ⟨gb113, 7, none⟩ = some (.int .u16 a1_7) := (blk_cell BK113.out 7).trans rfl
           have hfz49_0 := blk_frozen BK113.out 0
           have hfz49_1 := blk_frozen BK113.out 1
           have hfz49_2 := blk_frozen BK113.out 2
           have hfz49_3 := blk_frozen BK113.out 3
           have hfz49_4 := blk_frozen BK113.out 4
           have hfz49_5 := blk_frozen BK113.out 5
           have hfz49_6 := blk_frozen BK113.out 6
           have hfz49_7 := blk_frozen BK113.out 7
           go_wp2_with (first | (go_at_call 28; (with_reducible refine (change_octets.calls a1_4 t124 _ A33.out).mono ?_); rintro e w' ⟨rfl, ⟨nd, rfl⟩⟩; (try first | exact ⟨rfl, _, World.drewN_drewN _ _ _⟩ | exact ⟨rfl, _, Eq.trans (World.drewN_drewN _ _ _) (congrArg (World.drewN _) (Nat.add_assoc _ _ _))⟩); have hcz50_0 : wr.cell? ⟨gb112, 0, none⟩ = some (.int .u64 a0_0) := (blk_cell BK112.out 0).trans rfl; have hcz50_1 : wr.cell? ⟨gb112, 1, none⟩ = some (.int .u64 a0_1) := (blk_cell BK112.out 1).trans rfl; have hcz50_2 : wr.cell? ⟨gb112, 2, none⟩ = some (.bool a0_2) := (blk_cell BK112.out 2).trans rfl; have hcz50_3 : wr.cell? ⟨gb112, 3, none⟩ = some (.int .u32 a0_3) := (blk_cell BK112.out 3).trans rfl; have hcz50_4 : wr.cell? ⟨gb112, 4, none⟩ = some (.int .u8 a0_4) := (blk_cell BK112.out 4).trans rfl; have hcz50_5 : wr.cell? ⟨gb112, 5, none⟩ = some (.int .i64 a0_5) := (blk_cell BK112.out 5).trans rfl; have hcz50_6 : wr.cell? ⟨gb112, 6, none⟩ = some (.int .u16 a0_6) := (blk_cell BK112.out 6).trans rfl; have hcz50_7 : wr.cell? ⟨gb112, 7, none⟩ = some (.int .u16 a0_7) := (blk_cell BK112.out 7).trans rfl; have hfz50_0 := blk_frozen BK112.out 0; have hfz50_1 := blk_frozen BK112.out 1; have hfz50_2 := blk_frozen BK112.out 2; have hfz50_3 := blk_frozen BK112.out 3; have hfz50_4 := blk_frozen BK112.out 4; have hfz50_5 := blk_frozen BK112.out 5; have hfz50_6 := blk_frozen BK112.out 6; have hfz50_7 := blk_frozen BK112.out 7) | (go_at_call 30; (with_reducible refine (coin_Fold.calls (wrap64 (a1_5 - a0_5)) t129 _ A43.out).mono ?_); rintro e w' ⟨rfl, ⟨nd, rfl⟩⟩; (try first | exact ⟨rfl, _, World.drewN_drewN _ _ _⟩ | exact ⟨rfl, _, Eq.trans (World.drewN_drewN _ _ _) (congrArg (World.drewN _) (Nat.add_assoc _ _ _))⟩); obtain ⟨Ao51, co51, eo51⟩ := Kd.R_slice HO_5.out; subst eo51) | (go_at_call 27; (with_reducible refine (coin_Put.calls k3 (fun k_ => some k_ = (.slice Ao51 x5_3.length co51 : Value).ownBlock) (.slice Ao51 x5_3.length co51) x5_3 t129 t130 w _ ?side1 ?side2 A44.out).mono ?_); (case side1 => repeat (first | (with_reducible first | exact HB.out | apply pw_below_drewN | refine below_set ?_ GE113.out))); (case side2 => exact Kd.R_tight rfl HO_5.out); rintro e w52 ⟨v131, rfl, ho0, hb, hkp⟩; have n0_ := Aside0.mk (blk_kept (o := .cells #[.int .u64 a0_0, .int .u64 a0_1, .bool a0_2, .int .u32 a0_3, .int .u8 a0_4, .int .i64 a0_5, .int .u16 a0_6, .int .u16 a0_7] 31 (0, 0)) (by (with_reducible repeat (first | refine blk_drewN ?_ _ | refine blk_alloc ?_ _)); exact BK112.out) hkp (fun hs_ => (fun e_ => (Kd.R_ne HO_5.out BK112.out (by decide)) e_) hs_)); have n1_ := Aside0.mk (blk_kept (o := .cells #[.int .u64 a1_0, .int .u64 a1_1, .bool false, .int .u32 a1_3, .int .u8 a1_4, .int .i64 a1_5, .int .u16 a1_6, .int .u16 a1_7] 31 (0, 0)) (by (with_reducible repeat (first | refine blk_drewN ?_ _ | refine blk_alloc ?_ _)); exact BK113.out) hkp (fun hs_ => (fun e_ => (Kd.R_ne HO_5.out BK113.out (by decide)) e_) hs_)); have n2_ := Aside0.mk (Kd.R_mono (ok' := fun k_ => True) ho0 (fun k_ hk_ => trivial)); have n3_ := Aside0.mk (hb); clear BK112; clear BK113; clear HB; clear HO_5; have BK112 := n0_; have BK113 := n1_; have HO132 := n2_; have HB := n3_; clear n0_ n1_ n2_ n3_; (try clear hb); (try clear hkp); (try clear ho0); have hcz53_0 : w52.cell? ⟨gb113, 0, none⟩ = some (.int .u64 a1_0) := (blk_cell BK113.out 0).trans rfl; have hcz53_1 : w52.cell? ⟨gb113, 1, none⟩ = some (.int .u64 a1_1) := (blk_cell BK113.out 1).trans rfl; have hcz53_2 : w52.cell? ⟨gb113, 2, none⟩ = some (.bool false) := (blk_cell BK113.out 2).trans rfl; have hcz53_3 : w52.cell? ⟨gb113, 3, none⟩ = some (.int .u32 a1_3) := (blk_cell BK113.out 3).trans rfl; have hcz53_4 : w52.cell? ⟨gb113, 4, none⟩ = some (.int .u8 a1_4) := (blk_cell BK113.out 4).trans rfl; have hcz53_5 : w52.cell? ⟨gb113, 5, none⟩ = some (.int .i64 a1_5) := (blk_cell BK113.out 5).trans rfl; have hcz53_6 : w52.cell? ⟨gb113, 6, none⟩ = some (.int .u16 a1_6) := (blk_cell BK113.out 6).trans rfl; have hcz53_7 : w52.cell? ⟨gb113, 7, none⟩ = some (.int .u16 a1_7) := (blk_cell BK113.out 7).trans rfl; have hfz53_0 := blk_frozen BK113.out 0; have hfz53_1 := blk_frozen BK113.out 1; have hfz53_2 := blk_frozen BK113.out 2; have hfz53_3 := blk_frozen BK113.out 3; have hfz53_4 := blk_frozen BK113.out 4; have hfz53_5 := blk_frozen BK113.out 5; have hfz53_6 := blk_frozen BK113.out 6; have hfz53_7 := blk_frozen BK113.out 7; have hcz54_0 : w52.cell? ⟨gb112, 0, none⟩ = some (.int .u64 a0_0) := (blk_cell BK112.out 0).trans rfl; have hcz54_1 : w52.cell? ⟨gb112, 1, none⟩ = some (.int .u64 a0_1) := (blk_cell BK112.out 1).trans rfl; have hcz54_2 : w52.cell? ⟨gb112, 2, none⟩ = some (.bool a0_2) := (blk_cell BK112.out 2).trans rfl; have hcz54_3 : w52.cell? ⟨gb112, 3, none⟩ = some (.int .u32 a0_3) := (blk_cell BK112.out 3).trans rfl; have hcz54_4 : w52.cell? ⟨gb112, 4, none⟩ = some (.int .u8 a0_4) := (blk_cell BK112.out 4).trans rfl; have hcz54_5 : w52.cell? ⟨gb112, 5, none⟩ = some (.int .i64 a0_5) := (blk_cell BK112.out 5).trans rfl; have hcz54_6 : w52.cell? ⟨gb112, 6, none⟩ = some (.int .u16 a0_6) := (blk_cell BK112.out 6).trans rfl; have hcz54_7 : w52.cell? ⟨gb112, 7, none⟩ = some (.int .u16 a0_7) := (blk_cell BK112.out 7).trans rfl; have hfz54_0 := blk_frozen BK112.out 0; have hfz54_1 := blk_frozen BK112.out 1; have hfz54_2 := blk_frozen BK112.out 2; have hfz54_3 := blk_frozen BK112.out 3; have hfz54_4 := blk_frozen BK112.out 4; have hfz54_5 := blk_frozen BK112.out 5; have hfz54_6 := blk_frozen BK112.out 6; have hfz54_7 := blk_frozen BK112.out 7) | (go_at_call 30; (with_reducible refine (coin_Fold.calls (wrap64 ((wrap64 (a1_6)) - (wrap64 (a0_6)))) t133 _ A45.out).mono ?_); rintro e w' ⟨rfl, ⟨nd, rfl⟩⟩; (try first | exact ⟨rfl, _, World.drewN_drewN _ _ _⟩ | exact ⟨rfl, _, Eq.trans (World.drewN_drewN _ _ _) (congrArg (World.drewN _) (Nat.add_assoc _ _ _))⟩); obtain ⟨Ao55, co55, eo55⟩ := Kd.R_slice HO132.out; subst eo55) | (go_at_call 27; (with_reducible refine (coin_Put.calls k3 (fun k_ => some k_ = (.slice Ao55 t130.length co55 : Value).ownBlock) (.slice Ao55 t130.length co55) t130 t133 t134 w _ ?side1 ?side2 A46.out).mono ?_); (case side1 => repeat (first | (with_reducible first | exact HB.out | apply pw_below_drewN | refine below_set ?_ GE113.out))); (case side2 => exact Kd.R_tight rfl HO132.out); rintro e w56 ⟨v135, rfl, ho0, hb, hkp⟩; have n0_ := Aside0.mk (blk_kept (o := .cells #[.int .u64 a0_0, .int .u64 a0_1, .bool a0_2, .int .u32 a0_3, .int .u8 a0_4, .int .i64 a0_5, .int .u16 a0_6, .int .u16 a0_7] 31 (0, 0)) (by (with_reducible repeat (first | refine blk_drewN ?_ _ | refine blk_alloc ?_ _)); exact BK112.out) hkp (fun hs_ => (fun e_ => (Kd.R_ne HO132.out BK112.out (by decide)) e_) hs_)); have n1_ := Aside0.mk (blk_kept (o := .cells #[.int .u64 a1_0, .int .u64 a1_1, .bool false, .int .u32 a1_3, .int .u8 a1_4, .int .i64 a1_5, .int .u16 a1_6, .int .u16 a1_7] 31 (0, 0)) (by (with_reducible repeat (first | refine blk_drewN ?_ _ | refine blk_alloc ?_ _)); exact BK113.out) hkp (fun hs_ => (fun e_ => (Kd.R_ne HO132.out BK113.out (by decide)) e_) hs_)); have n2_ := Aside0.mk (Kd.R_mono (ok' := fun k_ => True) ho0 (fun k_ hk_ => trivial)); have n3_ := Aside0.mk (hb); clear BK112; clear BK113; clear HB; clear HO132; have BK112 := n0_; have BK113 := n1_; have HO136 := n2_; have HB := n3_; clear n0_ n1_ n2_ n3_; (try clear hb); (try clear hkp); (try clear ho0); have hcz57_0 : w56.cell? ⟨gb113, 0, none⟩ = some (.int .u64 a1_0) := (blk_cell BK113.out 0).trans rfl; have hcz57_1 : w56.cell? ⟨gb113, 1, none⟩ = some (.int .u64 a1_1) := (blk_cell BK113.out 1).trans rfl; have hcz57_2 : w56.cell? ⟨gb113, 2, none⟩ = some (.bool false) := (blk_cell BK113.out 2).trans rfl; have hcz57_3 : w56.cell? ⟨gb113, 3, none⟩ = some (.int .u32 a1_3) := (blk_cell BK113.out 3).trans rfl; have hcz57_4 : w56.cell? ⟨gb113, 4, none⟩ = some (.int .u8 a1_4) := (blk_cell BK113.out 4).trans rfl; have hcz57_5 : w56.cell? ⟨gb113, 5, none⟩ = some (.int .i64 a1_5) := (blk_cell BK113.out 5).trans rfl; have hcz57_6 : w56.cell? ⟨gb113, 6, none⟩ = some (.int .u16 a1_6) := (blk_cell BK113.out 6).trans rfl; have hcz57_7 : w56.cell? ⟨gb113, 7, none⟩ = some (.int .u16 a1_7) := (blk_cell BK113.out 7).trans rfl; have hfz57_0 := blk_frozen BK113.out 0; have hfz57_1 := blk_frozen BK113.out 1; have hfz57_2 := blk_frozen BK113.out 2; have hfz57_3 := blk_frozen BK113.out 3; have hfz57_4 := blk_frozen BK113.out 4; have hfz57_5 := blk_frozen BK113.out 5; have hfz57_6 := blk_frozen BK113.out 6; have hfz57_7 := blk_frozen BK113.out 7; have hcz58_0 : w56.cell? ⟨gb112, 0, none⟩ = some (.int .u64 a0_0) := (blk_cell BK112.out 0).trans rfl; have hcz58_1 : w56.cell? ⟨gb112, 1, none⟩ = some (.int .u64 a0_1) := (blk_cell BK112.out 1).trans rfl; have hcz58_2 : w56.cell? ⟨gb112, 2, none⟩ = some (.bool a0_2) := (blk_cell BK112.out 2).trans rfl; have hcz58_3 : w56.cell? ⟨gb112, 3, none⟩ = some (.int .u32 a0_3) := (blk_cell BK112.out 3).trans rfl; have hcz58_4 : w56.cell? ⟨gb112, 4, none⟩ = some (.int .u8 a0_4) := (blk_cell BK112.out 4).trans rfl; have hcz58_5 : w56.cell? ⟨gb112, 5, none⟩ = some (.int .i64 a0_5) := (blk_cell BK112.out 5).trans rfl; have hcz58_6 : w56.cell? ⟨gb112, 6, none⟩ = some (.int .u16 a0_6) := (blk_cell BK112.out 6).trans rfl; have hcz58_7 : w56.cell? ⟨gb112, 7, none⟩ = some (.int .u16 a0_7) := (blk_cell BK112.out 7).trans rfl; have hfz58_0 := blk_frozen BK112.out 0; have hfz58_1 := blk_frozen BK112.out 1; have hfz58_2 := blk_frozen BK112.out 2; have hfz58_3 := blk_frozen BK112.out 3; have hfz58_4 := blk_frozen BK112.out 4; have hfz58_5 := blk_frozen BK112.out 5; have hfz58_6 := blk_frozen BK112.out 6; have hfz58_7 := blk_frozen BK112.out 7; obtain ⟨Ao59, co59, eo59⟩ := Kd.R_slice HO136.out; subst eo59) | (go_at_call 27; (with_reducible refine (coin_Put.calls k3 (fun k_ => some k_ = (.slice Ao59 t134.length co59 : Value).ownBlock) (.slice Ao59 t134.length co59) t134 (IntKind.u64.wrap (IntKind.u16.wrap (a1_7 - a0_7))) t137 w _ ?side1 ?side2 A47.out).mono ?_); (case side1 => repeat (first | (with_reducible first | exact HB.out | refine below_set ?_ GE113.out))); (case side2 => exact Kd.R_tight rfl HO136.out); rintro e w60 ⟨v138, rfl, ho0, hb, hkp⟩; have n0_ := Aside0.mk (blk_kept (o := .cells #[.int .u64 a0_0, .int .u64 a0_1, .bool a0_2, .int .u32 a0_3, .int .u8 a0_4, .int .i64 a0_5, .int .u16 a0_6, .int .u16 a0_7] 31 (0, 0)) (by exact BK112.out) hkp (fun hs_ => (fun e_ => (Kd.R_ne HO136.out BK112.out (by decide)) e_) hs_)); have n1_ := Aside0.mk (blk_kept (o := .cells #[.int .u64 a1_0, .int .u64 a1_1, .bool false, .int .u32 a1_3, .int .u8 a1_4, .int .i64 a1_5, .int .u16 a1_6, .int .u16 a1_7] 31 (0, 0)) (by exact BK113.out) hkp (fun hs_ => (fun e_ => (Kd.R_ne HO136.out BK113.out (by decide)) e_) hs_)); have n2_ := Aside0.mk (Kd.R_mono (ok' := fun k_ => True) ho0 (fun k_ hk_ => trivial)); have n3_ := Aside0.mk (hb); clear BK112; clear BK113; clear HB; clear HO136; have BK112 := n0_; have BK113 := n1_; have HO139 := n2_; have HB := n3_; clear n0_ n1_ n2_ n3_; (try clear hb); (try clear hkp); (try clear ho0)) | (go_at_call 27; (refine calls_of_args (args' := #[.slice Ao59 t134.length co59, .int .u64 (IntKind.u64.wrap (IntKind.u16.wrap (a1_7 - a0_7)))]) ?_ ?_; focus (first | rfl | (simp; done) | (refine qa_arr ?_; (repeat' (first | rfl | refine qa_cons ?_ ?_ | refine qa_int ?_ | refine qa_agg ?_ | refine qa_arr ?_ | omega)); done)); (with_reducible refine (coin_Put.calls k3 (fun k_ => some k_ = (.slice Ao59 t134.length co59 : Value).ownBlock) (.slice Ao59 t134.length co59) t134 (IntKind.u64.wrap (IntKind.u16.wrap (a1_7 - a0_7))) t137 w _ ?side1 ?side2 A47.out).mono ?_)); (case side1 => repeat (first | (with_reducible first | exact HB.out | apply below_alloc | apply pw_below_drewN | apply below_drew1 | refine below_set ?_ GE112.out | refine below_set ?_ GE113.out) | exact HB.out)); (case side2 => exact Kd.R_tight rfl HO136.out); rintro e w60 ⟨v138, rfl, ho0, hb, hkp⟩; have n0_ := Aside0.mk (blk_kept (o := .cells #[.int .u64 a0_0, .int .u64 a0_1, .bool a0_2, .int .u32 a0_3, .int .u8 a0_4, .int .i64 a0_5, .int .u16 a0_6, .int .u16 a0_7] 31 (0, 0)) (by exact BK112.out) hkp (fun hs_ => (fun e_ => (Kd.R_ne HO136.out BK112.out (by decide)) e_) hs_)); have n1_ := Aside0.mk (blk_kept (o := .cells #[.int .u64 a1_0, .int .u64 a1_1, .bool false, .int .u32 a1_3, .int .u8 a1_4, .int .i64 a1_5, .int .u16 a1_6, .int .u16 a1_7] 31 (0, 0)) (by exact BK113.out) hkp (fun hs_ => (fun e_ => (Kd.R_ne HO136.out BK113.out (by decide)) e_) hs_)); have n2_ := Aside0.mk (Kd.R_mono (ok' := fun k_ => True) ho0 (fun k_ hk_ => trivial)); have n3_ := Aside0.mk (hb); clear BK112; clear BK113; clear HB; clear HO136; have BK112 := n0_; have BK113 := n1_; have HO139 := n2_; have HB := n3_; clear n0_ n1_ n2_ n3_; (try clear hb); (try clear hkp); (try clear ho0)))
           repeat (go_quiet (first | (go_at_call 28; (with_reducible refine (change_octets.calls a1_4 t124 _ A33.out).mono ?_); rintro e w' ⟨rfl, ⟨nd, rfl⟩⟩; (try first | exact ⟨rfl, _, World.drewN_drewN _ _ _⟩ | exact ⟨rfl, _, Eq.trans (World.drewN_drewN _ _ _) (congrArg (World.drewN _) (Nat.add_assoc _ _ _))⟩); have hcz50_0 : wr.cell? ⟨gb112, 0, none⟩ = some (.int .u64 a0_0) := (blk_cell BK112.out 0).trans rfl; have hcz50_1 : wr.cell? ⟨gb112, 1, none⟩ = some (.int .u64 a0_1) := (blk_cell BK112.out 1).trans rfl; have hcz50_2 : wr.cell? ⟨gb112, 2, none⟩ = some (.bool a0_2) := (blk_cell BK112.out 2).trans rfl; have hcz50_3 : wr.cell? ⟨gb112, 3, none⟩ = some (.int .u32 a0_3) := (blk_cell BK112.out 3).trans rfl; have hcz50_4 : wr.cell? ⟨gb112, 4, none⟩ = some (.int .u8 a0_4) := (blk_cell BK112.out 4).trans rfl; have hcz50_5 : wr.cell? ⟨gb112, 5, none⟩ = some (.int .i64 a0_5) := (blk_cell BK112.out 5).trans rfl; have hcz50_6 : wr.cell? ⟨gb112, 6, none⟩ = some (.int .u16 a0_6) := (blk_cell BK112.out 6).trans rfl; have hcz50_7 : wr.cell? ⟨gb112, 7, none⟩ = some (.int .u16 a0_7) := (blk_cell BK112.out 7).trans rfl; have hfz50_0 := blk_frozen BK112.out 0; have hfz50_1 := blk_frozen BK112.out 1; have hfz50_2 := blk_frozen BK112.out 2; have hfz50_3 := blk_frozen BK112.out 3; have hfz50_4 := blk_frozen BK112.out 4; have hfz50_5 := blk_frozen BK112.out 5; have hfz50_6 := blk_frozen BK112.out 6; have hfz50_7 := blk_frozen BK112.out 7) | (go_at_call 30; (with_reducible refine (coin_Fold.calls (wrap64 (a1_5 - a0_5)) t129 _ A43.out).mono ?_); rintro e w' ⟨rfl, ⟨nd, rfl⟩⟩; (try first | exact ⟨rfl, _, World.drewN_drewN _ _ _⟩ | exact ⟨rfl, _, Eq.trans (World.drewN_drewN _ _ _) (congrArg (World.drewN _) (Nat.add_assoc _ _ _))⟩); obtain ⟨Ao51, co51, eo51⟩ := Kd.R_slice HO_5.out; subst eo51) | (go_at_call 27; (with_reducible refine (coin_Put.calls k3 (fun k_ => some k_ = (.slice Ao51 x5_3.length co51 : Value).ownBlock) (.slice Ao51 x5_3.length co51) x5_3 t129 t130 w _ ?side1 ?side2 A44.out).mono ?_); (case side1 => repeat (first | (with_reducible first | exact HB.out | apply below_alloc | apply pw_below_drewN | apply below_drew1 | refine below_set ?_ GE112.out | refine below_set ?_ GE113.out) | exact HB.out)); (case side2 => exact Kd.R_tight rfl HO_5.out); rintro e w52 ⟨v131, rfl, ho0, hb, hkp⟩; have n0_ := Aside0.mk (blk_kept (o := .cells #[.int .u64 a0_0, .int .u64 a0_1, .bool a0_2, .int .u32 a0_3, .int .u8 a0_4, .int .i64 a0_5, .int .u16 a0_6, .int .u16 a0_7] 31 (0, 0)) (by exact BK112.out) hkp (fun hs_ => (fun e_ => (Kd.R_ne HO_5.out BK112.out (by decide)) e_) hs_)); have n1_ := Aside0.mk (blk_kept (o := .cells #[.int .u64 a1_0, .int .u64 a1_1, .bool false, .int .u32 a1_3, .int .u8 a1_4, .int .i64 a1_5, .int .u16 a1_6, .int .u16 a1_7] 31 (0, 0)) (by exact BK113.out) hkp (fun hs_ => (fun e_ => (Kd.R_ne HO_5.out BK113.out (by decide)) e_) hs_)); have n2_ := Aside0.mk (Kd.R_mono (ok' := fun k_ => True) ho0 (fun k_ hk_ => trivial)); have n3_ := Aside0.mk (hb); clear BK112; clear BK113; clear HB; clear HO_5; have BK112 := n0_; have BK113 := n1_; have HO132 := n2_; have HB := n3_; clear n0_ n1_ n2_ n3_; (try clear hb); (try clear hkp); (try clear ho0); have hcz53_0 : w52.cell? ⟨gb113, 0, none⟩ = some (.int .u64 a1_0) := (blk_cell BK113.out 0).trans rfl; have hcz53_1 : w52.cell? ⟨gb113, 1, none⟩ = some (.int .u64 a1_1) := (blk_cell BK113.out 1).trans rfl; have hcz53_2 : w52.cell? ⟨gb113, 2, none⟩ = some (.bool false) := (blk_cell BK113.out 2).trans rfl; have hcz53_3 : w52.cell? ⟨gb113, 3, none⟩ = some (.int .u32 a1_3) := (blk_cell BK113.out 3).trans rfl; have hcz53_4 : w52.cell? ⟨gb113, 4, none⟩ = some (.int .u8 a1_4) := (blk_cell BK113.out 4).trans rfl; have hcz53_5 : w52.cell? ⟨gb113, 5, none⟩ = some (.int .i64 a1_5) := (blk_cell BK113.out 5).trans rfl; have hcz53_6 : w52.cell? ⟨gb113, 6, none⟩ = some (.int .u16 a1_6) := (blk_cell BK113.out 6).trans rfl; have hcz53_7 : w52.cell? ⟨gb113, 7, none⟩ = some (.int .u16 a1_7) := (blk_cell BK113.out 7).trans rfl; have hfz53_0 := blk_frozen BK113.out 0; have hfz53_1 := blk_frozen BK113.out 1; have hfz53_2 := blk_frozen BK113.out 2; have hfz53_3 := blk_frozen BK113.out 3; have hfz53_4 := blk_frozen BK113.out 4; have hfz53_5 := blk_frozen BK113.out 5; have hfz53_6 := blk_frozen BK113.out 6; have hfz53_7 := blk_frozen BK113.out 7; have hcz54_0 : w52.cell? ⟨gb112, 0, none⟩ = some (.int .u64 a0_0) := (blk_cell BK112.out 0).trans rfl; have hcz54_1 : w52.cell? ⟨gb112, 1, none⟩ = some (.int .u64 a0_1) := (blk_cell BK112.out 1).trans rfl; have hcz54_2 : w52.cell? ⟨gb112, 2, none⟩ = some (.bool a0_2) := (blk_cell BK112.out 2).trans rfl; have hcz54_3 : w52.cell? ⟨gb112, 3, none⟩ = some (.int .u32 a0_3) := (blk_cell BK112.out 3).trans rfl; have hcz54_4 : w52.cell? ⟨gb112, 4, none⟩ = some (.int .u8 a0_4) := (blk_cell BK112.out 4).trans rfl; have hcz54_5 : w52.cell? ⟨gb112, 5, none⟩ = some (.int .i64 a0_5) := (blk_cell BK112.out 5).trans rfl; have hcz54_6 : w52.cell? ⟨gb112, 6, none⟩ = some (.int .u16 a0_6) := (blk_cell BK112.out 6).trans rfl; have hcz54_7 : w52.cell? ⟨gb112, 7, none⟩ = some (.int .u16 a0_7) := (blk_cell BK112.out 7).trans rfl; have hfz54_0 := blk_frozen BK112.out 0; have hfz54_1 := blk_frozen BK112.out 1; have hfz54_2 := blk_frozen BK112.out 2; have hfz54_3 := blk_frozen BK112.out 3; have hfz54_4 := blk_frozen BK112.out 4; have hfz54_5 := blk_frozen BK112.out 5; have hfz54_6 := blk_frozen BK112.out 6; have hfz54_7 := blk_frozen BK112.out 7) | (go_at_call 30; (with_reducible refine (coin_Fold.calls (wrap64 ((wrap64 (a1_6)) - (wrap64 (a0_6)))) t133 _ A45.out).mono ?_); rintro e w' ⟨rfl, ⟨nd, rfl⟩⟩; (try first | exact ⟨rfl, _, World.drewN_drewN _ _ _⟩ | exact ⟨rfl, _, Eq.trans (World.drewN_drewN _ _ _) (congrArg (World.drewN _) (Nat.add_assoc _ _ _))⟩); obtain ⟨Ao55, co55, eo55⟩ := Kd.R_slice HO132.out; subst eo55) | (go_at_call 27; (with_reducible refine (coin_Put.calls k3 (fun k_ => some k_ = (.slice Ao55 t130.length co55 : Value).ownBlock) (.slice Ao55 t130.length co55) t130 t133 t134 w _ ?side1 ?side2 A46.out).mono ?_); (case side1 => repeat (first | (with_reducible first | exact HB.out | apply below_alloc | apply pw_below_drewN | apply below_drew1 | refine below_set ?_ GE112.out | refine below_set ?_ GE113.out) | exact HB.out)); (case side2 => exact Kd.R_tight rfl HO132.out); rintro e w56 ⟨v135, rfl, ho0, hb, hkp⟩; have n0_ := Aside0.mk (blk_kept (o := .cells #[.int .u64 a0_0, .int .u64 a0_1, .bool a0_2, .int .u32 a0_3, .int .u8 a0_4, .int .i64 a0_5, .int .u16 a0_6, .int .u16 a0_7] 31 (0, 0)) (by exact BK112.out) hkp (fun hs_ => (fun e_ => (Kd.R_ne HO132.out BK112.out (by decide)) e_) hs_)); have n1_ := Aside0.mk (blk_kept (o := .cells #[.int .u64 a1_0, .int .u64 a1_1, .bool false, .int .u32 a1_3, .int .u8 a1_4, .int .i64 a1_5, .int .u16 a1_6, .int .u16 a1_7] 31 (0, 0)) (by exact BK113.out) hkp (fun hs_ => (fun e_ => (Kd.R_ne HO132.out BK113.out (by decide)) e_) hs_)); have n2_ := Aside0.mk (Kd.R_mono (ok' := fun k_ => True) ho0 (fun k_ hk_ => trivial)); have n3_ := Aside0.mk (hb); clear BK112; clear BK113; clear HB; clear HO132; have BK112 := n0_; have BK113 := n1_; have HO136 := n2_; have HB := n3_; clear n0_ n1_ n2_ n3_; (try clear hb); (try clear hkp); (try clear ho0); have hcz57_0 : w56.cell? ⟨gb113, 0, none⟩ = some (.int .u64 a1_0) := (blk_cell BK113.out 0).trans rfl; have hcz57_1 : w56.cell? ⟨gb113, 1, none⟩ = some (.int .u64 a1_1) := (blk_cell BK113.out 1).trans rfl; have hcz57_2 : w56.cell? ⟨gb113, 2, none⟩ = some (.bool false) := (blk_cell BK113.out 2).trans rfl; have hcz57_3 : w56.cell? ⟨gb113, 3, none⟩ = some (.int .u32 a1_3) := (blk_cell BK113.out 3).trans rfl; have hcz57_4 : w56.cell? ⟨gb113, 4, none⟩ = some (.int .u8 a1_4) := (blk_cell BK113.out 4).trans rfl; have hcz57_5 : w56.cell? ⟨gb113, 5, none⟩ = some (.int .i64 a1_5) := (blk_cell BK113.out 5).trans rfl; have hcz57_6 : w56.cell? ⟨gb113, 6, none⟩ = some (.int .u16 a1_6) := (blk_cell BK113.out 6).trans rfl; have hcz57_7 : w56.cell? ⟨gb113, 7, none⟩ = some (.int .u16 a1_7) := (blk_cell BK113.out 7).trans rfl; have hfz57_0 := blk_frozen BK113.out 0; have hfz57_1 := blk_frozen BK113.out 1; have hfz57_2 := blk_frozen BK113.out 2; have hfz57_3 := blk_frozen BK113.out 3; have hfz57_4 := blk_frozen BK113.out 4; have hfz57_5 := blk_frozen BK113.out 5; have hfz57_6 := blk_frozen BK113.out 6; have hfz57_7 := blk_frozen BK113.out 7; have hcz58_0 : w56.cell? ⟨gb112, 0, none⟩ = some (.int .u64 a0_0) := (blk_cell BK112.out 0).trans rfl; have hcz58_1 : w56.cell? ⟨gb112, 1, none⟩ = some (.int .u64 a0_1) := (blk_cell BK112.out 1).trans rfl; have hcz58_2 : w56.cell? ⟨gb112, 2, none⟩ = some (.bool a0_2) := (blk_cell BK112.out 2).trans rfl; have hcz58_3 : w56.cell? ⟨gb112, 3, none⟩ = some (.int .u32 a0_3) := (blk_cell BK112.out 3).trans rfl; have hcz58_4 : w56.cell? ⟨gb112, 4, none⟩ = some (.int .u8 a0_4) := (blk_cell BK112.out 4).trans rfl; have hcz58_5 : w56.cell? ⟨gb112, 5, none⟩ = some (.int .i64 a0_5) := (blk_cell BK112.out 5).trans rfl; have hcz58_6 : w56.cell? ⟨gb112, 6, none⟩ = some (.int .u16 a0_6) := (blk_cell BK112.out 6).trans rfl; have hcz58_7 : w56.cell? ⟨gb112, 7, none⟩ = some (.int .u16 a0_7) := (blk_cell BK112.out 7).trans rfl; have hfz58_0 := blk_frozen BK112.out 0; have hfz58_1 := blk_frozen BK112.out 1; have hfz58_2 := blk_frozen BK112.out 2; have hfz58_3 := blk_frozen BK112.out 3; have hfz58_4 := blk_frozen BK112.out 4; have hfz58_5 := blk_frozen BK112.out 5; have hfz58_6 := blk_frozen BK112.out 6; have hfz58_7 := blk_frozen BK112.out 7; obtain ⟨Ao59, co59, eo59⟩ := Kd.R_slice HO136.out; subst eo59) | (go_at_call 27; (with_reducible refine (coin_Put.calls k3 (fun k_ => some k_ = (.slice Ao59 t134.length co59 : Value).ownBlock) (.slice Ao59 t134.length co59) t134 (IntKind.u64.wrap (IntKind.u16.wrap (a1_7 - a0_7))) t137 w _ ?side1 ?side2 A47.out).mono ?_); (case side1 => repeat (first | (with_reducible first | exact HB.out | apply below_alloc | apply pw_below_drewN | apply below_drew1 | refine below_set ?_ GE112.out | refine below_set ?_ GE113.out) | exact HB.out)); (case side2 => exact Kd.R_tight rfl HO136.out); rintro e w60 ⟨v138, rfl, ho0, hb, hkp⟩; have n0_ := Aside0.mk (blk_kept (o := .cells #[.int .u64 a0_0, .int .u64 a0_1, .bool a0_2, .int .u32 a0_3, .int .u8 a0_4, .int .i64 a0_5, .int .u16 a0_6, .int .u16 a0_7] 31 (0, 0)) (by exact BK112.out) hkp (fun hs_ => (fun e_ => (Kd.R_ne HO136.out BK112.out (by decide)) e_) hs_)); have n1_ := Aside0.mk (blk_kept (o := .cells #[.int .u64 a1_0, .int .u64 a1_1, .bool false, .int .u32 a1_3, .int .u8 a1_4, .int .i64 a1_5, .int .u16 a1_6, .int .u16 a1_7] 31 (0, 0)) (by exact BK113.out) hkp (fun hs_ => (fun e_ => (Kd.R_ne HO136.out BK113.out (by decide)) e_) hs_)); have n2_ := Aside0.mk (Kd.R_mono (ok' := fun k_ => True) ho0 (fun k_ hk_ => trivial)); have n3_ := Aside0.mk (hb); clear BK112; clear BK113; clear HB; clear HO136; have BK112 := n0_; have BK113 := n1_; have HO139 := n2_; have HB := n3_; clear n0_ n1_ n2_ n3_; (try clear hb); (try clear hkp); (try clear ho0)) | (go_at_call 28; (refine calls_of_args (args' := #[.int .u8 a1_4]) ?_ ?_; focus (first | rfl | (simp; done) | (refine qa_arr ?_; (repeat' (first | rfl | refine qa_cons ?_ ?_ | refine qa_int ?_ | refine qa_agg ?_ | refine qa_arr ?_ | omega)); done)); (with_reducible refine (change_octets.calls a1_4 t124 _ A33.out).mono ?_)); rintro e w' ⟨rfl, ⟨nd, rfl⟩⟩; (try first | exact ⟨rfl, _, World.drewN_drewN _ _ _⟩ | exact ⟨rfl, _, Eq.trans (World.drewN_drewN _ _ _) (congrArg (World.drewN _) (Nat.add_assoc _ _ _))⟩); have hcz50_0 : wr.cell? ⟨gb112, 0, none⟩ = some (.int .u64 a0_0) := (blk_cell BK112.out 0).trans rfl; have hcz50_1 : wr.cell? ⟨gb112, 1, none⟩ = some (.int .u64 a0_1) := (blk_cell BK112.out 1).trans rfl; have hcz50_2 : wr.cell? ⟨gb112, 2, none⟩ = some (.bool a0_2) := (blk_cell BK112.out 2).trans rfl; have hcz50_3 : wr.cell? ⟨gb112, 3, none⟩ = some (.int .u32 a0_3) := (blk_cell BK112.out 3).trans rfl; have hcz50_4 : wr.cell? ⟨gb112, 4, none⟩ = some (.int .u8 a0_4) := (blk_cell BK112.out 4).trans rfl; have hcz50_5 : wr.cell? ⟨gb112, 5, none⟩ = some (.int .i64 a0_5) := (blk_cell BK112.out 5).trans rfl; have hcz50_6 : wr.cell? ⟨gb112, 6, none⟩ = some (.int .u16 a0_6) := (blk_cell BK112.out 6).trans rfl; have hcz50_7 : wr.cell? ⟨gb112, 7, none⟩ = some (.int .u16 a0_7) := (blk_cell BK112.out 7).trans rfl; have hfz50_0 := blk_frozen BK112.out 0; have hfz50_1 := blk_frozen BK112.out 1; have hfz50_2 := blk_frozen BK112.out 2; have hfz50_3 := blk_frozen BK112.out 3; have hfz50_4 := blk_frozen BK112.out 4; have hfz50_5 := blk_frozen BK112.out 5; have hfz50_6 := blk_frozen BK112.out 6; have hfz50_7 := blk_frozen BK112.out 7) | (go_at_call 30; (refine calls_of_args (args' := #[.int .i64 (wrap64 (a1_5 - a0_5))]) ?_ ?_; focus (first | rfl | (simp; done) | (refine qa_arr ?_; (repeat' (first | rfl | refine qa_cons ?_ ?_ | refine qa_int ?_ | refine qa_agg ?_ | refine qa_arr ?_ | omega)); done)); (with_reducible refine (coin_Fold.calls (wrap64 (a1_5 - a0_5)) t129 _ A43.out).mono ?_)); rintro e w' ⟨rfl, ⟨nd, rfl⟩⟩; (try first | exact ⟨rfl, _, World.drewN_drewN _ _ _⟩ | exact ⟨rfl, _, Eq.trans (World.drewN_drewN _ _ _) (congrArg (World.drewN _) (Nat.add_assoc _ _ _))⟩); obtain ⟨Ao51, co51, eo51⟩ := Kd.R_slice HO_5.out; subst eo51) | (go_at_call 27; (refine calls_of_args (args' := #[.slice Ao51 x5_3.length co51, .int .u64 t129]) ?_ ?_; focus (first | rfl | (simp; done) | (refine qa_arr ?_; (repeat' (first | rfl | refine qa_cons ?_ ?_ | refine qa_int ?_ | refine qa_agg ?_ | refine qa_arr ?_ | omega)); done)); (with_reducible refine (coin_Put.calls k3 (fun k_ => some k_ = (.slice Ao51 x5_3.length co51 : Value).ownBlock) (.slice Ao51 x5_3.length co51) x5_3 t129 t130 w _ ?side1 ?side2 A44.out).mono ?_)); (case side1 => repeat (first | (with_reducible first | exact HB.out | apply below_alloc | apply pw_below_drewN | apply below_drew1 | refine below_set ?_ GE112.out | refine below_set ?_ GE113.out) | exact HB.out)); (case side2 => exact Kd.R_tight rfl HO_5.out); rintro e w52 ⟨v131, rfl, ho0, hb, hkp⟩; have n0_ := Aside0.mk (blk_kept (o := .cells #[.int .u64 a0_0, .int .u64 a0_1, .bool a0_2, .int .u32 a0_3, .int .u8 a0_4, .int .i64 a0_5, .int .u16 a0_6, .int .u16 a0_7] 31 (0, 0)) (by exact BK112.out) hkp (fun hs_ => (fun e_ => (Kd.R_ne HO_5.out BK112.out (by decide)) e_) hs_)); have n1_ := Aside0.mk (blk_kept (o := .cells #[.int .u64 a1_0, .int .u64 a1_1, .bool false, .int .u32 a1_3, .int .u8 a1_4, .int .i64 a1_5, .int .u16 a1_6, .int .u16 a1_7] 31 (0, 0)) (by exact BK113.out) hkp (fun hs_ => (fun e_ => (Kd.R_ne HO_5.out BK113.out (by decide)) e_) hs_)); have n2_ := Aside0.mk (Kd.R_mono (ok' := fun k_ => True) ho0 (fun k_ hk_ => trivial)); have n3_ := Aside0.mk (hb); clear BK112; clear BK113; clear HB; clear HO_5; have BK112 := n0_; have BK113 := n1_; have HO132 := n2_; have HB := n3_; clear n0_ n1_ n2_ n3_; (try clear hb); (try clear hkp); (try clear ho0); have hcz53_0 : w52.cell? ⟨gb113, 0, none⟩ = some (.int .u64 a1_0) := (blk_cell BK113.out 0).trans rfl; have hcz53_1 : w52.cell? ⟨gb113, 1, none⟩ = some (.int .u64 a1_1) := (blk_cell BK113.out 1).trans rfl; have hcz53_2 : w52.cell? ⟨gb113, 2, none⟩ = some (.bool false) := (blk_cell BK113.out 2).trans rfl; have hcz53_3 : w52.cell? ⟨gb113, 3, none⟩ = some (.int .u32 a1_3) := (blk_cell BK113.out 3).trans rfl; have hcz53_4 : w52.cell? ⟨gb113, 4, none⟩ = some (.int .u8 a1_4) := (blk_cell BK113.out 4).trans rfl; have hcz53_5 : w52.cell? ⟨gb113, 5, none⟩ = some (.int .i64 a1_5) := (blk_cell BK113.out 5).trans rfl; have hcz53_6 : w52.cell? ⟨gb113, 6, none⟩ = some (.int .u16 a1_6) := (blk_cell BK113.out 6).trans rfl; have hcz53_7 : w52.cell? ⟨gb113, 7, none⟩ = some (.int .u16 a1_7) := (blk_cell BK113.out 7).trans rfl; have hfz53_0 := blk_frozen BK113.out 0; have hfz53_1 := blk_frozen BK113.out 1; have hfz53_2 := blk_frozen BK113.out 2; have hfz53_3 := blk_frozen BK113.out 3; have hfz53_4 := blk_frozen BK113.out 4; have hfz53_5 := blk_frozen BK113.out 5; have hfz53_6 := blk_frozen BK113.out 6; have hfz53_7 := blk_frozen BK113.out 7; have hcz54_0 : w52.cell? ⟨gb112, 0, none⟩ = some (.int .u64 a0_0) := (blk_cell BK112.out 0).trans rfl; have hcz54_1 : w52.cell? ⟨gb112, 1, none⟩ = some (.int .u64 a0_1) := (blk_cell BK112.out 1).trans rfl; have hcz54_2 : w52.cell? ⟨gb112, 2, none⟩ = some (.bool a0_2) := (blk_cell BK112.out 2).trans rfl; have hcz54_3 : w52.cell? ⟨gb112, 3, none⟩ = some (.int .u32 a0_3) := (blk_cell BK112.out 3).trans rfl; have hcz54_4 : w52.cell? ⟨gb112, 4, none⟩ = some (.int .u8 a0_4) := (blk_cell BK112.out 4).trans rfl; have hcz54_5 : w52.cell? ⟨gb112, 5, none⟩ = some (.int .i64 a0_5) := (blk_cell BK112.out 5).trans rfl; have hcz54_6 : w52.cell? ⟨gb112, 6, none⟩ = some (.int .u16 a0_6) := (blk_cell BK112.out 6).trans rfl; have hcz54_7 : w52.cell? ⟨gb112, 7, none⟩ = some (.int .u16 a0_7) := (blk_cell BK112.out 7).trans rfl; have hfz54_0 := blk_frozen BK112.out 0; have hfz54_1 := blk_frozen BK112.out 1; have hfz54_2 := blk_frozen BK112.out 2; have hfz54_3 := blk_frozen BK112.out 3; have hfz54_4 := blk_frozen BK112.out 4; have hfz54_5 := blk_frozen BK112.out 5; have hfz54_6 := blk_frozen BK112.out 6; have hfz54_7 := blk_frozen BK112.out 7) | (go_at_call 30; (refine calls_of_args (args' := #[.int .i64 (wrap64 ((wrap64 (a1_6)) - (wrap64 (a0_6))))]) ?_ ?_; focus (first | rfl | (simp; done) | (refine qa_arr ?_; (repeat' (first | rfl | refine qa_cons ?_ ?_ | refine qa_int ?_ | refine qa_agg ?_ | refine qa_arr ?_ | omega)); done)); (with_reducible refine (coin_Fold.calls (wrap64 ((wrap64 (a1_6)) - (wrap64 (a0_6)))) t133 _ A45.out).mono ?_)); rintro e w' ⟨rfl, ⟨nd, rfl⟩⟩; (try first | exact ⟨rfl, _, World.drewN_drewN _ _ _⟩ | exact ⟨rfl, _, Eq.trans (World.drewN_drewN _ _ _) (congrArg (World.drewN _) (Nat.add_assoc _ _ _))⟩); obtain ⟨Ao55, co55, eo55⟩ := Kd.R_slice HO132.out; subst eo55) | (go_at_call 27; (refine calls_of_args (args' := #[.slice Ao55 t130.length co55, .int .u64 t133]) ?_ ?_; focus (first | rfl | (simp; done) | (refine qa_arr ?_; (repeat' (first | rfl | refine qa_cons ?_ ?_ | refine qa_int ?_ | refine qa_agg ?_ | refine qa_arr ?_ | omega)); done)); (with_reducible refine (coin_Put.calls k3 (fun k_ => some k_ = (.slice Ao55 t130.length co55 : Value).ownBlock) (.slice Ao55 t130.length co55) t130 t133 t134 w _ ?side1 ?side2 A46.out).mono ?_)); (case side1 => repeat (first | (with_reducible first | exact HB.out | apply below_alloc | apply pw_below_drewN | apply below_drew1 | refine below_set ?_ GE112.out | refine below_set ?_ GE113.out) | exact HB.out)); (case side2 => exact Kd.R_tight rfl HO132.out); rintro e w56 ⟨v135, rfl, ho0, hb, hkp⟩; have n0_ := Aside0.mk (blk_kept (o := .cells #[.int .u64 a0_0, .int .u64 a0_1, .bool a0_2, .int .u32 a0_3, .int .u8 a0_4, .int .i64 a0_5, .int .u16 a0_6, .int .u16 a0_7] 31 (0, 0)) (by exact BK112.out) hkp (fun hs_ => (fun e_ => (Kd.R_ne HO132.out BK112.out (by decide)) e_) hs_)); have n1_ := Aside0.mk (blk_kept (o := .cells #[.int .u64 a1_0, .int .u64 a1_1, .bool false, .int .u32 a1_3, .int .u8 a1_4, .int .i64 a1_5, .int .u16 a1_6, .int .u16 a1_7] 31 (0, 0)) (by exact BK113.out) hkp (fun hs_ => (fun e_ => (Kd.R_ne HO132.out BK113.out (by decide)) e_) hs_)); have n2_ := Aside0.mk (Kd.R_mono (ok' := fun k_ => True) ho0 (fun k_ hk_ => trivial)); have n3_ := Aside0.mk (hb); clear BK112; clear BK113; clear HB; clear HO132; have BK112 := n0_; have BK113 := n1_; have HO136 := n2_; have HB := n3_; clear n0_ n1_ n2_ n3_; (try clear hb); (try clear hkp); (try clear ho0); have hcz57_0 : w56.cell? ⟨gb113, 0, none⟩ = some (.int .u64 a1_0) := (blk_cell BK113.out 0).trans rfl; have hcz57_1 : w56.cell? ⟨gb113, 1, none⟩ = some (.int .u64 a1_1) := (blk_cell BK113.out 1).trans rfl; have hcz57_2 : w56.cell? ⟨gb113, 2, none⟩ = some (.bool false) := (blk_cell BK113.out 2).trans rfl; have hcz57_3 : w56.cell? ⟨gb113, 3, none⟩ = some (.int .u32 a1_3) := (blk_cell BK113.out 3).trans rfl; have hcz57_4 : w56.cell? ⟨gb113, 4, none⟩ = some (.int .u8 a1_4) := (blk_cell BK113.out 4).trans rfl; have hcz57_5 : w56.cell? ⟨gb113, 5, none⟩ = some (.int .i64 a1_5) := (blk_cell BK113.out 5).trans rfl; have hcz57_6 : w56.cell? ⟨gb113, 6, none⟩ = some (.int .u16 a1_6) := (blk_cell BK113.out 6).trans rfl; have hcz57_7 : w56.cell? ⟨gb113, 7, none⟩ = some (.int .u16 a1_7) := (blk_cell BK113.out 7).trans rfl; have hfz57_0 := blk_frozen BK113.out 0; have hfz57_1 := blk_frozen BK113.out 1; have hfz57_2 := blk_frozen BK113.out 2; have hfz57_3 := blk_frozen BK113.out 3; have hfz57_4 := blk_frozen BK113.out 4; have hfz57_5 := blk_frozen BK113.out 5; have hfz57_6 := blk_frozen BK113.out 6; have hfz57_7 := blk_frozen BK113.out 7; have hcz58_0 : w56.cell? ⟨gb112, 0, none⟩ = some (.int .u64 a0_0) := (blk_cell BK112.out 0).trans rfl; have hcz58_1 : w56.cell? ⟨gb112, 1, none⟩ = some (.int .u64 a0_1) := (blk_cell BK112.out 1).trans rfl; have hcz58_2 : w56.cell? ⟨gb112, 2, none⟩ = some (.bool a0_2) := (blk_cell BK112.out 2).trans rfl; have hcz58_3 : w56.cell? ⟨gb112, 3, none⟩ = some (.int .u32 a0_3) := (blk_cell BK112.out 3).trans rfl; have hcz58_4 : w56.cell? ⟨gb112, 4, none⟩ = some (.int .u8 a0_4) := (blk_cell BK112.out 4).trans rfl; have hcz58_5 : w56.cell? ⟨gb112, 5, none⟩ = some (.int .i64 a0_5) := (blk_cell BK112.out 5).trans rfl; have hcz58_6 : w56.cell? ⟨gb112, 6, none⟩ = some (.int .u16 a0_6) := (blk_cell BK112.out 6).trans rfl; have hcz58_7 : w56.cell? ⟨gb112, 7, none⟩ = some (.int .u16 a0_7) := (blk_cell BK112.out 7).trans rfl; have hfz58_0 := blk_frozen BK112.out 0; have hfz58_1 := blk_frozen BK112.out 1; have hfz58_2 := blk_frozen BK112.out 2; have hfz58_3 := blk_frozen BK112.out 3; have hfz58_4 := blk_frozen BK112.out 4; have hfz58_5 := blk_frozen BK112.out 5; have hfz58_6 := blk_frozen BK112.out 6; have hfz58_7 := blk_frozen BK112.out 7; obtain ⟨Ao59, co59, eo59⟩ := Kd.R_slice HO136.out; subst eo59) | (go_at_call 27; (refine calls_of_args (args' := #[.slice Ao59 t134.length co59, .int .u64 (IntKind.u64.wrap (IntKind.u16.wrap (a1_7 - a0_7)))]) ?_ ?_; focus (first | rfl | (simp; done) | (refine qa_arr ?_; (repeat' (first | rfl | refine qa_cons ?_ ?_ | refine qa_int ?_ | refine qa_agg ?_ | refine qa_arr ?_ | omega)); done)); (with_reducible refine (coin_Put.calls k3 (fun k_ => some k_ = (.slice Ao59 t134.length co59 : Value).ownBlock) (.slice Ao59 t134.length co59) t134 (IntKind.u64.wrap (IntKind.u16.wrap (a1_7 - a0_7))) t137 w _ ?side1 ?side2 A47.out).mono ?_)); (case side1 => repeat (first | (with_reducible first | exact HB.out | apply below_alloc | apply pw_below_drewN | apply below_drew1 | refine below_set ?_ GE112.out | refine below_set ?_ GE113.out) | exact HB.out)); (case side2 => exact Kd.R_tight rfl HO136.out); rintro e w60 ⟨v138, rfl, ho0, hb, hkp⟩; have n0_ := Aside0.mk (blk_kept (o := .cells #[.int .u64 a0_0, .int .u64 a0_1, .bool a0_2, .int .u32 a0_3, .int .u8 a0_4, .int .i64 a0_5, .int .u16 a0_6, .int .u16 a0_7] 31 (0, 0)) (by exact BK112.out) hkp (fun hs_ => (fun e_ => (Kd.R_ne HO136.out BK112.out (by decide)) e_) hs_)); have n1_ := Aside0.mk (blk_kept (o := .cells #[.int .u64 a1_0, .int .u64 a1_1, .bool false, .int .u32 a1_3, .int .u8 a1_4, .int .i64 a1_5, .int .u16 a1_6, .int .u16 a1_7] 31 (0, 0)) (by exact BK113.out) hkp (fun hs_ => (fun e_ => (Kd.R_ne HO136.out BK113.out (by decide)) e_) hs_)); have n2_ := Aside0.mk (Kd.R_mono (ok' := fun k_ => True) ho0 (fun k_ hk_ => trivial)); have n3_ := Aside0.mk (hb); clear BK112; clear BK113; clear HB; clear HO136; have BK112 := n0_; have BK113 := n1_; have HO139 := n2_; have HB := n3_; clear n0_ n1_ n2_ n3_; (try clear hb); (try clear hkp); (try clear ho0))); try go_wp2_with (first | (go_at_call 28; (with_reducible refine (change_octets.calls a1_4 t124 _ A33.out).mono ?_); rintro e w' ⟨rfl, ⟨nd, rfl⟩⟩; (try first | exact ⟨rfl, _, World.drewN_drewN _ _ _⟩ | exact ⟨rfl, _, Eq.trans (World.drewN_drewN _ _ _) (congrArg (World.drewN _) (Nat.add_assoc _ _ _))⟩); have hcz50_0 : wr.cell? ⟨gb112, 0, none⟩ = some (.int .u64 a0_0) := (blk_cell BK112.out 0).trans rfl; have hcz50_1 : wr.cell? ⟨gb112, 1, none⟩ = some (.int .u64 a0_1) := (blk_cell BK112.out 1).trans rfl; have hcz50_2 : wr.cell? ⟨gb112, 2, none⟩ = some (.bool a0_2) := (blk_cell BK112.out 2).trans rfl; have hcz50_3 : wr.cell? ⟨gb112, 3, none⟩ = some (.int .u32 a0_3) := (blk_cell BK112.out 3).trans rfl; have hcz50_4 : wr.cell? ⟨gb112, 4, none⟩ = some (.int .u8 a0_4) := (blk_cell BK112.out 4).trans rfl; have hcz50_5 : wr.cell? ⟨gb112, 5, none⟩ = some (.int .i64 a0_5) := (blk_cell BK112.out 5).trans rfl; have hcz50_6 : wr.cell? ⟨gb112, 6, none⟩ = some (.int .u16 a0_6) := (blk_cell BK112.out 6).trans rfl; have hcz50_7 : wr.cell? ⟨gb112, 7, none⟩ = some (.int .u16 a0_7) := (blk_cell BK112.out 7).trans rfl; have hfz50_0 := blk_frozen BK112.out 0; have hfz50_1 := blk_frozen BK112.out 1; have hfz50_2 := blk_frozen BK112.out 2; have hfz50_3 := blk_frozen BK112.out 3; have hfz50_4 := blk_frozen BK112.out 4; have hfz50_5 := blk_frozen BK112.out 5; have hfz50_6 := blk_frozen BK112.out 6; have hfz50_7 := blk_frozen BK112.out 7) | (go_at_call 30; (with_reducible refine (coin_Fold.calls (wrap64 (a1_5 - a0_5)) t129 _ A43.out).mono ?_); rintro e w' ⟨rfl, ⟨nd, rfl⟩⟩; (try first | exact ⟨rfl, _, World.drewN_drewN _ _ _⟩ | exact ⟨rfl, _, Eq.trans (World.drewN_drewN _ _ _) (congrArg (World.drewN _) (Nat.add_assoc _ _ _))⟩); obtain ⟨Ao51, co51, eo51⟩ := Kd.R_slice HO_5.out; subst eo51) | (go_at_call 27; (with_reducible refine (coin_Put.calls k3 (fun k_ => some k_ = (.slice Ao51 x5_3.length co51 : Value).ownBlock) (.slice Ao51 x5_3.length co51) x5_3 t129 t130 w _ ?side1 ?side2 A44.out).mono ?_); (case side1 => repeat (first | (with_reducible first | exact HB.out | apply below_alloc | apply pw_below_drewN | apply below_drew1 | refine below_set ?_ GE112.out | refine below_set ?_ GE113.out) | exact HB.out)); (case side2 => exact Kd.R_tight rfl HO_5.out); rintro e w52 ⟨v131, rfl, ho0, hb, hkp⟩; have n0_ := Aside0.mk (blk_kept (o := .cells #[.int .u64 a0_0, .int .u64 a0_1, .bool a0_2, .int .u32 a0_3, .int .u8 a0_4, .int .i64 a0_5, .int .u16 a0_6, .int .u16 a0_7] 31 (0, 0)) (by exact BK112.out) hkp (fun hs_ => (fun e_ => (Kd.R_ne HO_5.out BK112.out (by decide)) e_) hs_)); have n1_ := Aside0.mk (blk_kept (o := .cells #[.int .u64 a1_0, .int .u64 a1_1, .bool false, .int .u32 a1_3, .int .u8 a1_4, .int .i64 a1_5, .int .u16 a1_6, .int .u16 a1_7] 31 (0, 0)) (by exact BK113.out) hkp (fun hs_ => (fun e_ => (Kd.R_ne HO_5.out BK113.out (by decide)) e_) hs_)); have n2_ := Aside0.mk (Kd.R_mono (ok' := fun k_ => True) ho0 (fun k_ hk_ => trivial)); have n3_ := Aside0.mk (hb); clear BK112; clear BK113; clear HB; clear HO_5; have BK112 := n0_; have BK113 := n1_; have HO132 := n2_; have HB := n3_; clear n0_ n1_ n2_ n3_; (try clear hb); (try clear hkp); (try clear ho0); have hcz53_0 : w52.cell? ⟨gb113, 0, none⟩ = some (.int .u64 a1_0) := (blk_cell BK113.out 0).trans rfl; have hcz53_1 : w52.cell? ⟨gb113, 1, none⟩ = some (.int .u64 a1_1) := (blk_cell BK113.out 1).trans rfl; have hcz53_2 : w52.cell? ⟨gb113, 2, none⟩ = some (.bool false) := (blk_cell BK113.out 2).trans rfl; have hcz53_3 : w52.cell? ⟨gb113, 3, none⟩ = some (.int .u32 a1_3) := (blk_cell BK113.out 3).trans rfl; have hcz53_4 : w52.cell? ⟨gb113, 4, none⟩ = some (.int .u8 a1_4) := (blk_cell BK113.out 4).trans rfl; have hcz53_5 : w52.cell? ⟨gb113, 5, none⟩ = some (.int .i64 a1_5) := (blk_cell BK113.out 5).trans rfl; have hcz53_6 : w52.cell? ⟨gb113, 6, none⟩ = some (.int .u16 a1_6) := (blk_cell BK113.out 6).trans rfl; have hcz53_7 : w52.cell? ⟨gb113, 7, none⟩ = some (.int .u16 a1_7) := (blk_cell BK113.out 7).trans rfl; have hfz53_0 := blk_frozen BK113.out 0; have hfz53_1 := blk_frozen BK113.out 1; have hfz53_2 := blk_frozen BK113.out 2; have hfz53_3 := blk_frozen BK113.out 3; have hfz53_4 := blk_frozen BK113.out 4; have hfz53_5 := blk_frozen BK113.out 5; have hfz53_6 := blk_frozen BK113.out 6; have hfz53_7 := blk_frozen BK113.out 7; have hcz54_0 : w52.cell? ⟨gb112, 0, none⟩ = some (.int .u64 a0_0) := (blk_cell BK112.out 0).trans rfl; have hcz54_1 : w52.cell? ⟨gb112, 1, none⟩ = some (.int .u64 a0_1) := (blk_cell BK112.out 1).trans rfl; have hcz54_2 : w52.cell? ⟨gb112, 2, none⟩ = some (.bool a0_2) := (blk_cell BK112.out 2).trans rfl; have hcz54_3 : w52.cell? ⟨gb112, 3, none⟩ = some (.int .u32 a0_3) := (blk_cell BK112.out 3).trans rfl; have hcz54_4 : w52.cell? ⟨gb112, 4, none⟩ = some (.int .u8 a0_4) := (blk_cell BK112.out 4).trans rfl; have hcz54_5 : w52.cell? ⟨gb112, 5, none⟩ = some (.int .i64 a0_5) := (blk_cell BK112.out 5).trans rfl; have hcz54_6 : w52.cell? ⟨gb112, 6, none⟩ = some (.int .u16 a0_6) := (blk_cell BK112.out 6).trans rfl; have hcz54_7 : w52.cell? ⟨gb112, 7, none⟩ = some (.int .u16 a0_7) := (blk_cell BK112.out 7).trans rfl; have hfz54_0 := blk_frozen BK112.out 0; have hfz54_1 := blk_frozen BK112.out 1; have hfz54_2 := blk_frozen BK112.out 2; have hfz54_3 := blk_frozen BK112.out 3; have hfz54_4 := blk_frozen BK112.out 4; have hfz54_5 := blk_frozen BK112.out 5; have hfz54_6 := blk_frozen BK112.out 6; have hfz54_7 := blk_frozen BK112.out 7) | (go_at_call 30; (with_reducible refine (coin_Fold.calls (wrap64 ((wrap64 (a1_6)) - (wrap64 (a0_6)))) t133 _ A45.out).mono ?_); rintro e w' ⟨rfl, ⟨nd, rfl⟩⟩; (try first | exact ⟨rfl, _, World.drewN_drewN _ _ _⟩ | exact ⟨rfl, _, Eq.trans (World.drewN_drewN _ _ _) (congrArg (World.drewN _) (Nat.add_assoc _ _ _))⟩); obtain ⟨Ao55, co55, eo55⟩ := Kd.R_slice HO132.out; subst eo55) | (go_at_call 27; (with_reducible refine (coin_Put.calls k3 (fun k_ => some k_ = (.slice Ao55 t130.length co55 : Value).ownBlock) (.slice Ao55 t130.length co55) t130 t133 t134 w _ ?side1 ?side2 A46.out).mono ?_); (case side1 => repeat (first | (with_reducible first | exact HB.out | apply below_alloc | apply pw_below_drewN | apply below_drew1 | refine below_set ?_ GE112.out | refine below_set ?_ GE113.out) | exact HB.out)); (case side2 => exact Kd.R_tight rfl HO132.out); rintro e w56 ⟨v135, rfl, ho0, hb, hkp⟩; have n0_ := Aside0.mk (blk_kept (o := .cells #[.int .u64 a0_0, .int .u64 a0_1, .bool a0_2, .int .u32 a0_3, .int .u8 a0_4, .int .i64 a0_5, .int .u16 a0_6, .int .u16 a0_7] 31 (0, 0)) (by exact BK112.out) hkp (fun hs_ => (fun e_ => (Kd.R_ne HO132.out BK112.out (by decide)) e_) hs_)); have n1_ := Aside0.mk (blk_kept (o := .cells #[.int .u64 a1_0, .int .u64 a1_1, .bool false, .int .u32 a1_3, .int .u8 a1_4, .int .i64 a1_5, .int .u16 a1_6, .int .u16 a1_7] 31 (0, 0)) (by exact BK113.out) hkp (fun hs_ => (fun e_ => (Kd.R_ne HO132.out BK113.out (by decide)) e_) hs_)); have n2_ := Aside0.mk (Kd.R_mono (ok' := fun k_ => True) ho0 (fun k_ hk_ => trivial)); have n3_ := Aside0.mk (hb); clear BK112; clear BK113; clear HB; clear HO132; have BK112 := n0_; have BK113 := n1_; have HO136 := n2_; have HB := n3_; clear n0_ n1_ n2_ n3_; (try clear hb); (try clear hkp); (try clear ho0); have hcz57_0 : w56.cell? ⟨gb113, 0, none⟩ = some (.int .u64 a1_0) := (blk_cell BK113.out 0).trans rfl; have hcz57_1 : w56.cell? ⟨gb113, 1, none⟩ = some (.int .u64 a1_1) := (blk_cell BK113.out 1).trans rfl; have hcz57_2 : w56.cell? ⟨gb113, 2, none⟩ = some (.bool false) := (blk_cell BK113.out 2).trans rfl; have hcz57_3 : w56.cell? ⟨gb113, 3, none⟩ = some (.int .u32 a1_3) := (blk_cell BK113.out 3).trans rfl; have hcz57_4 : w56.cell? ⟨gb113, 4, none⟩ = some (.int .u8 a1_4) := (blk_cell BK113.out 4).trans rfl; have hcz57_5 : w56.cell? ⟨gb113, 5, none⟩ = some (.int .i64 a1_5) := (blk_cell BK113.out 5).trans rfl; have hcz57_6 : w56.cell? ⟨gb113, 6, none⟩ = some (.int .u16 a1_6) := (blk_cell BK113.out 6).trans rfl; have hcz57_7 : w56.cell? ⟨gb113, 7, none⟩ = some (.int .u16 a1_7) := (blk_cell BK113.out 7).trans rfl; have hfz57_0 := blk_frozen BK113.out 0; have hfz57_1 := blk_frozen BK113.out 1; have hfz57_2 := blk_frozen BK113.out 2; have hfz57_3 := blk_frozen BK113.out 3; have hfz57_4 := blk_frozen BK113.out 4; have hfz57_5 := blk_frozen BK113.out 5; have hfz57_6 := blk_frozen BK113.out 6; have hfz57_7 := blk_frozen BK113.out 7; have hcz58_0 : w56.cell? ⟨gb112, 0, none⟩ = some (.int .u64 a0_0) := (blk_cell BK112.out 0).trans rfl; have hcz58_1 : w56.cell? ⟨gb112, 1, none⟩ = some (.int .u64 a0_1) := (blk_cell BK112.out 1).trans rfl; have hcz58_2 : w56.cell? ⟨gb112, 2, none⟩ = some (.bool a0_2) := (blk_cell BK112.out 2).trans rfl; have hcz58_3 : w56.cell? ⟨gb112, 3, none⟩ = some (.int .u32 a0_3) := (blk_cell BK112.out 3).trans rfl; have hcz58_4 : w56.cell? ⟨gb112, 4, none⟩ = some (.int .u8 a0_4) := (blk_cell BK112.out 4).trans rfl; have hcz58_5 : w56.cell? ⟨gb112, 5, none⟩ = some (.int .i64 a0_5) := (blk_cell BK112.out 5).trans rfl; have hcz58_6 : w56.cell? ⟨gb112, 6, none⟩ = some (.int .u16 a0_6) := (blk_cell BK112.out 6).trans rfl; have hcz58_7 : w56.cell? ⟨gb112, 7, none⟩ = some (.int .u16 a0_7) := (blk_cell BK112.out 7).trans rfl; have hfz58_0 := blk_frozen BK112.out 0; have hfz58_1 := blk_frozen BK112.out 1; have hfz58_2 := blk_frozen BK112.out 2; have hfz58_3 := blk_frozen BK112.out 3; have hfz58_4 := blk_frozen BK112.out 4; have hfz58_5 := blk_frozen BK112.out 5; have hfz58_6 := blk_frozen BK112.out 6; have hfz58_7 := blk_frozen BK112.out 7; obtain ⟨Ao59, co59, eo59⟩ := Kd.R_slice HO136.out; subst eo59) | (go_at_call 27; (with_reducible refine (coin_Put.calls k3 (fun k_ => some k_ = (.slice Ao59 t134.length co59 : Value).ownBlock) (.slice Ao59 t134.length co59) t134 (IntKind.u64.wrap (IntKind.u16.wrap (a1_7 - a0_7))) t137 w _ ?side1 ?side2 A47.out).mono ?_); (case side1 => repeat (first | (with_reducible first | exact HB.out | apply below_alloc | apply pw_below_drewN | apply below_drew1 | refine below_set ?_ GE112.out | refine below_set ?_ GE113.out) | exact HB.out)); (case side2 => exact Kd.R_tight rfl HO136.out); rintro e w60 ⟨v138, rfl, ho0, hb, hkp⟩; have n0_ := Aside0.mk (blk_kept (o := .cells #[.int .u64 a0_0, .int .u64 a0_1, .bool a0_2, .int .u32 a0_3, .int .u8 a0_4, .int .i64 a0_5, .int .u16 a0_6, .int .u16 a0_7] 31 (0, 0)) (by exact BK112.out) hkp (fun hs_ => (fun e_ => (Kd.R_ne HO136.out BK112.out (by decide)) e_) hs_)); have n1_ := Aside0.mk (blk_kept (o := .cells #[.int .u64 a1_0, .int .u64 a1_1, .bool false, .int .u32 a1_3, .int .u8 a1_4, .int .i64 a1_5, .int .u16 a1_6, .int .u16 a1_7] 31 (0, 0)) (by exact BK113.out) hkp (fun hs_ => (fun e_ => (Kd.R_ne HO136.out BK113.out (by decide)) e_) hs_)); have n2_ := Aside0.mk (Kd.R_mono (ok' := fun k_ => True) ho0 (fun k_ hk_ => trivial)); have n3_ := Aside0.mk (hb); clear BK112; clear BK113; clear HB; clear HO136; have BK112 := n0_; have BK113 := n1_; have HO139 := n2_; have HB := n3_; clear n0_ n1_ n2_ n3_; (try clear hb); (try clear hkp); (try clear ho0)) | (go_at_call 28; (refine calls_of_args (args' := #[.int .u8 a1_4]) ?_ ?_; focus (first | rfl | (simp; done) | (refine qa_arr ?_; (repeat' (first | rfl | refine qa_cons ?_ ?_ | refine qa_int ?_ | refine qa_agg ?_ | refine qa_arr ?_ | omega)); done)); (with_reducible refine (change_octets.calls a1_4 t124 _ A33.out).mono ?_)); rintro e w' ⟨rfl, ⟨nd, rfl⟩⟩; (try first | exact ⟨rfl, _, World.drewN_drewN _ _ _⟩ | exact ⟨rfl, _, Eq.trans (World.drewN_drewN _ _ _) (congrArg (World.drewN _) (Nat.add_assoc _ _ _))⟩); have hcz50_0 : wr.cell? ⟨gb112, 0, none⟩ = some (.int .u64 a0_0) := (blk_cell BK112.out 0).trans rfl; have hcz50_1 : wr.cell? ⟨gb112, 1, none⟩ = some (.int .u64 a0_1) := (blk_cell BK112.out 1).trans rfl; have hcz50_2 : wr.cell? ⟨gb112, 2, none⟩ = some (.bool a0_2) := (blk_cell BK112.out 2).trans rfl; have hcz50_3 : wr.cell? ⟨gb112, 3, none⟩ = some (.int .u32 a0_3) := (blk_cell BK112.out 3).trans rfl; have hcz50_4 : wr.cell? ⟨gb112, 4, none⟩ = some (.int .u8 a0_4) := (blk_cell BK112.out 4).trans rfl; have hcz50_5 : wr.cell? ⟨gb112, 5, none⟩ = some (.int .i64 a0_5) := (blk_cell BK112.out 5).trans rfl; have hcz50_6 : wr.cell? ⟨gb112, 6, none⟩ = some (.int .u16 a0_6) := (blk_cell BK112.out 6).trans rfl; have hcz50_7 : wr.cell? ⟨gb112, 7, none⟩ = some (.int .u16 a0_7) := (blk_cell BK112.out 7).trans rfl; have hfz50_0 := blk_frozen BK112.out 0; have hfz50_1 := blk_frozen BK112.out 1; have hfz50_2 := blk_frozen BK112.out 2; have hfz50_3 := blk_frozen BK112.out 3; have hfz50_4 := blk_frozen BK112.out 4; have hfz50_5 := blk_frozen BK112.out 5; have hfz50_6 := blk_frozen BK112.out 6; have hfz50_7 := blk_frozen BK112.out 7) | (go_at_call 30; (refine calls_of_args (args' := #[.int .i64 (wrap64 (a1_5 - a0_5))]) ?_ ?_; focus (first | rfl | (simp; done) | (refine qa_arr ?_; (repeat' (first | rfl | refine qa_cons ?_ ?_ | refine qa_int ?_ | refine qa_agg ?_ | refine qa_arr ?_ | omega)); done)); (with_reducible refine (coin_Fold.calls (wrap64 (a1_5 - a0_5)) t129 _ A43.out).mono ?_)); rintro e w' ⟨rfl, ⟨nd, rfl⟩⟩; (try first | exact ⟨rfl, _, World.drewN_drewN _ _ _⟩ | exact ⟨rfl, _, Eq.trans (World.drewN_drewN _ _ _) (congrArg (World.drewN _) (Nat.add_assoc _ _ _))⟩); obtain ⟨Ao51, co51, eo51⟩ := Kd.R_slice HO_5.out; subst eo51) | (go_at_call 27; (refine calls_of_args (args' := #[.slice Ao51 x5_3.length co51, .int .u64 t129]) ?_ ?_; focus (first | rfl | (simp; done) | (refine qa_arr ?_; (repeat' (first | rfl | refine qa_cons ?_ ?_ | refine qa_int ?_ | refine qa_agg ?_ | refine qa_arr ?_ | omega)); done)); (with_reducible refine (coin_Put.calls k3 (fun k_ => some k_ = (.slice Ao51 x5_3.length co51 : Value).ownBlock) (.slice Ao51 x5_3.length co51) x5_3 t129 t130 w _ ?side1 ?side2 A44.out).mono ?_)); (case side1 => repeat (first | (with_reducible first | exact HB.out | apply below_alloc | apply pw_below_drewN | apply below_drew1 | refine below_set ?_ GE112.out | refine below_set ?_ GE113.out) | exact HB.out)); (case side2 => exact Kd.R_tight rfl HO_5.out); rintro e w52 ⟨v131, rfl, ho0, hb, hkp⟩; have n0_ := Aside0.mk (blk_kept (o := .cells #[.int .u64 a0_0, .int .u64 a0_1, .bool a0_2, .int .u32 a0_3, .int .u8 a0_4, .int .i64 a0_5, .int .u16 a0_6, .int .u16 a0_7] 31 (0, 0)) (by exact BK112.out) hkp (fun hs_ => (fun e_ => (Kd.R_ne HO_5.out BK112.out (by decide)) e_) hs_)); have n1_ := Aside0.mk (blk_kept (o := .cells #[.int .u64 a1_0, .int .u64 a1_1, .bool false, .int .u32 a1_3, .int .u8 a1_4, .int .i64 a1_5, .int .u16 a1_6, .int .u16 a1_7] 31 (0, 0)) (by exact BK113.out) hkp (fun hs_ => (fun e_ => (Kd.R_ne HO_5.out BK113.out (by decide)) e_) hs_)); have n2_ := Aside0.mk (Kd.R_mono (ok' := fun k_ => True) ho0 (fun k_ hk_ => trivial)); have n3_ := Aside0.mk (hb); clear BK112; clear BK113; clear HB; clear HO_5; have BK112 := n0_; have BK113 := n1_; have HO132 := n2_; have HB := n3_; clear n0_ n1_ n2_ n3_; (try clear hb); (try clear hkp); (try clear ho0); have hcz53_0 : w52.cell? ⟨gb113, 0, none⟩ = some (.int .u64 a1_0) := (blk_cell BK113.out 0).trans rfl; have hcz53_1 : w52.cell? ⟨gb113, 1, none⟩ = some (.int .u64 a1_1) := (blk_cell BK113.out 1).trans rfl; have hcz53_2 : w52.cell? ⟨gb113, 2, none⟩ = some (.bool false) := (blk_cell BK113.out 2).trans rfl; have hcz53_3 : w52.cell? ⟨gb113, 3, none⟩ = some (.int .u32 a1_3) := (blk_cell BK113.out 3).trans rfl; have hcz53_4 : w52.cell? ⟨gb113, 4, none⟩ = some (.int .u8 a1_4) := (blk_cell BK113.out 4).trans rfl; have hcz53_5 : w52.cell? ⟨gb113, 5, none⟩ = some (.int .i64 a1_5) := (blk_cell BK113.out 5).trans rfl; have hcz53_6 : w52.cell? ⟨gb113, 6, none⟩ = some (.int .u16 a1_6) := (blk_cell BK113.out 6).trans rfl; have hcz53_7 : w52.cell? ⟨gb113, 7, none⟩ = some (.int .u16 a1_7) := (blk_cell BK113.out 7).trans rfl; have hfz53_0 := blk_frozen BK113.out 0; have hfz53_1 := blk_frozen BK113.out 1; have hfz53_2 := blk_frozen BK113.out 2; have hfz53_3 := blk_frozen BK113.out 3; have hfz53_4 := blk_frozen BK113.out 4; have hfz53_5 := blk_frozen BK113.out 5; have hfz53_6 := blk_frozen BK113.out 6; have hfz53_7 := blk_frozen BK113.out 7; have hcz54_0 : w52.cell? ⟨gb112, 0, none⟩ = some (.int .u64 a0_0) := (blk_cell BK112.out 0).trans rfl; have hcz54_1 : w52.cell? ⟨gb112, 1, none⟩ = some (.int .u64 a0_1) := (blk_cell BK112.out 1).trans rfl; have hcz54_2 : w52.cell? ⟨gb112, 2, none⟩ = some (.bool a0_2) := (blk_cell BK112.out 2).trans rfl; have hcz54_3 : w52.cell? ⟨gb112, 3, none⟩ = some (.int .u32 a0_3) := (blk_cell BK112.out 3).trans rfl; have hcz54_4 : w52.cell? ⟨gb112, 4, none⟩ = some (.int .u8 a0_4) := (blk_cell BK112.out 4).trans rfl; have hcz54_5 : w52.cell? ⟨gb112, 5, none⟩ = some (.int .i64 a0_5) := (blk_cell BK112.out 5).trans rfl; have hcz54_6 : w52.cell? ⟨gb112, 6, none⟩ = some (.int .u16 a0_6) := (blk_cell BK112.out 6).trans rfl; have hcz54_7 : w52.cell? ⟨gb112, 7, none⟩ = some (.int .u16 a0_7) := (blk_cell BK112.out 7).trans rfl; have hfz54_0 := blk_frozen BK112.out 0; have hfz54_1 := blk_frozen BK112.out 1; have hfz54_2 := blk_frozen BK112.out 2; have hfz54_3 := blk_frozen BK112.out 3; have hfz54_4 := blk_frozen BK112.out 4; have hfz54_5 := blk_frozen BK112.out 5; have hfz54_6 := blk_frozen BK112.out 6; have hfz54_7 := blk_frozen BK112.out 7) | (go_at_call 30; (refine calls_of_args (args' := #[.int .i64 (wrap64 ((wrap64 (a1_6)) - (wrap64 (a0_6))))]) ?_ ?_; focus (first | rfl | (simp; done) | (refine qa_arr ?_; (repeat' (first | rfl | refine qa_cons ?_ ?_ | refine qa_int ?_ | refine qa_agg ?_ | refine qa_arr ?_ | omega)); done)); (with_reducible refine (coin_Fold.calls (wrap64 ((wrap64 (a1_6)) - (wrap64 (a0_6)))) t133 _ A45.out).mono ?_)); rintro e w' ⟨rfl, ⟨nd, rfl⟩⟩; (try first | exact ⟨rfl, _, World.drewN_drewN _ _ _⟩ | exact ⟨rfl, _, Eq.trans (World.drewN_drewN _ _ _) (congrArg (World.drewN _) (Nat.add_assoc _ _ _))⟩); obtain ⟨Ao55, co55, eo55⟩ := Kd.R_slice HO132.out; subst eo55) | (go_at_call 27; (refine calls_of_args (args' := #[.slice Ao55 t130.length co55, .int .u64 t133]) ?_ ?_; focus (first | rfl | (simp; done) | (refine qa_arr ?_; (repeat' (first | rfl | refine qa_cons ?_ ?_ | refine qa_int ?_ | refine qa_agg ?_ | refine qa_arr ?_ | omega)); done)); (with_reducible refine (coin_Put.calls k3 (fun k_ => some k_ = (.slice Ao55 t130.length co55 : Value).ownBlock) (.slice Ao55 t130.length co55) t130 t133 t134 w _ ?side1 ?side2 A46.out).mono ?_)); (case side1 => repeat (first | (with_reducible first | exact HB.out | apply below_alloc | apply pw_below_drewN | apply below_drew1 | refine below_set ?_ GE112.out | refine below_set ?_ GE113.out) | exact HB.out)); (case side2 => exact Kd.R_tight rfl HO132.out); rintro e w56 ⟨v135, rfl, ho0, hb, hkp⟩; have n0_ := Aside0.mk (blk_kept (o := .cells #[.int .u64 a0_0, .int .u64 a0_1, .bool a0_2, .int .u32 a0_3, .int .u8 a0_4, .int .i64 a0_5, .int .u16 a0_6, .int .u16 a0_7] 31 (0, 0)) (by exact BK112.out) hkp (fun hs_ => (fun e_ => (Kd.R_ne HO132.out BK112.out (by decide)) e_) hs_)); have n1_ := Aside0.mk (blk_kept (o := .cells #[.int .u64 a1_0, .int .u64 a1_1, .bool false, .int .u32 a1_3, .int .u8 a1_4, .int .i64 a1_5, .int .u16 a1_6, .int .u16 a1_7] 31 (0, 0)) (by exact BK113.out) hkp (fun hs_ => (fun e_ => (Kd.R_ne HO132.out BK113.out (by decide)) e_) hs_)); have n2_ := Aside0.mk (Kd.R_mono (ok' := fun k_ => True) ho0 (fun k_ hk_ => trivial)); have n3_ := Aside0.mk (hb); clear BK112; clear BK113; clear HB; clear HO132; have BK112 := n0_; have BK113 := n1_; have HO136 := n2_; have HB := n3_; clear n0_ n1_ n2_ n3_; (try clear hb); (try clear hkp); (try clear ho0); have hcz57_0 : w56.cell? ⟨gb113, 0, none⟩ = some (.int .u64 a1_0) := (blk_cell BK113.out 0).trans rfl; have hcz57_1 : w56.cell? ⟨gb113, 1, none⟩ = some (.int .u64 a1_1) := (blk_cell BK113.out 1).trans rfl; have hcz57_2 : w56.cell? ⟨gb113, 2, none⟩ = some (.bool false) := (blk_cell BK113.out 2).trans rfl; have hcz57_3 : w56.cell? ⟨gb113, 3, none⟩ = some (.int .u32 a1_3) := (blk_cell BK113.out 3).trans rfl; have hcz57_4 : w56.cell? ⟨gb113, 4, none⟩ = some (.int .u8 a1_4) := (blk_cell BK113.out 4).trans rfl; have hcz57_5 : w56.cell? ⟨gb113, 5, none⟩ = some (.int .i64 a1_5) := (blk_cell BK113.out 5).trans rfl; have hcz57_6 : w56.cell? ⟨gb113, 6, none⟩ = some (.int .u16 a1_6) := (blk_cell BK113.out 6).trans rfl; have hcz57_7 : w56.cell? ⟨gb113, 7, none⟩ = some (.int .u16 a1_7) := (blk_cell BK113.out 7).trans rfl; have hfz57_0 := blk_frozen BK113.out 0; have hfz57_1 := blk_frozen BK113.out 1; have hfz57_2 := blk_frozen BK113.out 2; have hfz57_3 := blk_frozen BK113.out 3; have hfz57_4 := blk_frozen BK113.out 4; have hfz57_5 := blk_frozen BK113.out 5; have hfz57_6 := blk_frozen BK113.out 6; have hfz57_7 := blk_frozen BK113.out 7; have hcz58_0 : w56.cell? ⟨gb112, 0, none⟩ = some (.int .u64 a0_0) := (blk_cell BK112.out 0).trans rfl; have hcz58_1 : w56.cell? ⟨gb112, 1, none⟩ = some (.int .u64 a0_1) := (blk_cell BK112.out 1).trans rfl; have hcz58_2 : w56.cell? ⟨gb112, 2, none⟩ = some (.bool a0_2) := (blk_cell BK112.out 2).trans rfl; have hcz58_3 : w56.cell? ⟨gb112, 3, none⟩ = some (.int .u32 a0_3) := (blk_cell BK112.out 3).trans rfl; have hcz58_4 : w56.cell? ⟨gb112, 4, none⟩ = some (.int .u8 a0_4) := (blk_cell BK112.out 4).trans rfl; have hcz58_5 : w56.cell? ⟨gb112, 5, none⟩ = some (.int .i64 a0_5) := (blk_cell BK112.out 5).trans rfl; have hcz58_6 : w56.cell? ⟨gb112, 6, none⟩ = some (.int .u16 a0_6) := (blk_cell BK112.out 6).trans rfl; have hcz58_7 : w56.cell? ⟨gb112, 7, none⟩ = some (.int .u16 a0_7) := (blk_cell BK112.out 7).trans rfl; have hfz58_0 := blk_frozen BK112.out 0; have hfz58_1 := blk_frozen BK112.out 1; have hfz58_2 := blk_frozen BK112.out 2; have hfz58_3 := blk_frozen BK112.out 3; have hfz58_4 := blk_frozen BK112.out 4; have hfz58_5 := blk_frozen BK112.out 5; have hfz58_6 := blk_frozen BK112.out 6; have hfz58_7 := blk_frozen BK112.out 7; obtain ⟨Ao59, co59, eo59⟩ := Kd.R_slice HO136.out; subst eo59) | (go_at_call 27; (refine calls_of_args (args' := #[.slice Ao59 t134.length co59, .int .u64 (IntKind.u64.wrap (IntKind.u16.wrap (a1_7 - a0_7)))]) ?_ ?_; focus (first | rfl | (simp; done) | (refine qa_arr ?_; (repeat' (first | rfl | refine qa_cons ?_ ?_ | refine qa_int ?_ | refine qa_agg ?_ | refine qa_arr ?_ | omega)); done)); (with_reducible refine (coin_Put.calls k3 (fun k_ => some k_ = (.slice Ao59 t134.length co59 : Value).ownBlock) (.slice Ao59 t134.length co59) t134 (IntKind.u64.wrap (IntKind.u16.wrap (a1_7 - a0_7))) t137 w _ ?side1 ?side2 A47.out).mono ?_)); (case side1 => repeat (first | (with_reducible first | exact HB.out | apply below_alloc | apply pw_below_drewN | apply below_drew1 | refine below_set ?_ GE112.out | refine below_set ?_ GE113.out) | exact HB.out)); (case side2 => exact Kd.R_tight rfl HO136.out); rintro e w60 ⟨v138, rfl, ho0, hb, hkp⟩; have n0_ := Aside0.mk (blk_kept (o := .cells #[.int .u64 a0_0, .int .u64 a0_1, .bool a0_2, .int .u32 a0_3, .int .u8 a0_4, .int .i64 a0_5, .int .u16 a0_6, .int .u16 a0_7] 31 (0, 0)) (by exact BK112.out) hkp (fun hs_ => (fun e_ => (Kd.R_ne HO136.out BK112.out (by decide)) e_) hs_)); have n1_ := Aside0.mk (blk_kept (o := .cells #[.int .u64 a1_0, .int .u64 a1_1, .bool false, .int .u32 a1_3, .int .u8 a1_4, .int .i64 a1_5, .int .u16 a1_6, .int .u16 a1_7] 31 (0, 0)) (by exact BK113.out) hkp (fun hs_ => (fun e_ => (Kd.R_ne HO136.out BK113.out (by decide)) e_) hs_)); have n2_ := Aside0.mk (Kd.R_mono (ok' := fun k_ => True) ho0 (fun k_ hk_ => trivial)); have n3_ := Aside0.mk (hb); clear BK112; clear BK113; clear HB; clear HO136; have BK112 := n0_; have BK113 := n1_; have HO139 := n2_; have HB := n3_; clear n0_ n1_ n2_ n3_; (try clear hb); (try clear hkp); (try clear ho0))))
           go_ret
           exact ⟨_, by first | rfl | (simp [*, errW_none, errW_some] <;> rfl), by exact HO139.out, by repeat (first | (with_reducible first | exact HB.out | refine below_set ?_ GE113.out))⟩

end Go.Proofs.Ytllcighpfikpkaa.QChangeApart
