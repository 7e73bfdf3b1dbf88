-- Lines by a program of this session, for this claim.
import Derived.Test.YtfjdijphpcddnaaDoorQPrefixParsesx0
namespace Go.Proofs.YtfjdijphpcddnaaDoor.QPrefixParses
open Go.RowKit Go.Proofs.YtfjdijphpcddnaaDoorW.PrintWords Go.Proofs.YtfjdijphpcddnaaDoorW.PrintLast Go.Proofs.YtfjdijphpcddnaaDoorW.PrintMore
attribute [local go_sem] max2_int min2_int max_two min_two max_three min_three max_four min_four   -- for this text's walks alone
set_option linter.unusedVariables false
set_option linter.unusedSimpArgs false

/-! ### prefix_mask: function 26 -/
def prefix_mask.f (a0 : Int) : Option (Int) := if a0 = 0 then (some 0) else (some (shl .u32 4294967295 ((32 - (a0)) % 4294967296)))
set_option maxHeartbeats 8000000 in
set_option maxRecDepth 100000 in
theorem prefix_mask.calls (a0 : Int) (r : Int) (w : World) (h : prefix_mask.f a0 = some r) :
    Calls Tryd.prog 26 #[.int .u8 a0] w fun e w' => e = .returned (.int .u32 r) ∧ Drawn0 w w' := by
  have H : (if a0 = 0 then (some 0) else (some (shl .u32 4294967295 ((32 - (a0)) % 4294967296)))) = some r := h
  clear h
  by_cases c2 : a0 = 0
  · rw [if_pos c2] at H
    have c2b0 : (a0 == 0) = true := beq_iff_eq.mpr c2
    have c2b1 : (a0 != 0) = false := bne_eq_false_iff_eq.mpr c2
    clear c2
    obtain rfl := Option.some.inj H
    simp only [Option.some.injEq, Prod.mk.injEq] at H
    obtain ⟨rfl⟩ := H
    go_enter Tryd.func26, Tryd.ntmps26
    go_wp2
    go_ret
    exact ⟨by first | rfl | (simp; done) | (simp [*]; done) | (refine qa_int ?_; omega) | (refine qa_int ?_; simp <;> omega), by repeat (first | exact Drawn0.refl _ | apply Drawn0.step)⟩
  · rw [if_neg c2] at H
    have c2b0 : (a0 == 0) = false := beq_eq_false_iff_ne.mpr c2
    have c2b1 : (a0 != 0) = true := bne_iff_ne.mpr c2
    obtain ⟨ji3, hji3⟩ : ∃ j_ : Int, (shl .u32 4294967295 ((32 - (a0)) % 4294967296)) = j_ := ⟨_, rfl⟩
    replace H : (some ji3) = some r := by first | (rw [hji3] at H; exact H) | (simp only [hji3] at H ⊢; exact H)
    have hji3_ : (IntKind.u32.wrap (4294967295 * 2 ^ min ((32 - (a0)) % 4294967296).toNat 32)) = ji3 := hji3
    have hji3z : ((32 - (a0)) % 4294967296) ≤ 32 → (IntKind.u32.wrap (4294967295 * 2 ^ ((32 - (a0)) % 4294967296).toNat)) = ji3 := shl_small hji3
    (try (have hji3y : 0 ≤ ((32 - (a0)) % 4294967296) := by omega))
    obtain rfl := Option.some.inj H
    simp only [Option.some.injEq, Prod.mk.injEq] at H
    obtain ⟨rfl⟩ := H
    go_enter Tryd.func26, Tryd.ntmps26
    go_wp2
    go_ret
    exact ⟨by first | rfl | (simp; done) | (simp only [← hji3] <;> (first | rfl | simp)) | (simp [*]; done) | (refine qa_int ?_; omega) | (refine qa_int ?_; simp <;> omega), by repeat (first | exact Drawn0.refl _ | apply Drawn0.step)⟩

/-! ### prefix_Of: function 10 -/
def prefix_Of.f (a0 : Int) (a1 : Int) : Option (Int × Int) := (prefix_mask.f (mn a1 32)).bind fun t102 => (some (Go.bits .and .u32 a0 t102, mn a1 32))
set_option maxHeartbeats 8000000 in
set_option maxRecDepth 100000 in
theorem prefix_Of.calls (a0 : Int) (a1 : Int) (r1 : Int) (r2 : Int) (w : World) (h : prefix_Of.f a0 a1 = some (r1, r2)) :
    Calls Tryd.prog 10 #[.int .u32 a0, .int .u8 a1] w fun e w' => e = .returned (.agg #[.int .u32 r1, .int .u8 r2]) ∧ Below w.heap.size w w' := by
  have hu24 := Tryd.underlying24
  have HB := Aside0.mk (Below.refl w.heap.size w)
  have H : ((prefix_mask.f (mn a1 32)).bind fun t102 => (some (Go.bits .and .u32 a0 t102, mn a1 32))) = some (r1, r2) := h
  clear h
  obtain ⟨ji3, hji3⟩ : ∃ j_ : Int, (mn a1 32) = j_ := ⟨_, rfl⟩
  replace H : ((prefix_mask.f (ji3)).bind fun t102 => (some (Go.bits .and .u32 a0 t102, ji3))) = some (r1, r2) := by first | (rw [hji3] at H; exact H) | (simp only [hji3] at H ⊢; exact H)
  (try (have hji3h : ji3 ≤ 32 := by (rw [← hji3]; unfold mn; (repeat' split) <;> omega)))
  (try (have hji3g : ji3 ≤ 64 := by omega))
  have hji3_ : (if 32 < a1 then 32 else a1) = ji3 := hji3
  replace H := Option.bind_eq_some_iff.mp H
  obtain ⟨t102, A40, H⟩ := H
  replace H : (some (Go.bits .and .u32 a0 t102, ji3)) = some (r1, r2) := H
  have A4 := Aside0.mk A40
  clear A40
  simp only [Option.some.injEq, Prod.mk.injEq] at H
  obtain ⟨rfl, rfl⟩ := H
  go_enter Tryd.func10, Tryd.ntmps10
  go_wp2_with (first | ((with_reducible refine gate_dst (N := 4) rfl ?_); refine box_event ?hg (N := 4) ?hd (cs := #[.int .u32 0, .int .u8 0]) (t := 24) ?hr ?_; (case hd => rfl); (case hg => rfl); (case hr => first | (go_simp; done) | (go_simp; rfl)); intro gb101 hg w5 hbox hb; have n0_ := Aside0.mk (below_step (by repeat (first | (with_reducible first | exact HB.out | apply below_alloc | apply pw_below_drewN | apply below_drew1) | exact HB.out)) hb); have n1_ := Aside0.mk (hbox); have n2_ := Aside0.mk ((by rw [hg]; exact (below_size (by repeat (first | (with_reducible first | exact HB.out | apply below_alloc | apply pw_below_drewN | apply below_drew1) | exact HB.out))) : w.heap.size ≤ gb101)); have n3_ := Aside0.mk ((by rw [hg]; exact (below_size (by repeat (first | (with_reducible first | exact HB.out | apply below_alloc | apply pw_below_drewN | apply below_drew1) | exact HB.out))) : w.heap.size ≤ gb101)); clear HB; have HB := n0_; have BK101 := n1_; have GW101 := n2_; have GE101 := n3_; clear n0_ n1_ n2_ n3_; clear hb hbox hg) | ((with_reducible refine gate_callee (f := 26) rfl ?_); refine goesL_ (some 9) rfl rfl Tryd.func26 (by kernel_rfl) rfl #[.int .u8 ji3] rfl (by (try simp only [List.map_toArray, List.map_cons, List.map_nil]); first | done | (simp only [hji3]; rfl) | rfl | (simp only [List.length_drop, List.length_take]; rfl) | (simp; done) | (refine qa_arr ?_; (repeat' (first | rfl | refine qa_cons ?_ ?_ | refine qa_int ?_ | refine qa_agg ?_ | refine qa_arr ?_ | omega)); done)) ?_; (with_reducible refine (prefix_mask.calls ji3 t102 _ A4.out).mono ?_); rintro e w' ⟨rfl, ⟨nd, rfl⟩⟩; refine ⟨_, rfl, ?_⟩; (try (rw [drewN_self w5]; generalize hq_ : World.drewN w5 _ = w5; have n0_ : Aside0 (w5.heap[gb101]? = some (.cells #[.int .u32 0, .int .u8 0] 24 (0, 0))) := ⟨by rw [← hq_]; exact (by (with_reducible repeat (first | refine blk_drewN ?_ _ | refine blk_drew ?_ | refine blk_alloc ?_ _)); exact BK101.out)⟩; have n1_ : Aside0 (Below w.heap.size w w5) := ⟨by rw [← hq_]; exact (by repeat (first | (with_reducible first | exact HB.out | apply below_alloc | apply pw_below_drewN | apply below_drew1 | refine below_set ?_ GE101.out) | exact HB.out))⟩; clear BK101 HB hq_; have BK101 := n0_; have HB := n1_; clear n0_ n1_)); have hcz6_0 : w5.cell? ⟨gb101, 0, none⟩ = some (.int .u32 0) := (blk_cell BK101.out 0).trans rfl; have hcz6_1 : w5.cell? ⟨gb101, 1, none⟩ = some (.int .u8 0) := (blk_cell BK101.out 1).trans rfl; have hfz6_0 := blk_frozen BK101.out 0; have hfz6_1 := blk_frozen BK101.out 1) | ((with_reducible refine gate_callee (f := 26) rfl ?_); refine goesL_ _ rfl rfl Tryd.func26 (by kernel_rfl) rfl #[.int .u8 ji3] rfl (by (try simp only [List.map_toArray, List.map_cons, List.map_nil]); first | done | (simp only [hji3]; rfl) | rfl | (simp only [List.length_drop, List.length_take]; rfl) | (simp; done) | (refine qa_arr ?_; (repeat' (first | rfl | refine qa_cons ?_ ?_ | refine qa_int ?_ | refine qa_agg ?_ | refine qa_arr ?_ | omega)); done)) ?_; (with_reducible refine (prefix_mask.calls ji3 t102 _ A4.out).mono ?_); rintro e w' ⟨rfl, ⟨nd, rfl⟩⟩; refine ⟨_, rfl, ?_⟩; (try (rw [drewN_self w5]; generalize hq_ : World.drewN w5 _ = w5; have n0_ : Aside0 (w5.heap[gb101]? = some (.cells #[.int .u32 0, .int .u8 0] 24 (0, 0))) := ⟨by rw [← hq_]; exact (by (with_reducible repeat (first | refine blk_drewN ?_ _ | refine blk_drew ?_ | refine blk_alloc ?_ _)); exact BK101.out)⟩; have n1_ : Aside0 (Below w.heap.size w w5) := ⟨by rw [← hq_]; exact (by repeat (first | (with_reducible first | exact HB.out | apply below_alloc | apply pw_below_drewN | apply below_drew1 | refine below_set ?_ GE101.out) | exact HB.out))⟩; clear BK101 HB hq_; have BK101 := n0_; have HB := n1_; clear n0_ n1_)); have hcz6_0 : w5.cell? ⟨gb101, 0, none⟩ = some (.int .u32 0) := (blk_cell BK101.out 0).trans rfl; have hcz6_1 : w5.cell? ⟨gb101, 1, none⟩ = some (.int .u8 0) := (blk_cell BK101.out 1).trans rfl; have hfz6_0 := blk_frozen BK101.out 0; have hfz6_1 := blk_frozen BK101.out 1))
  refine bodyPost_ret (results_cell_row rfl _ _ gb101 24 #[.int .u32 (Go.bits .and .u32 a0 t102), .int .u8 ji3] (0, 0) _ rfl (by (with_reducible repeat (first | refine blk_drewN ?_ _ | refine blk_drew ?_ | refine blk_alloc ?_ _)); refine blk_put (cs := #[.int .u32 (Go.bits .and .u32 a0 t102), .int .u8 0]) ?_ 1 _ rfl; (with_reducible repeat (first | refine blk_drewN ?_ _ | refine blk_drew ?_ | refine blk_alloc ?_ _)); refine blk_put (cs := #[.int .u32 0, .int .u8 0]) ?_ 0 _ rfl; (with_reducible repeat (first | refine blk_drewN ?_ _ | refine blk_drew ?_ | refine blk_alloc ?_ _)); exact BK101.out) Tryd.underlying24 rfl (by kernel_rfl)) rfl ?_
  exact ⟨by first | rfl | (simp [errW_none, errW_some] <;> rfl) | (simp only [← hji3]; first | rfl | (simp [errW_none, errW_some] <;> rfl)) | (simp [*, errW_none, errW_some] <;> rfl), by repeat (first | (with_reducible first | exact HB.out | apply below_alloc | apply pw_below_drewN | apply below_drew1 | refine below_set ?_ GE101.out) | exact HB.out)⟩

/-! ### strconv_Itoa: function 28 -/
def strconv_Itoa.lays171_ren : Go.Shelf.Ren := ⟨fun | 171 => 28 | 243 => 34 | 246 => 37 | 283 => 38 | 284 => 39 | 285 => 40 | 286 => 41 | 129 => 43 | 317 => 42 | 318 => 44 | 319 => 45 | 320 => 46 | 337 => 47 | 338 => 48 | n => n, fun | 3 => 3 | 9 => 9 | 2 => 2 | 4 => 4 | 171 => 57 | 0 => 0 | 53 => 58 | 37 => 40 | 5 => 5 | 173 => 61 | 212 => 65 | 51 => 22 | 20 => 20 | 213 => 66 | 46 => 48 | 232 => 69 | 233 => 70 | n => n, fun | 17 => 0 | 18 => 1 | 19 => 2 | n => n⟩
theorem strconv_Itoa.lays171 : Go.Proofs.Lays.n171 Tryd.prog strconv_Itoa.lays171_ren := {
  mixed := by kernel_rfl
  f129 := Tryd.func43.trans (congrArg some (by kernel_rfl))
  f171 := Tryd.func28.trans (congrArg some (by kernel_rfl))
  f243 := Tryd.func34.trans (congrArg some (by kernel_rfl))
  f246 := Tryd.func37.trans (congrArg some (by kernel_rfl))
  f283 := Tryd.func38.trans (congrArg some (by kernel_rfl))
  f284 := Tryd.func39.trans (congrArg some (by kernel_rfl))
  f285 := Tryd.func40.trans (congrArg some (by kernel_rfl))
  f286 := Tryd.func41.trans (congrArg some (by kernel_rfl))
  f317 := Tryd.func42.trans (congrArg some (by kernel_rfl))
  f318 := Tryd.func44.trans (congrArg some (by kernel_rfl))
  f319 := Tryd.func45.trans (congrArg some (by kernel_rfl))
  f320 := Tryd.func46.trans (congrArg some (by kernel_rfl))
  f337 := Tryd.func47.trans (congrArg some (by kernel_rfl))
  f338 := Tryd.func48.trans (congrArg some (by kernel_rfl))
  t0 := Tryd.underlying0
  a0 := Tryd.isAgg0
  z0 := Tryd.sizeOf0
  v0 := Tryd.zeroValue0
  t2 := Tryd.underlying2
  a2 := Tryd.isAgg2
  z2 := Tryd.sizeOf2
  v2 := Tryd.zeroValue2
  t3 := Tryd.underlying3
  a3 := Tryd.isAgg3
  z3 := Tryd.sizeOf3
  v3 := Tryd.zeroValue3
  t4 := Tryd.underlying4
  a4 := Tryd.isAgg4
  z4 := Tryd.sizeOf4
  v4 := Tryd.zeroValue4
  t5 := Tryd.underlying5
  a5 := Tryd.isAgg5
  z5 := Tryd.sizeOf5
  v5 := Tryd.zeroValue5
  t9 := Tryd.underlying9
  a9 := Tryd.isAgg9
  z9 := Tryd.sizeOf9
  v9 := Tryd.zeroValue9
  t20 := Tryd.underlying20
  a20 := Tryd.isAgg20
  z20 := Tryd.sizeOf20
  v20 := Tryd.zeroValue20
  t37 := Tryd.underlying40
  a37 := Tryd.isAgg40
  z37 := Tryd.sizeOf40
  v37 := Tryd.zeroValue40
  t46 := Tryd.underlying48
  a46 := Tryd.isAgg48
  z46 := Tryd.sizeOf48
  v46 := Tryd.zeroValue48
  t51 := Tryd.underlying22
  a51 := Tryd.isAgg22
  z51 := Tryd.sizeOf22
  v51 := Tryd.zeroValue22
  t53 := Tryd.underlying58
  a53 := Tryd.isAgg58
  z53 := Tryd.sizeOf58
  v53 := Tryd.zeroValue58
  t171 := Tryd.underlying57
  a171 := Tryd.isAgg57
  z171 := Tryd.sizeOf57
  v171 := Tryd.zeroValue57
  t173 := Tryd.underlying61
  a173 := Tryd.isAgg61
  z173 := Tryd.sizeOf61
  v173 := Tryd.zeroValue61
  t212 := Tryd.underlying65
  a212 := Tryd.isAgg65
  z212 := Tryd.sizeOf65
  v212 := Tryd.zeroValue65
  t213 := Tryd.underlying66
  a213 := Tryd.isAgg66
  z213 := Tryd.sizeOf66
  t232 := Tryd.underlying69
  a232 := Tryd.isAgg69
  z232 := Tryd.sizeOf69
  v232 := Tryd.zeroValue69
  t233 := Tryd.underlying70
  a233 := Tryd.isAgg70
  z233 := Tryd.sizeOf70
  v233 := Tryd.zeroValue70
  g17 := by kernel_rfl
  g18 := by kernel_rfl
  g19 := by kernel_rfl }
open Go.RowKit Go.Sort Go.Lib in
def strconv_Itoa.f (a0 : Int) : Option (ByteArray) := if 0 ≤ a0 then (if a0 < 100 then (some ⟨(Lib.decDigits a0.toNat).toArray⟩) else (none)) else (none)
theorem strconv_Itoa.calls (a0 : Int) (r : ByteArray) (w : World) (h : strconv_Itoa.f a0 = some r) :
    Calls Tryd.prog 28 #[.int .i64 a0] w fun e w' => e = .returned (.string r) ∧ Drawn0 w w' := by
  unfold strconv_Itoa.f at h
  by_cases h0 : 0 ≤ a0
  · rw [if_pos h0] at h
    by_cases h1 : a0 < 100
    · rw [if_pos h1] at h
      obtain rfl := Option.some.inj h
      obtain ⟨n, rfl⟩ := Int.eq_ofNat_of_zero_le h0
      refine (Any.strconv_Itoa_small strconv_Itoa.lays171 n (by omega) w).mono ?_
      rintro e w' ⟨rfl, rfl⟩
      exact ⟨rfl, Drawn0.refl _⟩
    · rw [if_neg h1] at h
      cases h
  · rw [if_neg h0] at h
    cases h

/-! ### prefix_Text: function 21 -/
def prefix_Text.l0 : Nat → ByteArray → Int → Int → Int → Option (ByteArray)
  | 0, _, _, _, _ => none
  | k + 1, x3, x4, x104000, x104001 => if x4 ≥ 0 then (if 0 ≤ x4 then ((strconv_Itoa.f (wrap64 (Go.bits .and .u32 (shr .u32 x104000 x4) 255))).bind fun t104 => (if t104.size + 1 ≤ 9223372036854775807 then (if x3.size + (t104 ++ (⟨#[46]⟩ : ByteArray)).size ≤ 9223372036854775807 then (prefix_Text.l0 k (x3 ++ (t104 ++ (⟨#[46]⟩ : ByteArray))) (wrap64 (x4 - 8)) x104000 x104001) else (none)) else (none))) else (none)) else (if 0 ≤ (wrap64 ((x3.size : Int) - 1)) then (if (wrap64 ((x3.size : Int) - 1)) ≤ (x3.size : Int) then (if (x3.extract 0 ((wrap64 ((x3.size : Int) - 1)) : Int).toNat).size + 1 ≤ 9223372036854775807 then ((strconv_Itoa.f (wrap64 (x104001))).bind fun t105 => (if ((x3.extract 0 ((wrap64 ((x3.size : Int) - 1)) : Int).toNat) ++ (⟨#[47]⟩ : ByteArray)).size + t105.size ≤ 9223372036854775807 then (some (((x3.extract 0 ((wrap64 ((x3.size : Int) - 1)) : Int).toNat) ++ (⟨#[47]⟩ : ByteArray)) ++ t105)) else (none))) else (none)) else (none)) else (none))
def prefix_Text.f (k : Nat) (a0_0 : Int) (a0_1 : Int) : Option (ByteArray) := prefix_Text.l0 k (⟨#[]⟩ : ByteArray) 24 a0_0 a0_1
theorem prefix_Text.mono_l : ∀ k, (∀ y0 y1 y2 y3, LeO (prefix_Text.l0 k y0 y1 y2 y3) (prefix_Text.l0 (k + 1) y0 y1 y2 y3))
  | 0 => fun _ _ _ _ r h => by simp [prefix_Text.l0] at h
  | k + 1 => by
    have ih0 := prefix_Text.mono_l k
    · intro y0 y1 y2 y3
      unfold prefix_Text.l0
      repeat' first
      | (with_reducible exact ih0 _ _ _ _)
      | (with_reducible exact LeO.refl _)
      | (with_reducible exact LeO.none _)
      | (with_reducible refine LeO.ite ?_ ?_)
      | (with_reducible refine LeO.bind ?_ (fun _ => ?_))
      | exact ih0 _ _ _ _
      | exact LeO.none _
      | refine LeO.ite ?_ ?_
      | refine LeO.bind ?_ (fun _ => ?_)
theorem prefix_Text.mono : ∀ a0 a1 k, LeO (prefix_Text.f k a0 a1) (prefix_Text.f (k + 1) a0 a1) := by
  intro a0 a1 k
  have ih0 := prefix_Text.mono_l k
  unfold prefix_Text.f
  repeat' first
      | (with_reducible exact ih0 _ _ _ _)
      | (with_reducible exact LeO.refl _)
      | (with_reducible exact LeO.none _)
      | (with_reducible refine LeO.ite ?_ ?_)
      | (with_reducible refine LeO.bind ?_ (fun _ => ?_))
      | exact ih0 _ _ _ _
      | exact LeO.none _
      | refine LeO.ite ?_ ?_
      | refine LeO.bind ?_ (fun _ => ?_)
set_option maxHeartbeats 8000000 in
set_option maxRecDepth 100000 in
theorem prefix_Text.calls (k : Nat) (a0_0 : Int) (a0_1 : Int) (r : ByteArray) (w : World) (h : prefix_Text.f k a0_0 a0_1 = some r) :
    Calls Tryd.prog 21 #[.agg #[.int .u32 a0_0, .int .u8 a0_1]] w fun e w' => e = .returned (.string r) ∧ Below w.heap.size w w' := by
  have hu24 := Tryd.underlying24
  have HB := Aside0.mk (Below.refl w.heap.size w)
  have H : (prefix_Text.l0 k (⟨#[]⟩ : ByteArray) 24 a0_0 a0_1) = some r := h
  clear h
  have H' := Aside0.mk H
  clear H
  go_enter Tryd.func21, Tryd.ntmps21
  go_wp2_with (first | ((with_reducible refine gate_dst (N := 1) rfl ?_); refine box_event ?hg (N := 1) ?hd (cs := #[.int .u32 a0_0, .int .u8 a0_1]) (t := 24) ?hr ?_; (case hd => rfl); (case hg => rfl); (case hr => first | (go_simp; done) | (go_simp; rfl)); intro gb103 hg w2 hbox hb; have n0_ := Aside0.mk (below_step (by repeat (first | (with_reducible first | exact HB.out | apply below_alloc | apply pw_below_drewN | apply below_drew1) | exact HB.out)) hb); have n1_ := Aside0.mk (hbox); have n2_ := Aside0.mk ((by rw [hg]; exact (below_size (by repeat (first | (with_reducible first | exact HB.out | apply below_alloc | apply pw_below_drewN | apply below_drew1) | exact HB.out))) : w.heap.size ≤ gb103)); have n3_ := Aside0.mk ((by rw [hg]; exact (below_size (by repeat (first | (with_reducible first | exact HB.out | apply below_alloc | apply pw_below_drewN | apply below_drew1) | exact HB.out))) : w.heap.size ≤ gb103)); clear HB; have HB := n0_; have BK103 := n1_; have GW103 := n2_; have GE103 := n3_; clear n0_ n1_ n2_ n3_; clear hb hbox hg))
  repeat (go_quiet (first | ((with_reducible refine gate_dst (N := 1) rfl ?_); refine box_event ?hg (N := 1) ?hd (cs := #[.int .u32 a0_0, .int .u8 a0_1]) (t := 24) ?hr ?_; (case hd => rfl); (case hg => rfl); (case hr => first | (go_simp; done) | (go_simp; rfl)); intro gb103 hg w2 hbox hb; have n0_ := Aside0.mk (below_step (by repeat (first | (with_reducible first | exact HB.out | apply below_alloc | apply pw_below_drewN | apply below_drew1) | exact HB.out)) hb); have n1_ := Aside0.mk (hbox); have n2_ := Aside0.mk ((by rw [hg]; exact (below_size (by repeat (first | (with_reducible first | exact HB.out | apply below_alloc | apply pw_below_drewN | apply below_drew1) | exact HB.out))) : w.heap.size ≤ gb103)); have n3_ := Aside0.mk ((by rw [hg]; exact (below_size (by repeat (first | (with_reducible first | exact HB.out | apply below_alloc | apply pw_below_drewN | apply below_drew1) | exact HB.out))) : w.heap.size ≤ gb103)); clear HB; have HB := n0_; have BK103 := n1_; have GW103 := n2_; have GE103 := n3_; clear n0_ n1_ n2_ n3_; clear hb hbox hg)); try go_wp2_with (first | ((with_reducible refine gate_dst (N := 1) rfl ?_); refine box_event ?hg (N := 1) ?hd (cs := #[.int .u32 a0_0, .int .u8 a0_1]) (t := 24) ?hr ?_; (case hd => rfl); (case hg => rfl); (case hr => first | (go_simp; done) | (go_simp; rfl)); intro gb103 hg w2 hbox hb; have n0_ := Aside0.mk (below_step (by repeat (first | (with_reducible first | exact HB.out | apply below_alloc | apply pw_below_drewN | apply below_drew1) | exact HB.out)) hb); have n1_ := Aside0.mk (hbox); have n2_ := Aside0.mk ((by rw [hg]; exact (below_size (by repeat (first | (with_reducible first | exact HB.out | apply below_alloc | apply pw_below_drewN | apply below_drew1) | exact HB.out))) : w.heap.size ≤ gb103)); have n3_ := Aside0.mk ((by rw [hg]; exact (below_size (by repeat (first | (with_reducible first | exact HB.out | apply below_alloc | apply pw_below_drewN | apply below_drew1) | exact HB.out))) : w.heap.size ≤ gb103)); clear HB; have HB := n0_; have BK103 := n1_; have GW103 := n2_; have GE103 := n3_; clear n0_ n1_ n2_ n3_; clear hb hbox hg)))
  go_loopg [3, 4] k (fun kq v3 v4 w' => ∃ (x3_1 : ByteArray) (x4_1 : Int), v3 = .string x3_1 ∧ v4 = .int .i64 x4_1 ∧ Aside0 (prefix_Text.l0 kq x3_1 x4_1 a0_0 a0_1 = some r) ∧ Aside0 (kq ≤ k) ∧ Aside0 (w'.heap[gb103]? = some (.cells #[.int .u32 a0_0, .int .u8 a0_1] 24 (0, 0))) ∧ Aside0 (Below w.heap.size w w'))
  case atStart => exact ⟨((⟨#[]⟩ : ByteArray)), (24), (by first | rfl | (simp; done) | (simp [*]; done) | (refine qa_int ?_; omega) | (refine qa_int ?_; simp <;> omega)), (by first | rfl | (simp; done) | (simp [*]; done) | (refine qa_int ?_; omega) | (refine qa_int ?_; simp <;> omega)), H', ⟨Nat.le_refl _⟩, ⟨by (with_reducible repeat (first | refine blk_drewN ?_ _ | refine blk_drew ?_ | refine blk_alloc ?_ _)); exact BK103.out⟩, ⟨by repeat (first | (with_reducible first | exact HB.out | apply below_alloc | apply pw_below_drewN | apply below_drew1 | refine below_set ?_ GE103.out) | exact HB.out)⟩⟩
  case round =>
    clear H'
    try clear c2
    try clear p2
    obtain ⟨x3_1, x4_1, rfl, rfl, HA, HK1, BK103, HB⟩ := hrel
    cases gk with
    | zero => exact absurd HA.out (by simp [prefix_Text.l0])
    | succ k1 =>
      have H := HA.out
      clear HA
      simp only [prefix_Text.l0] at H
      by_cases c3 : x4_1 ≥ 0
      · rw [if_pos c3] at H
        have c3b0 : decide (0 ≤ x4_1) = true := decide_eq_true c3
        clear c3
        by_cases c4 : 0 ≤ x4_1
        · rw [if_pos c4] at H
          have c4b0 := eq_true c4
          have c4b1 : decide (0 ≤ x4_1) = true := decide_eq_true c4
          clear c4
          obtain ⟨ji5, hji5⟩ : ∃ j_ : Int, (shr .u32 a0_0 x4_1) = j_ := ⟨_, rfl⟩
          replace H : ((strconv_Itoa.f (wrap64 (Go.bits .and .u32 (ji5) 255))).bind fun t104 => (if t104.size + 1 ≤ 9223372036854775807 then (if x3_1.size + (t104 ++ (⟨#[46]⟩ : ByteArray)).size ≤ 9223372036854775807 then (prefix_Text.l0 k1 (x3_1 ++ (t104 ++ (⟨#[46]⟩ : ByteArray))) (wrap64 (x4_1 - 8)) a0_0 a0_1) else (none)) else (none))) = some r := by first | (rw [hji5] at H; exact H) | (simp only [hji5] at H ⊢; exact H)
          have hji5_ : (a0_0 / 2 ^ min x4_1.toNat 32) = ji5 := hji5
          have hji5z : x4_1 ≤ 32 → (a0_0 / 2 ^ x4_1.toNat) = ji5 := shr_small hji5
          replace H := Option.bind_eq_some_iff.mp H
          obtain ⟨t104, A60, H⟩ := H
          replace H : (if t104.size + 1 ≤ 9223372036854775807 then (if x3_1.size + (t104 ++ (⟨#[46]⟩ : ByteArray)).size ≤ 9223372036854775807 then (prefix_Text.l0 k1 (x3_1 ++ (t104 ++ (⟨#[46]⟩ : ByteArray))) (wrap64 (x4_1 - 8)) a0_0 a0_1) else (none)) else (none)) = some r := H
          have A6 := Aside0.mk A60
          clear A60
          by_cases c7 : t104.size + 1 ≤ 9223372036854775807
          · rw [if_pos c7] at H
            have c7b0 := eq_true c7
            have c7b1 : decide (t104.size + 1 ≤ 9223372036854775807) = true := decide_eq_true c7
            try have c7b2 : (9223372036854775807 < t104.size + 1) = False := eq_false (Nat.not_lt.2 c7)
            by_cases c8 : x3_1.size + (t104 ++ (⟨#[46]⟩ : ByteArray)).size ≤ 9223372036854775807
            · rw [if_pos c8] at H
              have c8b0 := eq_true c8
              have c8b1 : decide (x3_1.size + (t104 ++ (⟨#[46]⟩ : ByteArray)).size ≤ 9223372036854775807) = true := decide_eq_true c8
              try have c8b2 : (9223372036854775807 < x3_1.size + (t104 ++ (⟨#[46]⟩ : ByteArray)).size) = False := eq_false (Nat.not_lt.2 c8)
              have H' := Aside0.mk H
              clear H
              have hcz9_0 : wr.cell? ⟨gb103, 0, none⟩ = some (.int .u32 a0_0) := (blk_cell BK103.out 0).trans rfl
              have hcz9_1 : wr.cell? ⟨gb103, 1, none⟩ = some (.int .u8 a0_1) := (blk_cell BK103.out 1).trans rfl
              have hfz9_0 := blk_frozen BK103.out 0
              have hfz9_1 := blk_frozen BK103.out 1
              go_wp2_with (first | (go_at_call 28; (with_reducible refine (strconv_Itoa.calls (wrap64 (Go.bits .and .u32 (ji5) 255)) t104 _ A6.out).mono ?_); rintro e w' ⟨rfl, ⟨nd, rfl⟩⟩; (try first | exact ⟨rfl, _, World.drewN_drewN _ _ _⟩ | exact ⟨rfl, _, Eq.trans (World.drewN_drewN _ _ _) (congrArg (World.drewN _) (Nat.add_assoc _ _ _))⟩)) | (go_at_call 28; (refine calls_of_args (args' := #[.int .i64 (wrap64 (Go.bits .and .u32 (ji5) 255))]) ?_ ?_; focus (first | rfl | (simp; done) | (refine qa_arr ?_; (repeat' (first | rfl | refine qa_cons ?_ ?_ | refine qa_int ?_ | refine qa_agg ?_ | refine qa_arr ?_ | omega)); done)); (with_reducible refine (strconv_Itoa.calls (wrap64 (Go.bits .and .u32 (ji5) 255)) t104 _ A6.out).mono ?_)); rintro e w' ⟨rfl, ⟨nd, rfl⟩⟩; (try first | exact ⟨rfl, _, World.drewN_drewN _ _ _⟩ | exact ⟨rfl, _, Eq.trans (World.drewN_drewN _ _ _) (congrArg (World.drewN _) (Nat.add_assoc _ _ _))⟩)))
              repeat (go_quiet (first | (go_at_call 28; (with_reducible refine (strconv_Itoa.calls (wrap64 (Go.bits .and .u32 (ji5) 255)) t104 _ A6.out).mono ?_); rintro e w' ⟨rfl, ⟨nd, rfl⟩⟩; (try first | exact ⟨rfl, _, World.drewN_drewN _ _ _⟩ | exact ⟨rfl, _, Eq.trans (World.drewN_drewN _ _ _) (congrArg (World.drewN _) (Nat.add_assoc _ _ _))⟩)) | (go_at_call 28; (refine calls_of_args (args' := #[.int .i64 (wrap64 (Go.bits .and .u32 (ji5) 255))]) ?_ ?_; focus (first | rfl | (simp; done) | (refine qa_arr ?_; (repeat' (first | rfl | refine qa_cons ?_ ?_ | refine qa_int ?_ | refine qa_agg ?_ | refine qa_arr ?_ | omega)); done)); (with_reducible refine (strconv_Itoa.calls (wrap64 (Go.bits .and .u32 (ji5) 255)) t104 _ A6.out).mono ?_)); rintro e w' ⟨rfl, ⟨nd, rfl⟩⟩; (try first | exact ⟨rfl, _, World.drewN_drewN _ _ _⟩ | exact ⟨rfl, _, Eq.trans (World.drewN_drewN _ _ _) (congrArg (World.drewN _) (Nat.add_assoc _ _ _))⟩))); try go_wp2_with (first | (go_at_call 28; (with_reducible refine (strconv_Itoa.calls (wrap64 (Go.bits .and .u32 (ji5) 255)) t104 _ A6.out).mono ?_); rintro e w' ⟨rfl, ⟨nd, rfl⟩⟩; (try first | exact ⟨rfl, _, World.drewN_drewN _ _ _⟩ | exact ⟨rfl, _, Eq.trans (World.drewN_drewN _ _ _) (congrArg (World.drewN _) (Nat.add_assoc _ _ _))⟩)) | (go_at_call 28; (refine calls_of_args (args' := #[.int .i64 (wrap64 (Go.bits .and .u32 (ji5) 255))]) ?_ ?_; focus (first | rfl | (simp; done) | (refine qa_arr ?_; (repeat' (first | rfl | refine qa_cons ?_ ?_ | refine qa_int ?_ | refine qa_agg ?_ | refine qa_arr ?_ | omega)); done)); (with_reducible refine (strconv_Itoa.calls (wrap64 (Go.bits .and .u32 (ji5) 255)) t104 _ A6.out).mono ?_)); rintro e w' ⟨rfl, ⟨nd, rfl⟩⟩; (try first | exact ⟨rfl, _, World.drewN_drewN _ _ _⟩ | exact ⟨rfl, _, Eq.trans (World.drewN_drewN _ _ _) (congrArg (World.drewN _) (Nat.add_assoc _ _ _))⟩))))
              go_roundg k1
              case measure => have := HK1.out; omega
              case rel => exact ⟨(x3_1 ++ (t104 ++ (⟨#[46]⟩ : ByteArray))), (wrap64 (x4_1 - 8)), (by first | rfl | (simp; done) | (simp [*]; done) | (refine qa_int ?_; omega) | (refine qa_int ?_; simp <;> omega)), (by first | rfl | (simp; done) | (simp [*]; done) | (refine qa_int ?_; omega) | (refine qa_int ?_; simp <;> omega)), H', ⟨by have := HK1.out; omega⟩, ⟨by (with_reducible repeat (first | refine blk_drewN ?_ _ | refine blk_drew ?_ | refine blk_alloc ?_ _)); exact BK103.out⟩, ⟨by repeat (first | (with_reducible first | exact HB.out | apply below_alloc | apply pw_below_drewN | apply below_drew1 | refine below_set ?_ GE103.out) | exact HB.out)⟩⟩
            · rw [if_neg c8] at H
              exact absurd H (by simp)
          · rw [if_neg c7] at H
            exact absurd H (by simp)
        · rw [if_neg c4] at H
          exact absurd H (by simp)
      · rw [if_neg c3] at H
        have c3b0 : decide (0 ≤ x4_1) = false := decide_eq_false c3
        clear c3
        obtain ⟨ji10, hji10⟩ : ∃ j_ : Int, (wrap64 ((x3_1.size : Int) - 1)) = j_ := ⟨_, rfl⟩
        replace H : (if 0 ≤ (ji10) then (if (ji10) ≤ (x3_1.size : Int) then (if (x3_1.extract 0 ((ji10) : Int).toNat).size + 1 ≤ 9223372036854775807 then ((strconv_Itoa.f (wrap64 (a0_1))).bind fun t105 => (if ((x3_1.extract 0 ((ji10) : Int).toNat) ++ (⟨#[47]⟩ : ByteArray)).size + t105.size ≤ 9223372036854775807 then (some (((x3_1.extract 0 ((ji10) : Int).toNat) ++ (⟨#[47]⟩ : ByteArray)) ++ t105)) else (none))) else (none)) else (none)) else (none)) = some r := by first | (rw [hji10] at H; exact H) | (simp only [hji10] at H ⊢; exact H)
        have hji10w : (IntKind.i64.wrap ((x3_1.size : Int) - 1)) = ji10 := (i64_w _).trans hji10
        by_cases c11 : 0 ≤ (ji10)
        · rw [if_pos c11] at H
          have c11b0 := eq_true c11
          have c11b1 : decide (0 ≤ (ji10)) = true := decide_eq_true c11
          clear c11
          by_cases c12 : (ji10) ≤ (x3_1.size : Int)
          · rw [if_pos c12] at H
            have c12b0 := eq_true c12
            have c12b1 : decide ((ji10) ≤ (x3_1.size : Int)) = true := decide_eq_true c12
            clear c12
            obtain ⟨es_, hes_⟩ : ∃ e_ : ByteArray, (x3_1.extract 0 ((ji10) : Int).toNat) = e_ := ⟨_, rfl⟩
            rw [hes_] at H
            by_cases c13 : es_.size + 1 ≤ 9223372036854775807
            · rw [if_pos c13] at H
              have c13b0 := eq_true c13
              have c13b1 : decide (es_.size + 1 ≤ 9223372036854775807) = true := decide_eq_true c13
              try have c13b2 : (9223372036854775807 < es_.size + 1) = False := eq_false (Nat.not_lt.2 c13)
              replace H := Option.bind_eq_some_iff.mp H
              obtain ⟨t105, A140, H⟩ := H
              replace H : (if (es_ ++ (⟨#[47]⟩ : ByteArray)).size + t105.size ≤ 9223372036854775807 then (some ((es_ ++ (⟨#[47]⟩ : ByteArray)) ++ t105)) else (none)) = some r := H
              have A14 := Aside0.mk A140
              clear A140
              by_cases c15 : (es_ ++ (⟨#[47]⟩ : ByteArray)).size + t105.size ≤ 9223372036854775807
              · rw [if_pos c15] at H
                have c15b0 := eq_true c15
                have c15b1 : decide ((es_ ++ (⟨#[47]⟩ : ByteArray)).size + t105.size ≤ 9223372036854775807) = true := decide_eq_true c15
                try have c15b2 : (9223372036854775807 < (es_ ++ (⟨#[47]⟩ : ByteArray)).size + t105.size) = False := eq_false (Nat.not_lt.2 c15)
                obtain rfl := Option.some.inj H
                simp only [Option.some.injEq, Prod.mk.injEq] at H
                obtain ⟨rfl⟩ := H
                have hcz16_0 : wr.cell? ⟨gb103, 0, none⟩ = some (.int .u32 a0_0) := (blk_cell BK103.out 0).trans rfl
                have hcz16_1 : wr.cell? ⟨gb103, 1, none⟩ = some (.int .u8 a0_1) := (blk_cell BK103.out 1).trans rfl
                have hfz16_0 := blk_frozen BK103.out 0
                have hfz16_1 := blk_frozen BK103.out 1
                go_wp2_with (first | (go_at_call 28; (with_reducible refine (strconv_Itoa.calls (wrap64 (a0_1)) t105 _ A14.out).mono ?_); rintro e w' ⟨rfl, ⟨nd, rfl⟩⟩; (try first | exact ⟨rfl, _, World.drewN_drewN _ _ _⟩ | exact ⟨rfl, _, Eq.trans (World.drewN_drewN _ _ _) (congrArg (World.drewN _) (Nat.add_assoc _ _ _))⟩)) | (go_at_call 28; (refine calls_of_args (args' := #[.int .i64 (wrap64 (a0_1))]) ?_ ?_; focus (first | rfl | (simp; done) | (refine qa_arr ?_; (repeat' (first | rfl | refine qa_cons ?_ ?_ | refine qa_int ?_ | refine qa_agg ?_ | refine qa_arr ?_ | omega)); done)); (with_reducible refine (strconv_Itoa.calls (wrap64 (a0_1)) t105 _ A14.out).mono ?_)); rintro e w' ⟨rfl, ⟨nd, rfl⟩⟩; (try first | exact ⟨rfl, _, World.drewN_drewN _ _ _⟩ | exact ⟨rfl, _, Eq.trans (World.drewN_drewN _ _ _) (congrArg (World.drewN _) (Nat.add_assoc _ _ _))⟩)))
                repeat (go_quiet (first | (go_at_call 28; (with_reducible refine (strconv_Itoa.calls (wrap64 (a0_1)) t105 _ A14.out).mono ?_); rintro e w' ⟨rfl, ⟨nd, rfl⟩⟩; (try first | exact ⟨rfl, _, World.drewN_drewN _ _ _⟩ | exact ⟨rfl, _, Eq.trans (World.drewN_drewN _ _ _) (congrArg (World.drewN _) (Nat.add_assoc _ _ _))⟩)) | (go_at_call 28; (refine calls_of_args (args' := #[.int .i64 (wrap64 (a0_1))]) ?_ ?_; focus (first | rfl | (simp; done) | (refine qa_arr ?_; (repeat' (first | rfl | refine qa_cons ?_ ?_ | refine qa_int ?_ | refine qa_agg ?_ | refine qa_arr ?_ | omega)); done)); (with_reducible refine (strconv_Itoa.calls (wrap64 (a0_1)) t105 _ A14.out).mono ?_)); rintro e w' ⟨rfl, ⟨nd, rfl⟩⟩; (try first | exact ⟨rfl, _, World.drewN_drewN _ _ _⟩ | exact ⟨rfl, _, Eq.trans (World.drewN_drewN _ _ _) (congrArg (World.drewN _) (Nat.add_assoc _ _ _))⟩))); try go_wp2_with (first | (go_at_call 28; (with_reducible refine (strconv_Itoa.calls (wrap64 (a0_1)) t105 _ A14.out).mono ?_); rintro e w' ⟨rfl, ⟨nd, rfl⟩⟩; (try first | exact ⟨rfl, _, World.drewN_drewN _ _ _⟩ | exact ⟨rfl, _, Eq.trans (World.drewN_drewN _ _ _) (congrArg (World.drewN _) (Nat.add_assoc _ _ _))⟩)) | (go_at_call 28; (refine calls_of_args (args' := #[.int .i64 (wrap64 (a0_1))]) ?_ ?_; focus (first | rfl | (simp; done) | (refine qa_arr ?_; (repeat' (first | rfl | refine qa_cons ?_ ?_ | refine qa_int ?_ | refine qa_agg ?_ | refine qa_arr ?_ | omega)); done)); (with_reducible refine (strconv_Itoa.calls (wrap64 (a0_1)) t105 _ A14.out).mono ?_)); rintro e w' ⟨rfl, ⟨nd, rfl⟩⟩; (try first | exact ⟨rfl, _, World.drewN_drewN _ _ _⟩ | exact ⟨rfl, _, Eq.trans (World.drewN_drewN _ _ _) (congrArg (World.drewN _) (Nat.add_assoc _ _ _))⟩))))
                go_ret
                exact ⟨by first | rfl | (simp [errW_none, errW_some] <;> rfl) | (simp only [← hji10]; first | rfl | (simp [errW_none, errW_some] <;> rfl)) | (simp [*, errW_none, errW_some] <;> rfl), by repeat (first | (with_reducible first | exact HB.out | apply below_alloc | apply pw_below_drewN | apply below_drew1 | refine below_set ?_ GE103.out) | exact HB.out)⟩
              · rw [if_neg c15] at H
                exact absurd H (by simp)
            · rw [if_neg c13] at H
              exact absurd H (by simp)
          · rw [if_neg c12] at H
            exact absurd H (by simp)
        · rw [if_neg c11] at H
          exact absurd H (by simp)

/-! ### milestonelaw01_awake: function 11 -/
def milestonelaw01_awake.f (k : Nat)  : Option (Bool) := (prefix_Of.f 167838211 16).bind fun bt106 => ((prefix_Text.f k bt106.1 bt106.2).bind fun t108 => (some (t108.toList == ([49, 48, 46, 49, 46, 48, 46, 48, 47, 49, 54] : List UInt8))))
theorem milestonelaw01_awake.mono : ∀ k, LeO (milestonelaw01_awake.f k ) (milestonelaw01_awake.f (k + 1) ) := by
  intro  k
  unfold milestonelaw01_awake.f
  repeat' first
      | (with_reducible exact prefix_Text.mono _ _ _)
      | (with_reducible exact LeO.refl _)
      | (with_reducible exact LeO.none _)
      | (with_reducible refine LeO.ite ?_ ?_)
      | (with_reducible refine LeO.bind ?_ (fun _ => ?_))
      | exact prefix_Text.mono _ _ _
      | exact LeO.none _
      | refine LeO.ite ?_ ?_
      | refine LeO.bind ?_ (fun _ => ?_)
set_option maxHeartbeats 8000000 in
set_option maxRecDepth 100000 in
theorem milestonelaw01_awake.calls (k : Nat)  (r : Bool) (w : World) (h : milestonelaw01_awake.f k  = some r) :
    Calls Tryd.prog 11 #[] w fun e w' => e = .returned (.bool r) ∧ Below w.heap.size w w' := by
  have HB := Aside0.mk (Below.refl w.heap.size w)
  have H : ((prefix_Of.f 167838211 16).bind fun bt106 => ((prefix_Text.f k bt106.1 bt106.2).bind fun t108 => (some (t108.toList == ([49, 48, 46, 49, 46, 48, 46, 48, 47, 49, 54] : List UInt8))))) = some r := h
  clear h
  replace H := Option.bind_eq_some_iff.mp H
  obtain ⟨⟨t106, t107⟩, A10, H⟩ := H
  replace H : ((prefix_Text.f k t106 t107).bind fun t108 => (some (t108.toList == ([49, 48, 46, 49, 46, 48, 46, 48, 47, 49, 54] : List UInt8)))) = some r := H
  have A1 := Aside0.mk A10
  clear A10
  replace H := Option.bind_eq_some_iff.mp H
  obtain ⟨t108, A20, H⟩ := H
  replace H : (some (t108.toList == ([49, 48, 46, 49, 46, 48, 46, 48, 47, 49, 54] : List UInt8))) = some r := H
  have A2 := Aside0.mk A20
  clear A20
  obtain rfl := Option.some.inj H
  simp only [Option.some.injEq, Prod.mk.injEq] at H
  obtain ⟨rfl⟩ := H
  go_enter Tryd.func11, Tryd.ntmps11
  go_wp2_with (first | ((with_reducible refine gate_callee (f := 10) rfl ?_); refine goesL_ (some 1) rfl rfl Tryd.func10 (by kernel_rfl) rfl #[.int .u32 167838211, .int .u8 16] rfl (by (try simp only [List.map_toArray, List.map_cons, List.map_nil]); first | done | rfl | (simp only [List.length_drop, List.length_take]; rfl) | (simp; done) | (refine qa_arr ?_; (repeat' (first | rfl | refine qa_cons ?_ ?_ | refine qa_int ?_ | refine qa_agg ?_ | refine qa_arr ?_ | omega)); done)) ?_; (with_reducible refine (prefix_Of.calls 167838211 16 t106 t107 _ A1.out).mono ?_); rintro e w3 ⟨rfl, hb⟩; refine ⟨_, rfl, ?_⟩; have n0_ := Aside0.mk (below_step (by repeat (first | (with_reducible first | exact HB.out | apply below_alloc | apply pw_below_drewN | apply below_drew1) | exact HB.out)) hb); clear HB; have HB := n0_; clear n0_; (try clear hb); (try clear hb2); (try clear hk); (try clear hi)) | ((with_reducible refine gate_callee (f := 21) rfl ?_); refine goesL_ (some 2) rfl rfl Tryd.func21 (by kernel_rfl) rfl #[.agg #[.int .u32 t106, .int .u8 t107]] rfl (by (try simp only [List.map_toArray, List.map_cons, List.map_nil]); first | done | rfl | (simp only [List.length_drop, List.length_take]; rfl) | (simp; done) | (refine qa_arr ?_; (repeat' (first | rfl | refine qa_cons ?_ ?_ | refine qa_int ?_ | refine qa_agg ?_ | refine qa_arr ?_ | omega)); done)) ?_; (with_reducible refine (prefix_Text.calls k t106 t107 t108 _ A2.out).mono ?_); rintro e w4 ⟨rfl, hb⟩; refine ⟨_, rfl, ?_⟩; have n0_ := Aside0.mk (below_step (by repeat (first | (with_reducible first | exact HB.out | apply below_alloc | apply pw_below_drewN | apply below_drew1) | exact HB.out)) hb); clear HB; have HB := n0_; clear n0_; (try clear hb); (try clear hb2); (try clear hk); (try clear hi)))
  go_ret
  exact ⟨by first | rfl | (simp [errW_none, errW_some] <;> rfl) | (simp [*, errW_none, errW_some] <;> rfl), by repeat (first | (with_reducible first | exact HB.out | apply below_alloc | apply pw_below_drewN | apply below_drew1) | exact HB.out)⟩

/-! ### milestoneref01_Bit: function 18 -/
def milestoneref01_Bit.l0 : Nat → Int → Int → Option (Bool)
  | 0, _, _ => none
  | k + 1, x0, x1 => if x1 < 31 then (milestoneref01_Bit.l0 k ((Int.tdiv x0 2) % 4294967296) (wrap64 (x1 + 1))) else (some ((Int.tmod x0 2) == 1))
def milestoneref01_Bit.f (k : Nat) (a0 : Int) (a1 : Int) : Option (Bool) := milestoneref01_Bit.l0 k a0 a1
theorem milestoneref01_Bit.mono_l : ∀ k, (∀ y0 y1, LeO (milestoneref01_Bit.l0 k y0 y1) (milestoneref01_Bit.l0 (k + 1) y0 y1))
  | 0 => fun _ _ r h => by simp [milestoneref01_Bit.l0] at h
  | k + 1 => by
    have ih0 := milestoneref01_Bit.mono_l k
    · intro y0 y1
      unfold milestoneref01_Bit.l0
      repeat' first
      | (with_reducible exact ih0 _ _)
      | (with_reducible exact LeO.refl _)
      | (with_reducible exact LeO.none _)
      | (with_reducible refine LeO.ite ?_ ?_)
      | (with_reducible refine LeO.bind ?_ (fun _ => ?_))
      | exact ih0 _ _
      | exact LeO.none _
      | refine LeO.ite ?_ ?_
      | refine LeO.bind ?_ (fun _ => ?_)
theorem milestoneref01_Bit.mono : ∀ a0 a1 k, LeO (milestoneref01_Bit.f k a0 a1) (milestoneref01_Bit.f (k + 1) a0 a1) := by
  intro a0 a1 k
  have ih0 := milestoneref01_Bit.mono_l k
  unfold milestoneref01_Bit.f
  repeat' first
      | (with_reducible exact ih0 _ _)
      | (with_reducible exact LeO.refl _)
      | (with_reducible exact LeO.none _)
      | (with_reducible refine LeO.ite ?_ ?_)
      | (with_reducible refine LeO.bind ?_ (fun _ => ?_))
      | exact ih0 _ _
      | exact LeO.none _
      | refine LeO.ite ?_ ?_
      | refine LeO.bind ?_ (fun _ => ?_)
set_option maxHeartbeats 8000000 in
set_option maxRecDepth 100000 in
theorem milestoneref01_Bit.calls (k : Nat) (a0 : Int) (a1 : Int) (r : Bool) (w : World) (h : milestoneref01_Bit.f k a0 a1 = some r) :
    Calls Tryd.prog 18 #[.int .u32 a0, .int .i64 a1] w fun e w' => e = .returned (.bool r) ∧ Drawn0 w w' := by
  have H : (milestoneref01_Bit.l0 k a0 a1) = some r := h
  clear h
  have H' := Aside0.mk H
  clear H
  go_enter Tryd.func18, Tryd.ntmps18
  go_wp2
  go_loopg [0, 1] k (fun kq v0 v1 w' => ∃ (x0_1 : Int) (x1_1 : Int), v0 = .int .u32 x0_1 ∧ v1 = .int .i64 x1_1 ∧ Aside0 (milestoneref01_Bit.l0 kq x0_1 x1_1 = some r) ∧ Aside0 (kq ≤ k) ∧ Drawn0 w w')
  case atStart => exact ⟨(a0), (a1), (by first | rfl | (simp; done) | (simp [*]; done) | (refine qa_int ?_; omega) | (refine qa_int ?_; simp <;> omega)), (by first | rfl | (simp; done) | (simp [*]; done) | (refine qa_int ?_; omega) | (refine qa_int ?_; simp <;> omega)), H', ⟨Nat.le_refl _⟩, by repeat (first | exact Drawn0.refl _ | apply Drawn0.step)⟩
  case round =>
    clear H'
    try clear c1
    try clear p2
    obtain ⟨x0_1, x1_1, rfl, rfl, HA, HK1, ⟨m1, rfl⟩⟩ := hrel
    cases gk with
    | zero => exact absurd HA.out (by simp [milestoneref01_Bit.l0])
    | succ k1 =>
      have H := HA.out
      clear HA
      simp only [milestoneref01_Bit.l0] at H
      by_cases c3 : x1_1 < 31
      · rw [if_pos c3] at H
        have c3b0 : decide (x1_1 < 31) = true := decide_eq_true c3
        clear c3
        have H' := Aside0.mk H
        clear H
        go_wp2
        go_roundg k1
        case measure => have := HK1.out; omega
        case rel => exact ⟨((Int.tdiv x0_1 2) % 4294967296), (wrap64 (x1_1 + 1)), (by first | rfl | (simp; done) | (simp [*]; done) | (refine qa_int ?_; omega) | (refine qa_int ?_; simp <;> omega)), (by first | rfl | (simp; done) | (simp [*]; done) | (refine qa_int ?_; omega) | (refine qa_int ?_; simp <;> omega)), H', ⟨by have := HK1.out; omega⟩, by repeat (first | exact Drawn0.refl _ | apply Drawn0.step)⟩
      · rw [if_neg c3] at H
        have c3b0 : decide (x1_1 < 31) = false := decide_eq_false c3
        clear c3
        obtain rfl := Option.some.inj H
        simp only [Option.some.injEq, Prod.mk.injEq] at H
        obtain ⟨rfl⟩ := H
        go_wp2
        go_ret
        exact ⟨by first | rfl | (simp; done) | (simp [*]; done) | (refine qa_int ?_; omega) | (refine qa_int ?_; simp <;> omega), by repeat (first | exact Drawn0.refl _ | apply Drawn0.step)⟩

/-! ### milestoneref01_Of: function 12 -/
mutual
def milestoneref01_Of.j0 : Nat → Int → Int → Option (Int × Int)
  | 0, _, _ => none
  | k + 1, x0, x1 => milestoneref01_Of.l0 k x0 x1 0 0
def milestoneref01_Of.l0 : Nat → Int → Int → Int → Int → Option (Int × Int)
  | 0, _, _, _, _ => none
  | k + 1, x0, x1, x5, x6 => if x6 < 32 then (if x6 < (wrap64 (x1)) then ((milestoneref01_Bit.f k x0 x6).bind fun t110 => (if t110 = true then (milestoneref01_Of.l0 k x0 x1 (((x5 * 2) + 1) % 4294967296) (wrap64 (x6 + 1))) else (milestoneref01_Of.l0 k x0 x1 ((x5 * 2) % 4294967296) (wrap64 (x6 + 1))))) else (milestoneref01_Of.l0 k x0 x1 ((x5 * 2) % 4294967296) (wrap64 (x6 + 1)))) else (some (x5, x1))
end
def milestoneref01_Of.f (k : Nat) (a0 : Int) (a1 : Int) : Option (Int × Int) := if a1 > 32 then (milestoneref01_Of.j0 k a0 32) else (milestoneref01_Of.j0 k a0 a1)
theorem milestoneref01_Of.mono_l : ∀ k, (∀ y0 y1, LeO (milestoneref01_Of.j0 k y0 y1) (milestoneref01_Of.j0 (k + 1) y0 y1)) ∧ (∀ y0 y1 y2 y3, LeO (milestoneref01_Of.l0 k y0 y1 y2 y3) (milestoneref01_Of.l0 (k + 1) y0 y1 y2 y3))
  | 0 => ⟨fun _ _ r h => by simp [milestoneref01_Of.j0] at h, fun _ _ _ _ r h => by simp [milestoneref01_Of.l0] at h⟩
  | k + 1 => by
    obtain ⟨ih0, ih1⟩ := milestoneref01_Of.mono_l k
    refine ⟨?_, ?_⟩
    · intro y0 y1
      unfold milestoneref01_Of.j0
      repeat' first
      | (with_reducible exact ih0 _ _)
      | (with_reducible exact ih1 _ _ _ _)
      | (with_reducible exact milestoneref01_Bit.mono _ _ _)
      | (with_reducible exact LeO.refl _)
      | (with_reducible exact LeO.none _)
      | (with_reducible refine LeO.ite ?_ ?_)
      | (with_reducible refine LeO.bind ?_ (fun _ => ?_))
      | exact ih0 _ _
      | exact ih1 _ _ _ _
      | exact milestoneref01_Bit.mono _ _ _
      | exact LeO.none _
      | refine LeO.ite ?_ ?_
      | refine LeO.bind ?_ (fun _ => ?_)
    · intro y0 y1 y2 y3
      unfold milestoneref01_Of.l0
      repeat' first
      | (with_reducible exact ih0 _ _)
      | (with_reducible exact ih1 _ _ _ _)
      | (with_reducible exact milestoneref01_Bit.mono _ _ _)
      | (with_reducible exact LeO.refl _)
      | (with_reducible exact LeO.none _)
      | (with_reducible refine LeO.ite ?_ ?_)
      | (with_reducible refine LeO.bind ?_ (fun _ => ?_))
      | exact ih0 _ _
      | exact ih1 _ _ _ _
      | exact milestoneref01_Bit.mono _ _ _
      | exact LeO.none _
      | refine LeO.ite ?_ ?_
      | refine LeO.bind ?_ (fun _ => ?_)
theorem milestoneref01_Of.mono : ∀ a0 a1 k, LeO (milestoneref01_Of.f k a0 a1) (milestoneref01_Of.f (k + 1) a0 a1) := by
  intro a0 a1 k
  obtain ⟨ih0, ih1⟩ := milestoneref01_Of.mono_l k
  unfold milestoneref01_Of.f
  repeat' first
      | (with_reducible exact ih0 _ _)
      | (with_reducible exact ih1 _ _ _ _)
      | (with_reducible exact milestoneref01_Bit.mono _ _ _)
      | (with_reducible exact LeO.refl _)
      | (with_reducible exact LeO.none _)
      | (with_reducible refine LeO.ite ?_ ?_)
      | (with_reducible refine LeO.bind ?_ (fun _ => ?_))
      | exact ih0 _ _
      | exact ih1 _ _ _ _
      | exact milestoneref01_Bit.mono _ _ _
      | exact LeO.none _
      | refine LeO.ite ?_ ?_
      | refine LeO.bind ?_ (fun _ => ?_)
set_option maxHeartbeats 8000000 in
set_option maxRecDepth 100000 in
theorem milestoneref01_Of.calls (k : Nat) (a0 : Int) (a1 : Int) (r1 : Int) (r2 : Int) (w : World) (h : milestoneref01_Of.f k a0 a1 = some (r1, r2)) :
    Calls Tryd.prog 12 #[.int .u32 a0, .int .u8 a1] w fun e w' => e = .returned (.agg #[.int .u32 r1, .int .u8 r2]) ∧ Below w.heap.size w w' := by
  have hu24 := Tryd.underlying24
  have HB := Aside0.mk (Below.refl w.heap.size w)
  have H : (if a1 > 32 then (milestoneref01_Of.j0 k a0 32) else (milestoneref01_Of.j0 k a0 a1)) = some (r1, r2) := h
  clear h
  have HC3 := Aside0.mk H
  clear H
  go_enter Tryd.func12, Tryd.ntmps12
  go_upto_if 8 with (first | ((with_reducible refine gate_dst (N := 4) rfl ?_); refine box_event ?hg (N := 4) ?hd (cs := #[.int .u32 0, .int .u8 0]) (t := 24) ?hr ?_; (case hd => rfl); (case hg => rfl); (case hr => first | (go_simp; done) | (go_simp; rfl)); intro gb109 hg w4 hbox hb; have n0_ := Aside0.mk (below_step (by repeat (first | (with_reducible first | exact HB.out | apply below_alloc | apply pw_below_drewN | apply below_drew1) | exact HB.out)) hb); have n1_ := Aside0.mk (hbox); have n2_ := Aside0.mk ((by rw [hg]; exact (below_size (by repeat (first | (with_reducible first | exact HB.out | apply below_alloc | apply pw_below_drewN | apply below_drew1) | exact HB.out))) : w.heap.size ≤ gb109)); have n3_ := Aside0.mk ((by rw [hg]; exact (below_size (by repeat (first | (with_reducible first | exact HB.out | apply below_alloc | apply pw_below_drewN | apply below_drew1) | exact HB.out))) : w.heap.size ≤ gb109)); clear HB; have HB := n0_; have BK109 := n1_; have GW109 := n2_; have GE109 := n3_; clear n0_ n1_ n2_ n3_; clear hb hbox hg))
  (try simp only [Act.put, List.setIfInBounds_toArray, List.set_cons_zero, List.set_cons_succ])
  go_cut [1] (fun v1 wc => ∃ (kq : Nat) (x1_2 : Int), v1 = .int .u8 x1_2 ∧ Aside0 (milestoneref01_Of.j0 kq a0 x1_2 = some (r1, r2)) ∧ Aside0 (kq ≤ k) ∧ Aside0 (wc.heap[gb109]? = some (.cells #[.int .u32 0, .int .u8 0] 24 (0, 0))) ∧ Aside0 (Below w.heap.size w wc))
  case first =>
    have H := HC3.out
    clear HC3
    by_cases c5 : a1 > 32
    · rw [if_pos c5] at H
      have c5b0 : decide (32 < a1) = true := decide_eq_true c5
      clear c5
      (first | rw [c5b0] | (simp only [i64_w, i32_w]; rw [c5b0]) | skip)
      have H' := Aside0.mk H
      clear H
      go_wp2
      go_meet
      case rel => exact ⟨_, (32), (by first | rfl | (simp; done) | (simp [*]; done) | (refine qa_int ?_; omega) | (refine qa_int ?_; simp <;> omega)), H', ⟨by first | omega | exact Nat.le_refl _⟩, ⟨by (with_reducible repeat (first | refine blk_drewN ?_ _ | refine blk_drew ?_ | refine blk_alloc ?_ _)); exact BK109.out⟩, ⟨by repeat (first | (with_reducible first | exact HB.out | apply below_alloc | apply pw_below_drewN | apply below_drew1 | refine below_set ?_ GE109.out) | exact HB.out)⟩⟩
    · rw [if_neg c5] at H
      have c5b0 : decide (32 < a1) = false := decide_eq_false c5
      clear c5
      (first | rw [c5b0] | (simp only [i64_w, i32_w]; rw [c5b0]) | skip)
      have H' := Aside0.mk H
      clear H
      go_wp2
      go_meet
      case rel => exact ⟨_, (a1), (by first | rfl | (simp; done) | (simp [*]; done) | (refine qa_int ?_; omega) | (refine qa_int ?_; simp <;> omega)), H', ⟨by first | omega | exact Nat.le_refl _⟩, ⟨by (with_reducible repeat (first | refine blk_drewN ?_ _ | refine blk_drew ?_ | refine blk_alloc ?_ _)); exact BK109.out⟩, ⟨by repeat (first | (with_reducible first | exact HB.out | apply below_alloc | apply pw_below_drewN | apply below_drew1 | refine below_set ?_ GE109.out) | exact HB.out)⟩⟩
  case rest =>
    clear HC3
    try clear c1
    try clear p2
    try clear c5
    try clear c5b0
    obtain ⟨kq, x1_2, rfl, HA, HJ2, BK109, HB⟩ := hcut
    cases kq with
    | zero => exact absurd HA.out (by simp [milestoneref01_Of.j0])
    | succ kj2 =>
      have H := HA.out
      clear HA
      simp only [milestoneref01_Of.j0] at H
      have H' := Aside0.mk H
      clear H
      go_wp2
      go_loopg [5, 6] kj2 (fun kq v5 v6 w' => ∃ (x5_2 : Int) (x6_2 : Int), v5 = .int .u32 x5_2 ∧ v6 = .int .i64 x6_2 ∧ Aside0 (milestoneref01_Of.l0 kq a0 x1_2 x5_2 x6_2 = some (r1, r2)) ∧ Aside0 (kq ≤ kj2) ∧ Aside0 (w'.heap[gb109]? = some (.cells #[.int .u32 0, .int .u8 0] 24 (0, 0))) ∧ Aside0 (Below w.heap.size w w'))
      case atStart => exact ⟨(0), (0), (by first | rfl | (simp; done) | (simp [*]; done) | (refine qa_int ?_; omega) | (refine qa_int ?_; simp <;> omega)), (by first | rfl | (simp; done) | (simp [*]; done) | (refine qa_int ?_; omega) | (refine qa_int ?_; simp <;> omega)), H', ⟨Nat.le_refl _⟩, ⟨by (with_reducible repeat (first | refine blk_drewN ?_ _ | refine blk_drew ?_ | refine blk_alloc ?_ _)); exact BK109.out⟩, ⟨by repeat (first | (with_reducible first | exact HB.out | apply below_alloc | apply pw_below_drewN | apply below_drew1 | refine below_set ?_ GE109.out) | exact HB.out)⟩⟩
      case round =>
        clear H'
        try clear c1
        try clear p2
        try clear c5
        try clear c5b0
        try clear p2
        obtain ⟨x5_2, x6_2, rfl, rfl, HA, HK2, BK109, HB⟩ := hrel
        cases gk with
        | zero => exact absurd HA.out (by simp [milestoneref01_Of.l0])
        | succ k2 =>
          have H := HA.out
          clear HA
          simp only [milestoneref01_Of.l0] at H
          by_cases c6 : x6_2 < 32
          · rw [if_pos c6] at H
            have c6b0 : decide (x6_2 < 32) = true := decide_eq_true c6
            clear c6
            by_cases c7 : x6_2 < (wrap64 (x1_2))
            · rw [if_pos c7] at H
              have c7b0 : decide (x6_2 < (wrap64 (x1_2))) = true := decide_eq_true c7
              clear c7
              replace H := Option.bind_eq_some_iff.mp H
              obtain ⟨t110, A80, H⟩ := H
              replace H : (if t110 = true then (milestoneref01_Of.l0 k2 a0 x1_2 (((x5_2 * 2) + 1) % 4294967296) (wrap64 (x6_2 + 1))) else (milestoneref01_Of.l0 k2 a0 x1_2 ((x5_2 * 2) % 4294967296) (wrap64 (x6_2 + 1)))) = some (r1, r2) := H
              have A8 := Aside0.mk A80
              clear A80
              by_cases c9 : t110 = true
              · subst c9
                have H1 : (milestoneref01_Of.l0 k2 a0 x1_2 (((x5_2 * 2) + 1) % 4294967296) (wrap64 (x6_2 + 1))) = some (r1, r2) := by rw [if_pos rfl] at H; exact H
                clear H
                have H := H1
                clear H1
                have H' := Aside0.mk H
                clear H
                go_wp2_with (first | (go_at_call 18; (with_reducible refine (milestoneref01_Bit.calls k2 a0 x6_2 true _ A8.out).mono ?_); rintro e w' ⟨rfl, ⟨nd, rfl⟩⟩) | (go_at_call 18; (refine calls_of_args (args' := #[.int .u32 a0, .int .i64 x6_2]) ?_ ?_; focus (first | rfl | (simp; done) | (refine qa_arr ?_; (repeat' (first | rfl | refine qa_cons ?_ ?_ | refine qa_int ?_ | refine qa_agg ?_ | refine qa_arr ?_ | omega)); done)); (with_reducible refine (milestoneref01_Bit.calls k2 a0 x6_2 true _ A8.out).mono ?_)); rintro e w' ⟨rfl, ⟨nd, rfl⟩⟩))
                go_roundg k2
                case measure => have := HJ2.out; have := HK2.out; omega
                case rel => exact ⟨(((x5_2 * 2) + 1) % 4294967296), (wrap64 (x6_2 + 1)), (by first | rfl | (simp; done) | (simp [*]; done) | (refine qa_int ?_; omega) | (refine qa_int ?_; simp <;> omega)), (by first | rfl | (simp; done) | (simp [*]; done) | (refine qa_int ?_; omega) | (refine qa_int ?_; simp <;> omega)), H', ⟨by have := HJ2.out; have := HK2.out; omega⟩, ⟨by (with_reducible repeat (first | refine blk_drewN ?_ _ | refine blk_drew ?_ | refine blk_alloc ?_ _)); exact BK109.out⟩, ⟨by repeat (first | (with_reducible first | exact HB.out | apply below_alloc | apply pw_below_drewN | apply below_drew1 | refine below_set ?_ GE109.out) | exact HB.out)⟩⟩
              · replace c9 := Bool.eq_false_iff.mpr c9
                subst c9
                have H1 : (milestoneref01_Of.l0 k2 a0 x1_2 ((x5_2 * 2) % 4294967296) (wrap64 (x6_2 + 1))) = some (r1, r2) := by rw [if_neg (show ¬ (false = true) by decide)] at H; exact H
                clear H
                have H := H1
                clear H1
                have H' := Aside0.mk H
                clear H
                go_wp2_with (first | (go_at_call 18; (with_reducible refine (milestoneref01_Bit.calls k2 a0 x6_2 false _ A8.out).mono ?_); rintro e w' ⟨rfl, ⟨nd, rfl⟩⟩) | (go_at_call 18; (refine calls_of_args (args' := #[.int .u32 a0, .int .i64 x6_2]) ?_ ?_; focus (first | rfl | (simp; done) | (refine qa_arr ?_; (repeat' (first | rfl | refine qa_cons ?_ ?_ | refine qa_int ?_ | refine qa_agg ?_ | refine qa_arr ?_ | omega)); done)); (with_reducible refine (milestoneref01_Bit.calls k2 a0 x6_2 false _ A8.out).mono ?_)); rintro e w' ⟨rfl, ⟨nd, rfl⟩⟩))
                go_roundg k2
                case measure => have := HJ2.out; have := HK2.out; omega
                case rel => exact ⟨((x5_2 * 2) % 4294967296), (wrap64 (x6_2 + 1)), (by first | rfl | (simp; done) | (simp [*]; done) | (refine qa_int ?_; omega) | (refine qa_int ?_; simp <;> omega)), (by first | rfl | (simp; done) | (simp [*]; done) | (refine qa_int ?_; omega) | (refine qa_int ?_; simp <;> omega)), H', ⟨by have := HJ2.out; have := HK2.out; omega⟩, ⟨by (with_reducible repeat (first | refine blk_drewN ?_ _ | refine blk_drew ?_ | refine blk_alloc ?_ _)); exact BK109.out⟩, ⟨by repeat (first | (with_reducible first | exact HB.out | apply below_alloc | apply pw_below_drewN | apply below_drew1 | refine below_set ?_ GE109.out) | exact HB.out)⟩⟩
            · rw [if_neg c7] at H
              have c7b0 : decide (x6_2 < (wrap64 (x1_2))) = false := decide_eq_false c7
              clear c7
              have H' := Aside0.mk H
              clear H
              go_wp2
              go_roundg k2
              case measure => have := HJ2.out; have := HK2.out; omega
              case rel => exact ⟨((x5_2 * 2) % 4294967296), (wrap64 (x6_2 + 1)), (by first | rfl | (simp; done) | (simp [*]; done) | (refine qa_int ?_; omega) | (refine qa_int ?_; simp <;> omega)), (by first | rfl | (simp; done) | (simp [*]; done) | (refine qa_int ?_; omega) | (refine qa_int ?_; simp <;> omega)), H', ⟨by have := HJ2.out; have := HK2.out; omega⟩, ⟨by (with_reducible repeat (first | refine blk_drewN ?_ _ | refine blk_drew ?_ | refine blk_alloc ?_ _)); exact BK109.out⟩, ⟨by repeat (first | (with_reducible first | exact HB.out | apply below_alloc | apply pw_below_drewN | apply below_drew1 | refine below_set ?_ GE109.out) | exact HB.out)⟩⟩
          · rw [if_neg c6] at H
            have c6b0 : decide (x6_2 < 32) = false := decide_eq_false c6
            clear c6
            simp only [Option.some.injEq, Prod.mk.injEq] at H
            obtain ⟨rfl, rfl⟩ := H
            have hcz10_0 : wr.cell? ⟨gb109, 0, none⟩ = some (.int .u32 0) := (blk_cell BK109.out 0).trans rfl
            have hcz10_1 : wr.cell? ⟨gb109, 1, none⟩ = some (.int .u8 0) := (blk_cell BK109.out 1).trans rfl
            have hfz10_0 := blk_frozen BK109.out 0
            have hfz10_1 := blk_frozen BK109.out 1
            go_wp2
            refine bodyPost_ret (results_cell_row rfl _ _ gb109 24 #[.int .u32 x5_2, .int .u8 x1_2] (0, 0) _ rfl (by (with_reducible repeat (first | refine blk_drewN ?_ _ | refine blk_drew ?_ | refine blk_alloc ?_ _)); refine blk_put (cs := #[.int .u32 x5_2, .int .u8 0]) ?_ 1 _ rfl; (with_reducible repeat (first | refine blk_drewN ?_ _ | refine blk_drew ?_ | refine blk_alloc ?_ _)); refine blk_put (cs := #[.int .u32 0, .int .u8 0]) ?_ 0 _ rfl; (with_reducible repeat (first | refine blk_drewN ?_ _ | refine blk_drew ?_ | refine blk_alloc ?_ _)); exact BK109.out) Tryd.underlying24 rfl (by kernel_rfl)) rfl ?_
            exact ⟨by first | rfl | (simp [errW_none, errW_some] <;> rfl) | (simp [*, errW_none, errW_some] <;> rfl), by repeat (first | (with_reducible first | exact HB.out | apply below_alloc | apply pw_below_drewN | apply below_drew1 | refine below_set ?_ GE109.out) | exact HB.out)⟩

/-! ### milestoneref01_Right: function 14 -/
def milestoneref01_Right.l0 : Nat → Int → Int → Int → Option (Bool)
  | 0, _, _, _ => none
  | k + 1, x3, x112000, x112001 => if x3 < 32 then ((milestoneref01_Bit.f k x112000 x3).bind fun t112 => (if t112 = true then (some false) else (milestoneref01_Right.l0 k (wrap64 (x3 + 1)) x112000 x112001))) else (some true)
def milestoneref01_Right.f (k : Nat) (a0_0 : Int) (a0_1 : Int) : Option (Bool) := if a0_1 > 32 then (some false) else (milestoneref01_Right.l0 k (wrap64 (a0_1)) a0_0 a0_1)
theorem milestoneref01_Right.mono_l : ∀ k, (∀ y0 y1 y2, LeO (milestoneref01_Right.l0 k y0 y1 y2) (milestoneref01_Right.l0 (k + 1) y0 y1 y2))
  | 0 => fun _ _ _ r h => by simp [milestoneref01_Right.l0] at h
  | k + 1 => by
    have ih0 := milestoneref01_Right.mono_l k
    · intro y0 y1 y2
      unfold milestoneref01_Right.l0
      repeat' first
      | (with_reducible exact ih0 _ _ _)
      | (with_reducible exact milestoneref01_Bit.mono _ _ _)
      | (with_reducible exact LeO.refl _)
      | (with_reducible exact LeO.none _)
      | (with_reducible refine LeO.ite ?_ ?_)
      | (with_reducible refine LeO.bind ?_ (fun _ => ?_))
      | exact ih0 _ _ _
      | exact milestoneref01_Bit.mono _ _ _
      | exact LeO.none _
      | refine LeO.ite ?_ ?_
      | refine LeO.bind ?_ (fun _ => ?_)
theorem milestoneref01_Right.mono : ∀ a0 a1 k, LeO (milestoneref01_Right.f k a0 a1) (milestoneref01_Right.f (k + 1) a0 a1) := by
  intro a0 a1 k
  have ih0 := milestoneref01_Right.mono_l k
  unfold milestoneref01_Right.f
  repeat' first
      | (with_reducible exact ih0 _ _ _)
      | (with_reducible exact milestoneref01_Bit.mono _ _ _)
      | (with_reducible exact LeO.refl _)
      | (with_reducible exact LeO.none _)
      | (with_reducible refine LeO.ite ?_ ?_)
      | (with_reducible refine LeO.bind ?_ (fun _ => ?_))
      | exact ih0 _ _ _
      | exact milestoneref01_Bit.mono _ _ _
      | exact LeO.none _
      | refine LeO.ite ?_ ?_
      | refine LeO.bind ?_ (fun _ => ?_)
set_option maxHeartbeats 8000000 in
set_option maxRecDepth 100000 in
theorem milestoneref01_Right.calls (k : Nat) (a0_0 : Int) (a0_1 : Int) (r : Bool) (w : World) (h : milestoneref01_Right.f k a0_0 a0_1 = some r) :
    Calls Tryd.prog 14 #[.agg #[.int .u32 a0_0, .int .u8 a0_1]] w fun e w' => e = .returned (.bool r) ∧ Below w.heap.size w w' := by
  have hu24 := Tryd.underlying24
  have HB := Aside0.mk (Below.refl w.heap.size w)
  have H : (if a0_1 > 32 then (some false) else (milestoneref01_Right.l0 k (wrap64 (a0_1)) a0_0 a0_1)) = some r := h
  clear h
  by_cases c2 : a0_1 > 32
  · rw [if_pos c2] at H
    have c2b0 : decide (32 < a0_1) = true := decide_eq_true c2
    clear c2
    obtain rfl := Option.some.inj H
    simp only [Option.some.injEq, Prod.mk.injEq] at H
    obtain ⟨rfl⟩ := H
    go_enter Tryd.func14, Tryd.ntmps14
    go_wp2_with (first | ((with_reducible refine gate_dst (N := 1) rfl ?_); refine box_event ?hg (N := 1) ?hd (cs := #[.int .u32 a0_0, .int .u8 a0_1]) (t := 24) ?hr ?_; (case hd => rfl); (case hg => rfl); (case hr => first | (go_simp; done) | (go_simp; rfl)); intro gb111 hg w3 hbox hb; have n0_ := Aside0.mk (below_step (by repeat (first | (with_reducible first | exact HB.out | apply below_alloc | apply pw_below_drewN | apply below_drew1) | exact HB.out)) hb); have n1_ := Aside0.mk (hbox); have n2_ := Aside0.mk ((by rw [hg]; exact (below_size (by repeat (first | (with_reducible first | exact HB.out | apply below_alloc | apply pw_below_drewN | apply below_drew1) | exact HB.out))) : w.heap.size ≤ gb111)); have n3_ := Aside0.mk ((by rw [hg]; exact (below_size (by repeat (first | (with_reducible first | exact HB.out | apply below_alloc | apply pw_below_drewN | apply below_drew1) | exact HB.out))) : w.heap.size ≤ gb111)); clear HB; have HB := n0_; have BK111 := n1_; have GW111 := n2_; have GE111 := n3_; clear n0_ n1_ n2_ n3_; clear hb hbox hg; have hcz4_0 : w3.cell? ⟨gb111, 0, none⟩ = some (.int .u32 a0_0) := (blk_cell BK111.out 0).trans rfl; have hcz4_1 : w3.cell? ⟨gb111, 1, none⟩ = some (.int .u8 a0_1) := (blk_cell BK111.out 1).trans rfl; have hfz4_0 := blk_frozen BK111.out 0; have hfz4_1 := blk_frozen BK111.out 1))
    go_ret
    exact ⟨by first | rfl | (simp [errW_none, errW_some] <;> rfl) | (simp [*, errW_none, errW_some] <;> rfl), by repeat (first | (with_reducible first | exact HB.out | apply below_alloc | apply pw_below_drewN | apply below_drew1 | refine below_set ?_ GE111.out) | exact HB.out)⟩
  · rw [if_neg c2] at H
    have c2b0 : decide (32 < a0_1) = false := decide_eq_false c2
    clear c2
    have H' := Aside0.mk H
    clear H
    go_enter Tryd.func14, Tryd.ntmps14
    go_wp2_with (first | ((with_reducible refine gate_dst (N := 1) rfl ?_); refine box_event ?hg (N := 1) ?hd (cs := #[.int .u32 a0_0, .int .u8 a0_1]) (t := 24) ?hr ?_; (case hd => rfl); (case hg => rfl); (case hr => first | (go_simp; done) | (go_simp; rfl)); intro gb111 hg w5 hbox hb; have n0_ := Aside0.mk (below_step (by repeat (first | (with_reducible first | exact HB.out | apply below_alloc | apply pw_below_drewN | apply below_drew1) | exact HB.out)) hb); have n1_ := Aside0.mk (hbox); have n2_ := Aside0.mk ((by rw [hg]; exact (below_size (by repeat (first | (with_reducible first | exact HB.out | apply below_alloc | apply pw_below_drewN | apply below_drew1) | exact HB.out))) : w.heap.size ≤ gb111)); have n3_ := Aside0.mk ((by rw [hg]; exact (below_size (by repeat (first | (with_reducible first | exact HB.out | apply below_alloc | apply pw_below_drewN | apply below_drew1) | exact HB.out))) : w.heap.size ≤ gb111)); clear HB; have HB := n0_; have BK111 := n1_; have GW111 := n2_; have GE111 := n3_; clear n0_ n1_ n2_ n3_; clear hb hbox hg; have hcz6_0 : w5.cell? ⟨gb111, 0, none⟩ = some (.int .u32 a0_0) := (blk_cell BK111.out 0).trans rfl; have hcz6_1 : w5.cell? ⟨gb111, 1, none⟩ = some (.int .u8 a0_1) := (blk_cell BK111.out 1).trans rfl; have hfz6_0 := blk_frozen BK111.out 0; have hfz6_1 := blk_frozen BK111.out 1))
    go_loopg [3] k (fun kq v3 w' => ∃ (x3_1 : Int), v3 = .int .i64 x3_1 ∧ Aside0 (milestoneref01_Right.l0 kq x3_1 a0_0 a0_1 = some r) ∧ Aside0 (kq ≤ k) ∧ Aside0 (w'.heap[gb111]? = some (.cells #[.int .u32 a0_0, .int .u8 a0_1] 24 (0, 0))) ∧ Aside0 (Below w.heap.size w w'))
    case atStart => exact ⟨(wrap64 (a0_1)), (by first | rfl | (simp; done) | (simp [*]; done) | (refine qa_int ?_; omega) | (refine qa_int ?_; simp <;> omega)), H', ⟨Nat.le_refl _⟩, ⟨by (with_reducible repeat (first | refine blk_drewN ?_ _ | refine blk_drew ?_ | refine blk_alloc ?_ _)); exact BK111.out⟩, ⟨by repeat (first | (with_reducible first | exact HB.out | apply below_alloc | apply pw_below_drewN | apply below_drew1 | refine below_set ?_ GE111.out) | exact HB.out)⟩⟩
    case round =>
      clear H'
      try clear c1
      try clear c2
      try clear c2b0
      try clear p2
      try clear p6
      try clear hcz4_0
      try clear hcz4_1
      try clear hcz6_0
      try clear hcz6_1
      try clear hfz4_0
      try clear hfz4_1
      try clear hfz6_0
      try clear hfz6_1
      obtain ⟨x3_1, rfl, HA, HK1, BK111, HB⟩ := hrel
      cases gk with
      | zero => exact absurd HA.out (by simp [milestoneref01_Right.l0])
      | succ k1 =>
        have H := HA.out
        clear HA
        simp only [milestoneref01_Right.l0] at H
        by_cases c7 : x3_1 < 32
        · rw [if_pos c7] at H
          have c7b0 : decide (x3_1 < 32) = true := decide_eq_true c7
          clear c7
          replace H := Option.bind_eq_some_iff.mp H
          obtain ⟨t112, A80, H⟩ := H
          replace H : (if t112 = true then (some false) else (milestoneref01_Right.l0 k1 (wrap64 (x3_1 + 1)) a0_0 a0_1)) = some r := H
          have A8 := Aside0.mk A80
          clear A80
          by_cases c9 : t112 = true
          · subst c9
            have H1 : (some false) = some r := by rw [if_pos rfl] at H; exact H
            clear H
            have H := H1
            clear H1
            obtain rfl := Option.some.inj H
            simp only [Option.some.injEq, Prod.mk.injEq] at H
            obtain ⟨rfl⟩ := H
            have hcz10_0 : wr.cell? ⟨gb111, 0, none⟩ = some (.int .u32 a0_0) := (blk_cell BK111.out 0).trans rfl
            have hcz10_1 : wr.cell? ⟨gb111, 1, none⟩ = some (.int .u8 a0_1) := (blk_cell BK111.out 1).trans rfl
            have hfz10_0 := blk_frozen BK111.out 0
            have hfz10_1 := blk_frozen BK111.out 1
            go_wp2_with (first | ((with_reducible refine gate_callee (f := 18) rfl ?_); refine goesL_ (some 17) rfl rfl Tryd.func18 (by kernel_rfl) rfl #[.int .u32 a0_0, .int .i64 x3_1] rfl (by (try simp only [List.map_toArray, List.map_cons, List.map_nil]); first | done | rfl | (simp only [List.length_drop, List.length_take]; rfl) | (simp; done) | (refine qa_arr ?_; (repeat' (first | rfl | refine qa_cons ?_ ?_ | refine qa_int ?_ | refine qa_agg ?_ | refine qa_arr ?_ | omega)); done)) ?_; (with_reducible refine (milestoneref01_Bit.calls k1 a0_0 x3_1 true _ A8.out).mono ?_); rintro e w' ⟨rfl, ⟨nd, rfl⟩⟩; refine ⟨_, rfl, ?_⟩) | ((with_reducible refine gate_callee (f := 18) rfl ?_); refine goesL_ _ rfl rfl Tryd.func18 (by kernel_rfl) rfl #[.int .u32 a0_0, .int .i64 x3_1] rfl (by (try simp only [List.map_toArray, List.map_cons, List.map_nil]); first | done | rfl | (simp only [List.length_drop, List.length_take]; rfl) | (simp; done) | (refine qa_arr ?_; (repeat' (first | rfl | refine qa_cons ?_ ?_ | refine qa_int ?_ | refine qa_agg ?_ | refine qa_arr ?_ | omega)); done)) ?_; (with_reducible refine (milestoneref01_Bit.calls k1 a0_0 x3_1 true _ A8.out).mono ?_); rintro e w' ⟨rfl, ⟨nd, rfl⟩⟩; refine ⟨_, rfl, ?_⟩))
            go_ret
            exact ⟨by first | rfl | (simp [errW_none, errW_some] <;> rfl) | (simp [*, errW_none, errW_some] <;> rfl), by repeat (first | (with_reducible first | exact HB.out | apply below_alloc | apply pw_below_drewN | apply below_drew1 | refine below_set ?_ GE111.out) | exact HB.out)⟩
          · replace c9 := Bool.eq_false_iff.mpr c9
            subst c9
            have H1 : (milestoneref01_Right.l0 k1 (wrap64 (x3_1 + 1)) a0_0 a0_1) = some r := by rw [if_neg (show ¬ (false = true) by decide)] at H; exact H
            clear H
            have H := H1
            clear H1
            have H' := Aside0.mk H
            clear H
            have hcz11_0 : wr.cell? ⟨gb111, 0, none⟩ = some (.int .u32 a0_0) := (blk_cell BK111.out 0).trans rfl
            have hcz11_1 : wr.cell? ⟨gb111, 1, none⟩ = some (.int .u8 a0_1) := (blk_cell BK111.out 1).trans rfl
            have hfz11_0 := blk_frozen BK111.out 0
            have hfz11_1 := blk_frozen BK111.out 1
            go_wp2_with (first | ((with_reducible refine gate_callee (f := 18) rfl ?_); refine goesL_ (some 17) rfl rfl Tryd.func18 (by kernel_rfl) rfl #[.int .u32 a0_0, .int .i64 x3_1] rfl (by (try simp only [List.map_toArray, List.map_cons, List.map_nil]); first | done | rfl | (simp only [List.length_drop, List.length_take]; rfl) | (simp; done) | (refine qa_arr ?_; (repeat' (first | rfl | refine qa_cons ?_ ?_ | refine qa_int ?_ | refine qa_agg ?_ | refine qa_arr ?_ | omega)); done)) ?_; (with_reducible refine (milestoneref01_Bit.calls k1 a0_0 x3_1 false _ A8.out).mono ?_); rintro e w' ⟨rfl, ⟨nd, rfl⟩⟩; refine ⟨_, rfl, ?_⟩) | ((with_reducible refine gate_callee (f := 18) rfl ?_); refine goesL_ _ rfl rfl Tryd.func18 (by kernel_rfl) rfl #[.int .u32 a0_0, .int .i64 x3_1] rfl (by (try simp only [List.map_toArray, List.map_cons, List.map_nil]); first | done | rfl | (simp only [List.length_drop, List.length_take]; rfl) | (simp; done) | (refine qa_arr ?_; (repeat' (first | rfl | refine qa_cons ?_ ?_ | refine qa_int ?_ | refine qa_agg ?_ | refine qa_arr ?_ | omega)); done)) ?_; (with_reducible refine (milestoneref01_Bit.calls k1 a0_0 x3_1 false _ A8.out).mono ?_); rintro e w' ⟨rfl, ⟨nd, rfl⟩⟩; refine ⟨_, rfl, ?_⟩))
            go_roundg k1
            case measure => have := HK1.out; omega
            case rel => exact ⟨(wrap64 (x3_1 + 1)), (by first | rfl | (simp; done) | (simp [*]; done) | (refine qa_int ?_; omega) | (refine qa_int ?_; simp <;> omega)), H', ⟨by have := HK1.out; omega⟩, ⟨by (with_reducible repeat (first | refine blk_drewN ?_ _ | refine blk_drew ?_ | refine blk_alloc ?_ _)); exact BK111.out⟩, ⟨by repeat (first | (with_reducible first | exact HB.out | apply below_alloc | apply pw_below_drewN | apply below_drew1 | refine below_set ?_ GE111.out) | exact HB.out)⟩⟩
        · rw [if_neg c7] at H
          have c7b0 : decide (x3_1 < 32) = false := decide_eq_false c7
          clear c7
          obtain rfl := Option.some.inj H
          simp only [Option.some.injEq, Prod.mk.injEq] at H
          obtain ⟨rfl⟩ := H
          go_wp2
          go_ret
          exact ⟨by first | rfl | (simp [errW_none, errW_some] <;> rfl) | (simp [*, errW_none, errW_some] <;> rfl), by repeat (first | (with_reducible first | exact HB.out | apply below_alloc | apply pw_below_drewN | apply below_drew1 | refine below_set ?_ GE111.out) | exact HB.out)⟩

/-! ### prefix_Right: function 13 -/
def prefix_Right.f (a0_0 : Int) (a0_1 : Int) : Option (Bool) := if a0_1 ≤ 32 then ((prefix_mask.f a0_1).bind fun t114 => (some ((Go.bits .andNot .u32 a0_0 t114) == 0))) else (some false)
set_option maxHeartbeats 8000000 in
set_option maxRecDepth 100000 in
theorem prefix_Right.calls (a0_0 : Int) (a0_1 : Int) (r : Bool) (w : World) (h : prefix_Right.f a0_0 a0_1 = some r) :
    Calls Tryd.prog 13 #[.agg #[.int .u32 a0_0, .int .u8 a0_1]] w fun e w' => e = .returned (.bool r) ∧ Below w.heap.size w w' := by
  have hu24 := Tryd.underlying24
  have HB := Aside0.mk (Below.refl w.heap.size w)
  have H : (if a0_1 ≤ 32 then ((prefix_mask.f a0_1).bind fun t114 => (some ((Go.bits .andNot .u32 a0_0 t114) == 0))) else (some false)) = some r := h
  clear h
  by_cases c2 : a0_1 ≤ 32
  · rw [if_pos c2] at H
    have c2b0 : decide (a0_1 ≤ 32) = true := decide_eq_true c2
    clear c2
    replace H := Option.bind_eq_some_iff.mp H
    obtain ⟨t114, A30, H⟩ := H
    replace H : (some ((Go.bits .andNot .u32 a0_0 t114) == 0)) = some r := H
    have A3 := Aside0.mk A30
    clear A30
    obtain rfl := Option.some.inj H
    simp only [Option.some.injEq, Prod.mk.injEq] at H
    obtain ⟨rfl⟩ := H
    go_enter Tryd.func13, Tryd.ntmps13
    go_wp2_with (first | ((with_reducible refine gate_dst (N := 1) rfl ?_); refine box_event ?hg (N := 1) ?hd (cs := #[.int .u32 a0_0, .int .u8 a0_1]) (t := 24) ?hr ?_; (case hd => rfl); (case hg => rfl); (case hr => first | (go_simp; done) | (go_simp; rfl)); intro gb113 hg w4 hbox hb; have n0_ := Aside0.mk (below_step (by repeat (first | (with_reducible first | exact HB.out | apply below_alloc | apply pw_below_drewN | apply below_drew1) | exact HB.out)) hb); have n1_ := Aside0.mk (hbox); have n2_ := Aside0.mk ((by rw [hg]; exact (below_size (by repeat (first | (with_reducible first | exact HB.out | apply below_alloc | apply pw_below_drewN | apply below_drew1) | exact HB.out))) : w.heap.size ≤ gb113)); have n3_ := Aside0.mk ((by rw [hg]; exact (below_size (by repeat (first | (with_reducible first | exact HB.out | apply below_alloc | apply pw_below_drewN | apply below_drew1) | exact HB.out))) : w.heap.size ≤ gb113)); clear HB; have HB := n0_; have BK113 := n1_; have GW113 := n2_; have GE113 := n3_; clear n0_ n1_ n2_ n3_; clear hb hbox hg; have hcz5_0 : w4.cell? ⟨gb113, 0, none⟩ = some (.int .u32 a0_0) := (blk_cell BK113.out 0).trans rfl; have hcz5_1 : w4.cell? ⟨gb113, 1, none⟩ = some (.int .u8 a0_1) := (blk_cell BK113.out 1).trans rfl; have hfz5_0 := blk_frozen BK113.out 0; have hfz5_1 := blk_frozen BK113.out 1) | (go_at_call 26; (with_reducible refine (prefix_mask.calls a0_1 t114 _ A3.out).mono ?_); rintro e w' ⟨rfl, ⟨nd, rfl⟩⟩; (try first | exact ⟨rfl, _, World.drewN_drewN _ _ _⟩ | exact ⟨rfl, _, Eq.trans (World.drewN_drewN _ _ _) (congrArg (World.drewN _) (Nat.add_assoc _ _ _))⟩)) | (go_at_call 26; (refine calls_of_args (args' := #[.int .u8 a0_1]) ?_ ?_; focus (first | rfl | (simp; done) | (refine qa_arr ?_; (repeat' (first | rfl | refine qa_cons ?_ ?_ | refine qa_int ?_ | refine qa_agg ?_ | refine qa_arr ?_ | omega)); done)); (with_reducible refine (prefix_mask.calls a0_1 t114 _ A3.out).mono ?_)); rintro e w' ⟨rfl, ⟨nd, rfl⟩⟩; (try first | exact ⟨rfl, _, World.drewN_drewN _ _ _⟩ | exact ⟨rfl, _, Eq.trans (World.drewN_drewN _ _ _) (congrArg (World.drewN _) (Nat.add_assoc _ _ _))⟩)))
    repeat (go_quiet (first | ((with_reducible refine gate_dst (N := 1) rfl ?_); refine box_event ?hg (N := 1) ?hd (cs := #[.int .u32 a0_0, .int .u8 a0_1]) (t := 24) ?hr ?_; (case hd => rfl); (case hg => rfl); (case hr => first | (go_simp; done) | (go_simp; rfl)); intro gb113 hg w4 hbox hb; have n0_ := Aside0.mk (below_step (by repeat (first | (with_reducible first | exact HB.out | apply below_alloc | apply pw_below_drewN | apply below_drew1) | exact HB.out)) hb); have n1_ := Aside0.mk (hbox); have n2_ := Aside0.mk ((by rw [hg]; exact (below_size (by repeat (first | (with_reducible first | exact HB.out | apply below_alloc | apply pw_below_drewN | apply below_drew1) | exact HB.out))) : w.heap.size ≤ gb113)); have n3_ := Aside0.mk ((by rw [hg]; exact (below_size (by repeat (first | (with_reducible first | exact HB.out | apply below_alloc | apply pw_below_drewN | apply below_drew1) | exact HB.out))) : w.heap.size ≤ gb113)); clear HB; have HB := n0_; have BK113 := n1_; have GW113 := n2_; have GE113 := n3_; clear n0_ n1_ n2_ n3_; clear hb hbox hg; have hcz5_0 : w4.cell? ⟨gb113, 0, none⟩ = some (.int .u32 a0_0) := (blk_cell BK113.out 0).trans rfl; have hcz5_1 : w4.cell? ⟨gb113, 1, none⟩ = some (.int .u8 a0_1) := (blk_cell BK113.out 1).trans rfl; have hfz5_0 := blk_frozen BK113.out 0; have hfz5_1 := blk_frozen BK113.out 1) | (go_at_call 26; (with_reducible refine (prefix_mask.calls a0_1 t114 _ A3.out).mono ?_); rintro e w' ⟨rfl, ⟨nd, rfl⟩⟩; (try first | exact ⟨rfl, _, World.drewN_drewN _ _ _⟩ | exact ⟨rfl, _, Eq.trans (World.drewN_drewN _ _ _) (congrArg (World.drewN _) (Nat.add_assoc _ _ _))⟩)) | (go_at_call 26; (refine calls_of_args (args' := #[.int .u8 a0_1]) ?_ ?_; focus (first | rfl | (simp; done) | (refine qa_arr ?_; (repeat' (first | rfl | refine qa_cons ?_ ?_ | refine qa_int ?_ | refine qa_agg ?_ | refine qa_arr ?_ | omega)); done)); (with_reducible refine (prefix_mask.calls a0_1 t114 _ A3.out).mono ?_)); rintro e w' ⟨rfl, ⟨nd, rfl⟩⟩; (try first | exact ⟨rfl, _, World.drewN_drewN _ _ _⟩ | exact ⟨rfl, _, Eq.trans (World.drewN_drewN _ _ _) (congrArg (World.drewN _) (Nat.add_assoc _ _ _))⟩))); try go_wp2_with (first | ((with_reducible refine gate_dst (N := 1) rfl ?_); refine box_event ?hg (N := 1) ?hd (cs := #[.int .u32 a0_0, .int .u8 a0_1]) (t := 24) ?hr ?_; (case hd => rfl); (case hg => rfl); (case hr => first | (go_simp; done) | (go_simp; rfl)); intro gb113 hg w4 hbox hb; have n0_ := Aside0.mk (below_step (by repeat (first | (with_reducible first | exact HB.out | apply below_alloc | apply pw_below_drewN | apply below_drew1) | exact HB.out)) hb); have n1_ := Aside0.mk (hbox); have n2_ := Aside0.mk ((by rw [hg]; exact (below_size (by repeat (first | (with_reducible first | exact HB.out | apply below_alloc | apply pw_below_drewN | apply below_drew1) | exact HB.out))) : w.heap.size ≤ gb113)); have n3_ := Aside0.mk ((by rw [hg]; exact (below_size (by repeat (first | (with_reducible first | exact HB.out | apply below_alloc | apply pw_below_drewN | apply below_drew1) | exact HB.out))) : w.heap.size ≤ gb113)); clear HB; have HB := n0_; have BK113 := n1_; have GW113 := n2_; have GE113 := n3_; clear n0_ n1_ n2_ n3_; clear hb hbox hg; have hcz5_0 : w4.cell? ⟨gb113, 0, none⟩ = some (.int .u32 a0_0) := (blk_cell BK113.out 0).trans rfl; have hcz5_1 : w4.cell? ⟨gb113, 1, none⟩ = some (.int .u8 a0_1) := (blk_cell BK113.out 1).trans rfl; have hfz5_0 := blk_frozen BK113.out 0; have hfz5_1 := blk_frozen BK113.out 1) | (go_at_call 26; (with_reducible refine (prefix_mask.calls a0_1 t114 _ A3.out).mono ?_); rintro e w' ⟨rfl, ⟨nd, rfl⟩⟩; (try first | exact ⟨rfl, _, World.drewN_drewN _ _ _⟩ | exact ⟨rfl, _, Eq.trans (World.drewN_drewN _ _ _) (congrArg (World.drewN _) (Nat.add_assoc _ _ _))⟩)) | (go_at_call 26; (refine calls_of_args (args' := #[.int .u8 a0_1]) ?_ ?_; focus (first | rfl | (simp; done) | (refine qa_arr ?_; (repeat' (first | rfl | refine qa_cons ?_ ?_ | refine qa_int ?_ | refine qa_agg ?_ | refine qa_arr ?_ | omega)); done)); (with_reducible refine (prefix_mask.calls a0_1 t114 _ A3.out).mono ?_)); rintro e w' ⟨rfl, ⟨nd, rfl⟩⟩; (try first | exact ⟨rfl, _, World.drewN_drewN _ _ _⟩ | exact ⟨rfl, _, Eq.trans (World.drewN_drewN _ _ _) (congrArg (World.drewN _) (Nat.add_assoc _ _ _))⟩))))
    go_ret
    exact ⟨by first | rfl | (simp [errW_none, errW_some] <;> rfl) | (simp [*, errW_none, errW_some] <;> rfl), by repeat (first | (with_reducible first | exact HB.out | apply below_alloc | apply pw_below_drewN | apply below_drew1 | refine below_set ?_ GE113.out) | exact HB.out)⟩
  · rw [if_neg c2] at H
    have c2b0 : decide (a0_1 ≤ 32) = false := decide_eq_false c2
    clear c2
    obtain rfl := Option.some.inj H
    simp only [Option.some.injEq, Prod.mk.injEq] at H
    obtain ⟨rfl⟩ := H
    go_enter Tryd.func13, Tryd.ntmps13
    go_wp2_with (first | ((with_reducible refine gate_dst (N := 1) rfl ?_); refine box_event ?hg (N := 1) ?hd (cs := #[.int .u32 a0_0, .int .u8 a0_1]) (t := 24) ?hr ?_; (case hd => rfl); (case hg => rfl); (case hr => first | (go_simp; done) | (go_simp; rfl)); intro gb113 hg w6 hbox hb; have n0_ := Aside0.mk (below_step (by repeat (first | (with_reducible first | exact HB.out | apply below_alloc | apply pw_below_drewN | apply below_drew1) | exact HB.out)) hb); have n1_ := Aside0.mk (hbox); have n2_ := Aside0.mk ((by rw [hg]; exact (below_size (by repeat (first | (with_reducible first | exact HB.out | apply below_alloc | apply pw_below_drewN | apply below_drew1) | exact HB.out))) : w.heap.size ≤ gb113)); have n3_ := Aside0.mk ((by rw [hg]; exact (below_size (by repeat (first | (with_reducible first | exact HB.out | apply below_alloc | apply pw_below_drewN | apply below_drew1) | exact HB.out))) : w.heap.size ≤ gb113)); clear HB; have HB := n0_; have BK113 := n1_; have GW113 := n2_; have GE113 := n3_; clear n0_ n1_ n2_ n3_; clear hb hbox hg; have hcz7_0 : w6.cell? ⟨gb113, 0, none⟩ = some (.int .u32 a0_0) := (blk_cell BK113.out 0).trans rfl; have hcz7_1 : w6.cell? ⟨gb113, 1, none⟩ = some (.int .u8 a0_1) := (blk_cell BK113.out 1).trans rfl; have hfz7_0 := blk_frozen BK113.out 0; have hfz7_1 := blk_frozen BK113.out 1))
    repeat (go_quiet (first | ((with_reducible refine gate_dst (N := 1) rfl ?_); refine box_event ?hg (N := 1) ?hd (cs := #[.int .u32 a0_0, .int .u8 a0_1]) (t := 24) ?hr ?_; (case hd => rfl); (case hg => rfl); (case hr => first | (go_simp; done) | (go_simp; rfl)); intro gb113 hg w6 hbox hb; have n0_ := Aside0.mk (below_step (by repeat (first | (with_reducible first | exact HB.out | apply below_alloc | apply pw_below_drewN | apply below_drew1) | exact HB.out)) hb); have n1_ := Aside0.mk (hbox); have n2_ := Aside0.mk ((by rw [hg]; exact (below_size (by repeat (first | (with_reducible first | exact HB.out | apply below_alloc | apply pw_below_drewN | apply below_drew1) | exact HB.out))) : w.heap.size ≤ gb113)); have n3_ := Aside0.mk ((by rw [hg]; exact (below_size (by repeat (first | (with_reducible first | exact HB.out | apply below_alloc | apply pw_below_drewN | apply below_drew1) | exact HB.out))) : w.heap.size ≤ gb113)); clear HB; have HB := n0_; have BK113 := n1_; have GW113 := n2_; have GE113 := n3_; clear n0_ n1_ n2_ n3_; clear hb hbox hg; have hcz7_0 : w6.cell? ⟨gb113, 0, none⟩ = some (.int .u32 a0_0) := (blk_cell BK113.out 0).trans rfl; have hcz7_1 : w6.cell? ⟨gb113, 1, none⟩ = some (.int .u8 a0_1) := (blk_cell BK113.out 1).trans rfl; have hfz7_0 := blk_frozen BK113.out 0; have hfz7_1 := blk_frozen BK113.out 1)); try go_wp2_with (first | ((with_reducible refine gate_dst (N := 1) rfl ?_); refine box_event ?hg (N := 1) ?hd (cs := #[.int .u32 a0_0, .int .u8 a0_1]) (t := 24) ?hr ?_; (case hd => rfl); (case hg => rfl); (case hr => first | (go_simp; done) | (go_simp; rfl)); intro gb113 hg w6 hbox hb; have n0_ := Aside0.mk (below_step (by repeat (first | (with_reducible first | exact HB.out | apply below_alloc | apply pw_below_drewN | apply below_drew1) | exact HB.out)) hb); have n1_ := Aside0.mk (hbox); have n2_ := Aside0.mk ((by rw [hg]; exact (below_size (by repeat (first | (with_reducible first | exact HB.out | apply below_alloc | apply pw_below_drewN | apply below_drew1) | exact HB.out))) : w.heap.size ≤ gb113)); have n3_ := Aside0.mk ((by rw [hg]; exact (below_size (by repeat (first | (with_reducible first | exact HB.out | apply below_alloc | apply pw_below_drewN | apply below_drew1) | exact HB.out))) : w.heap.size ≤ gb113)); clear HB; have HB := n0_; have BK113 := n1_; have GW113 := n2_; have GE113 := n3_; clear n0_ n1_ n2_ n3_; clear hb hbox hg; have hcz7_0 : w6.cell? ⟨gb113, 0, none⟩ = some (.int .u32 a0_0) := (blk_cell BK113.out 0).trans rfl; have hcz7_1 : w6.cell? ⟨gb113, 1, none⟩ = some (.int .u8 a0_1) := (blk_cell BK113.out 1).trans rfl; have hfz7_0 := blk_frozen BK113.out 0; have hfz7_1 := blk_frozen BK113.out 1)))
    go_ret
    exact ⟨by first | rfl | (simp [errW_none, errW_some] <;> rfl) | (simp [*, errW_none, errW_some] <;> rfl), by repeat (first | (with_reducible first | exact HB.out | apply below_alloc | apply pw_below_drewN | apply below_drew1 | refine below_set ?_ GE113.out) | exact HB.out)⟩

end Go.Proofs.YtfjdijphpcddnaaDoor.QPrefixParses
