-- Lines by a program of this session, for this claim.
import Derived.Test.YtkdjpkgaknfdeaaQLinkPlaysx0
import Derived.Test.YtkdjpkgaknfdeaaQLinkPlaysx1
import Derived.Test.YtkdjpkgaknfdeaaQLinkPlaysx2
namespace Go.Proofs.Ytkdjpkgaknfdeaa.QLinkPlays
open Go.RowKit Go.Proofs.YtkdjpkgaknfdeaaW.PrintWords Go.Proofs.YtkdjpkgaknfdeaaW.PrintLast Go.Proofs.YtkdjpkgaknfdeaaW.PrintMore
attribute [local go_sem] max2_int min2_int max_two min_two max_three min_three max_four min_four   -- for this text's walks alone
set_option linter.unusedVariables false
set_option linter.unusedSimpArgs false

set_option maxHeartbeats 8000000 in
set_option maxRecDepth 100000 in
theorem milestonelaw14_LinkPlays.calls (k : Nat) (a0 : Int) (A1 : Option Addr) (c1 : Nat) (l1 : List (S33)) (r : Bool) (w : World) (hr1 : Kd.C k33 w A1 l1.length l1) (hc1 : l1.length ≤ c1) (h : milestonelaw14_LinkPlays.f k a0 l1 = some r) (hT : r = true) :
    Calls Try.prog 4 #[.int .u8 a0, .slice A1 l1.length c1] w fun e w' => e = .returned (.bool r) ∧ Below w.heap.size w w' := by
  have HT := Aside0.mk hT
  clear hT
  have hu33 := Try.underlying33
  have HR1 := Aside0.mk hr1
  have HC1 := Aside0.mk hc1
  clear hr1 hc1
  have HB := Aside0.mk (Below.refl w.heap.size w)
  have H : ((milestonelaw14_awake.f).bind fun t142 => (if t142 = true then (milestonelaw14_LinkPlays.j0 k a0 l1 (decide ((l1.length : Int) > 100))) else (milestonelaw14_LinkPlays.j0 k a0 l1 true))) = some r := h
  clear h
  have HC3 := Aside0.mk H
  clear H
  go_enter Try.func4, Try.ntmps4
  go_upto_region 1 with (fail)
  go_cut [35] (fun v35 wc => ∃ (kq : Nat) (x35_2 : Bool), v35 = .bool x35_2 ∧ Aside0 (milestonelaw14_LinkPlays.j0 kq a0 l1 x35_2 = some r) ∧ Aside0 (kq ≤ k) ∧ Aside0 (Below w.heap.size w wc))
  case first =>
    have H := HC3.out
    clear HC3
    replace H := Option.bind_eq_some_iff.mp H
    obtain ⟨t142, A40, H⟩ := H
    replace H : (if t142 = true then (milestonelaw14_LinkPlays.j0 k a0 l1 (decide ((l1.length : Int) > 100))) else (milestonelaw14_LinkPlays.j0 k a0 l1 true)) = some r := H
    have A4 := Aside0.mk A40
    clear A40
    by_cases c5 : t142 = true
    · subst c5
      have H1 : (milestonelaw14_LinkPlays.j0 k a0 l1 (decide ((l1.length : Int) > 100))) = some r := by rw [if_pos rfl] at H; exact H
      clear H
      have H := H1
      clear H1
      as_aux_lemma =>
        have H' := Aside0.mk H
        clear H
        go_wp2_with (first | ((with_reducible refine gate_callee (f := 8) rfl ?_); refine goesL_ (some 29) rfl rfl Try.func8 (by kernel_rfl) rfl #[] rfl (by (try simp only [List.map_toArray, List.map_cons, List.map_nil]); first | done | rfl | (simp only [List.length_drop, List.length_take]; rfl) | (simp; done) | (refine qa_arr ?_; (repeat' (first | rfl | refine qa_cons ?_ ?_ | refine qa_int ?_ | refine qa_agg ?_ | refine qa_arr ?_ | omega)); done)) ?_; (with_reducible refine (milestonelaw14_awake.calls  true _ A4.out).mono ?_); rintro e w6 ⟨rfl, hb⟩; refine ⟨_, rfl, ?_⟩; have n0_ := Aside0.mk (below_step (by repeat (first | (with_reducible first | exact HB.out | apply below_alloc | apply pw_below_drewN | apply below_drew1) | exact HB.out)) hb); clear HB; have HB := n0_; clear n0_; (try clear hb); (try clear hb2); (try clear hk); (try clear hi)))
        go_meet
        case rel => exact ⟨_, (decide ((l1.length : Int) > 100)), (by first | rfl | (simp; done) | (simp [*]; done) | (refine qa_int ?_; omega) | (refine qa_int ?_; simp <;> omega)), H', ⟨by first | omega | exact Nat.le_refl _⟩, ⟨by repeat (first | (with_reducible first | exact HB.out | apply below_alloc | apply pw_below_drewN | apply below_drew1) | exact HB.out)⟩⟩
    · replace c5 := Bool.eq_false_iff.mpr c5
      subst c5
      have H1 : (milestonelaw14_LinkPlays.j0 k a0 l1 true) = some r := by rw [if_neg (show ¬ (false = true) by decide)] at H; exact H
      clear H
      have H := H1
      clear H1
      as_aux_lemma =>
        have H' := Aside0.mk H
        clear H
        go_wp2_with (first | ((with_reducible refine gate_callee (f := 8) rfl ?_); refine goesL_ (some 29) rfl rfl Try.func8 (by kernel_rfl) rfl #[] rfl (by (try simp only [List.map_toArray, List.map_cons, List.map_nil]); first | done | rfl | (simp only [List.length_drop, List.length_take]; rfl) | (simp; done) | (refine qa_arr ?_; (repeat' (first | rfl | refine qa_cons ?_ ?_ | refine qa_int ?_ | refine qa_agg ?_ | refine qa_arr ?_ | omega)); done)) ?_; (with_reducible refine (milestonelaw14_awake.calls  false _ A4.out).mono ?_); rintro e w7 ⟨rfl, hb⟩; refine ⟨_, rfl, ?_⟩; have n0_ := Aside0.mk (below_step (by repeat (first | (with_reducible first | exact HB.out | apply below_alloc | apply pw_below_drewN | apply below_drew1) | exact HB.out)) hb); clear HB; have HB := n0_; clear n0_; (try clear hb); (try clear hb2); (try clear hk); (try clear hi)))
        go_meet
        case rel => exact ⟨_, (true), (by first | rfl | (simp; done) | (simp [*]; done) | (refine qa_int ?_; omega) | (refine qa_int ?_; simp <;> omega)), H', ⟨by first | omega | exact Nat.le_refl _⟩, ⟨by repeat (first | (with_reducible first | exact HB.out | apply below_alloc | apply pw_below_drewN | apply below_drew1) | exact HB.out)⟩⟩
  case rest =>
    clear HC3
    try clear c1
    try clear p2
    try clear c4
    try clear c5
    obtain ⟨kq, x35_2, rfl, HA, HJ2, HB⟩ := hcut
    cases kq with
    | zero => exact absurd HA.out (by simp [milestonelaw14_LinkPlays.j0])
    | succ kj2 =>
      have H := HA.out
      clear HA
      simp only [milestonelaw14_LinkPlays.j0] at H
      by_cases c8 : x35_2 = true
      · subst c8
        have H1 : ((milestonelaw14_awake.f).bind fun t143 => (some t143)) = some r := by rw [if_pos rfl] at H; exact H
        clear H
        have H := H1
        clear H1
        replace H := Option.bind_eq_some_iff.mp H
        obtain ⟨t143, A90, H⟩ := H
        replace H : (some t143) = some r := H
        have A9 := Aside0.mk A90
        clear A90
        as_aux_lemma =>
          obtain rfl := Option.some.inj H
          simp only [Option.some.injEq, Prod.mk.injEq] at H
          obtain ⟨rfl⟩ := H
          go_wp2_with (first | ((with_reducible refine gate_callee (f := 8) rfl ?_); refine goesL_ (some 36) rfl rfl Try.func8 (by kernel_rfl) rfl #[] rfl (by (try simp only [List.map_toArray, List.map_cons, List.map_nil]); first | done | rfl | (simp only [List.length_drop, List.length_take]; rfl) | (simp; done) | (refine qa_arr ?_; (repeat' (first | rfl | refine qa_cons ?_ ?_ | refine qa_int ?_ | refine qa_agg ?_ | refine qa_arr ?_ | omega)); done)) ?_; (with_reducible refine (milestonelaw14_awake.calls  t143 _ A9.out).mono ?_); rintro e w10 ⟨rfl, hb⟩; refine ⟨_, rfl, ?_⟩; have n0_ := Aside0.mk (below_step (by repeat (first | (with_reducible first | exact HB.out | apply below_alloc | apply pw_below_drewN | apply below_drew1) | exact HB.out)) hb); clear HB; have HB := n0_; clear n0_; (try clear hb); (try clear hb2); (try clear hk); (try clear hi)))
          go_ret
          exact ⟨by first | rfl | (simp [errW_none, errW_some] <;> rfl) | (simp [*, errW_none, errW_some] <;> rfl), by repeat (first | (with_reducible first | exact HB.out | apply below_alloc | apply pw_below_drewN | apply below_drew1) | exact HB.out)⟩
      · replace c8 := Bool.eq_false_iff.mpr c8
        subst c8
        have H1 : ((link_New.f (IntKind.u64.wrap (a0))).bind fun bt144 => (if 16 ≤ 281474976710656 then (milestonelaw14_LinkPlays.l0 kj2 l1 (IntKind.u64.wrap (a0)) (List.replicate 16 false) 0 (IntKind.u64.wrap ((IntKind.u64.wrap (a0)) + 6)) 65535 0 0 bt144.1 bt144.2.1 bt144.2.2.1 bt144.2.2.2.1 bt144.2.2.2.2) else (none))) = some r := by rw [if_neg (show ¬ (false = true) by decide)] at H; exact H
        clear H
        have H := H1
        clear H1
        replace H := Option.bind_eq_some_iff.mp H
        obtain ⟨⟨t144, t145, t146, t147, t148⟩, A110, H⟩ := H
        replace H : (if 16 ≤ 281474976710656 then (milestonelaw14_LinkPlays.l0 kj2 l1 (IntKind.u64.wrap (a0)) (List.replicate 16 false) 0 (IntKind.u64.wrap ((IntKind.u64.wrap (a0)) + 6)) 65535 0 0 t144 t145 t146 t147 t148) else (none)) = some r := H
        have A11 := Aside0.mk A110
        clear A110
        by_cases c12 : 16 ≤ 281474976710656
        · rw [if_pos c12] at H
          have c12b0 := eq_true c12
          have c12b1 : decide (16 ≤ 281474976710656) = true := decide_eq_true c12
          clear c12
          obtain ⟨y150, hy150⟩ : ∃ y_ : List Bool, y_ = (List.replicate 16 false) := ⟨_, rfl⟩
          replace H : (milestonelaw14_LinkPlays.l0 kj2 l1 (IntKind.u64.wrap (a0)) y150 0 (IntKind.u64.wrap ((IntKind.u64.wrap (a0)) + 6)) 65535 0 0 t144 t145 t146 t147 t148) = some r := by first | (rw [hy150]; with_reducible exact H) | (have H2_ := (Option.bind_some _ _).symm.trans H; rw [hy150]; with_reducible exact H2_) | (have H2_ := (Option.bind_some _ _).symm.trans H; with_reducible exact H2_) | with_reducible exact H | (rw [hy150]; exact H) | exact H
          have Ny150 := Aside0.mk hy150
          clear hy150
          have H' := Aside0.mk H
          clear H
          go_wp2_with (first | ((with_reducible refine gate_callee (f := 9) rfl ?_); refine goesL_ (some 40) rfl rfl Try.func9 (by kernel_rfl) rfl #[.int .u64 (IntKind.u64.wrap (a0))] rfl (by (try simp only [List.map_toArray, List.map_cons, List.map_nil]); first | done | rfl | (simp only [List.length_drop, List.length_take]; rfl) | (simp; done) | (refine qa_arr ?_; (repeat' (first | rfl | refine qa_cons ?_ ?_ | refine qa_int ?_ | refine qa_agg ?_ | refine qa_arr ?_ | omega)); done)) ?_; (with_reducible refine (link_New.calls (IntKind.u64.wrap (a0)) t144 t145 t146 t147 t148 w _ ?side1 A11.out).mono ?_); (case side1 => repeat (first | (with_reducible first | exact HB.out | apply below_alloc | apply pw_below_drewN | apply below_drew1) | exact HB.out)); rintro e w13 ⟨g149, rfl, hi, hb, hb2⟩; refine ⟨_, rfl, ?_⟩; have n0_ := Aside0.mk (hb); have n1_ := Aside0.mk (hi); clear HB; have HB := n0_; have HI149 := n1_; clear n0_ n1_; (try clear hb); (try clear hb2); (try clear hk); (try clear hi)) | ((with_reducible refine gate_dst (N := 41) rfl ?_); (try (refine gate_guard (by rfl) ?_; dsimp only)); refine Kd.R_make Kd.bool _ 4 rfl (N := 41) rfl 22 _ _ rfl 16 rfl rfl Try.underlying22 (.bool false) 1 info4 rfl (by decide) (by omega) false (ok := fun _ => True) (okp := fun _ => True) rfl (fun _ hk => hk) trivial (by omega) (by omega) (Below.refl _ _) (Nat.le_refl _) ?_; intro v151 w14 ho15 hb hg_ hnew_; clear hg_ hnew_; (first | rw [← Ny150.out] at ho15 | (simp only [Int.reduceToNat] at ho15; rw [← Ny150.out] at ho15)); have n0_ := Aside0.mk (Kd.R_lower ho15 (below_size (by repeat (first | (with_reducible first | exact HB.out | apply below_alloc | apply pw_below_drewN | apply below_drew1 | refine below_set ?_ (IsS41.ge HI149.out)) | exact HB.out)))); have n1_ := Aside0.mk (IsS41.below (by repeat (first | (with_reducible first | exact HI149.out | apply IsS41.alloc | apply IsS41.drewN | apply IsS41.drew | apply IsS41.set_0 | apply IsS41.set_1 | apply IsS41.set_2 | apply IsS41.set_3 | apply IsS41.set_4) | exact HI149.out)) hb); have n2_ := Aside0.mk (below_step (by repeat (first | (with_reducible first | exact HB.out | apply below_alloc | apply pw_below_drewN | apply below_drew1 | refine below_set ?_ (IsS41.ge HI149.out)) | exact HB.out)) hb); clear HI149; clear HB; have HO152 := n0_; have HI149 := n1_; have HB := n2_; clear n0_ n1_ n2_; clear hb ho15))
          go_loopg [5, 7, 8, 9, 10, 11, 12] kj2 (fun kq v5 v7 v8 v9 v10 v11 v12 w' => ∃ (x5_2 : Int) (x7_2 : List Bool) (x8_2 : Int) (x9_2 : Int) (x10_2 : Int) (x11_2 : Int) (x12_2 : Int) (x150000_2 : Int) (x150001_2 : Int) (x150002_2 : Int) (x150003_2 : Int) (x150004_2 : Int), v5 = .int .u64 x5_2 ∧ v8 = .int .u64 x8_2 ∧ v9 = .int .u64 x9_2 ∧ v10 = .int .u16 x10_2 ∧ v11 = .int .u64 x11_2 ∧ v12 = .int .i64 x12_2 ∧ Aside0 (milestonelaw14_LinkPlays.l0 kq l1 x5_2 x7_2 x8_2 x9_2 x10_2 x11_2 x12_2 x150000_2 x150001_2 x150002_2 x150003_2 x150004_2 = some r) ∧ Aside0 (kq ≤ kj2) ∧ Aside0 (Kd.R Kd.bool 4 w' w.heap.size (fun _ => True) v7 x7_2) ∧ Aside0 (IsS41 w w' g149 x150000_2 x150001_2 x150002_2 x150003_2 x150004_2) ∧ Aside0 (Below w.heap.size w w'))
          case atStart => exact ⟨(IntKind.u64.wrap (a0)), (y150), (0), (IntKind.u64.wrap ((IntKind.u64.wrap (a0)) + 6)), (65535), (0), (0), (t144), (t145), (t146), (t147), (t148), (by first | rfl | (simp; done) | (simp [*]; done) | (refine qa_int ?_; omega) | (refine qa_int ?_; simp <;> omega)), (by first | rfl | (simp; done) | (simp [*]; done) | (refine qa_int ?_; omega) | (refine qa_int ?_; simp <;> omega)), (by first | rfl | (simp; done) | (simp [*]; done) | (refine qa_int ?_; omega) | (refine qa_int ?_; simp <;> omega)), (by first | rfl | (simp; done) | (simp [*]; done) | (refine qa_int ?_; omega) | (refine qa_int ?_; simp <;> omega)), (by first | rfl | (simp; done) | (simp [*]; done) | (refine qa_int ?_; omega) | (refine qa_int ?_; simp <;> omega)), (by first | rfl | (simp; done) | (simp [*]; done) | (refine qa_int ?_; omega) | (refine qa_int ?_; simp <;> omega)), H', ⟨Nat.le_refl _⟩, ⟨by (with_reducible repeat (first | apply Kd.R_alloc | apply Kd.R_drewN | apply Kd.R_drew)); exact HO152.out⟩, ⟨by repeat (first | (with_reducible first | exact HI149.out | apply IsS41.alloc | apply IsS41.drewN | apply IsS41.drew | apply IsS41.set_0 | apply IsS41.set_1 | apply IsS41.set_2 | apply IsS41.set_3 | apply IsS41.set_4) | exact HI149.out)⟩, ⟨by repeat (first | (with_reducible first | exact HB.out | apply below_alloc | apply pw_below_drewN | apply below_drew1 | refine below_set ?_ (IsS41.ge HI149.out)) | exact HB.out)⟩⟩
          case round =>
            clear H'
            try clear c1
            try clear p2
            try clear c4
            try clear c5
            try clear c8
            try clear c9
            try clear c12
            try clear c12b0
            try clear c12b1
            try clear p2
            obtain ⟨x5_2, x7_2, x8_2, x9_2, x10_2, x11_2, x12_2, x150000_2, x150001_2, x150002_2, x150003_2, x150004_2, rfl, rfl, rfl, rfl, rfl, rfl, HA, HK2, HO_7, HI149, HB⟩ := hrel
            cases gk with
            | zero => exact absurd HA.out (by simp [milestonelaw14_LinkPlays.l0])
            | succ k2 =>
              have H := HA.out
              clear HA
              simp only [milestonelaw14_LinkPlays.l0] at H
              by_cases c16 : x12_2 < (l1.length : Int)
              · rw [if_pos c16] at H
                have c16b0 : decide (x12_2 < (l1.length : Int)) = true := decide_eq_true c16
                clear c16
                by_cases c17 : 0 ≤ x12_2
                · rw [if_pos c17] at H
                  have c17b0 : decide (0 ≤ x12_2) = true := decide_eq_true c17
                  clear c17
                  have HC18 := Aside0.mk H
                  clear H
                  have p153 : 0 ≤ (x12_2 : Int) := of_decide_eq_true (by first | (with_reducible assumption) | assumption)
                  have q153 : x12_2 < (l1.length : Int) := of_decide_eq_true (by first | (with_reducible assumption) | assumption)
                  obtain ⟨ad153, e153, hx153_0, hx153_1, hx153_2⟩ := at_T33 HR1.out x12_2 p153 q153
                  cases e153
                  replace hx153_0 := (HB.out.cell (World.block_lt_of_cell? w _ hx153_0)).trans hx153_0
                  replace hx153_1 := (HB.out.cell (World.block_lt_of_cell? w _ hx153_1)).trans hx153_1
                  replace hx153_2 := (HB.out.cell (World.block_lt_of_cell? w _ hx153_2)).trans hx153_2
                  replace p153 := eq_true p153
                  replace q153 := eq_true q153
                  go_upto_block 2 with (first | ((with_reducible refine gate_dst (N := 13) rfl ?_); (try (refine gate_guard (by rfl) ?_; dsimp only)); refine box_event ?hg (N := 13) ?hd (cs := #[.int .u8 0, .int .u8 0, .int .u16 0]) (t := 33) ?hr ?_; (case hd => rfl); (case hg => rfl); (case hr => first | (go_simp; done) | (go_simp; rfl)); intro gb154 hg w19 hbox hb; have n0_ := Aside0.mk (Kd.R_below (by (with_reducible repeat (first | apply Kd.R_alloc | apply Kd.R_drewN | apply Kd.R_drew)); exact HO_7.out) hb); have n1_ := Aside0.mk (IsS41.below (by repeat (first | (with_reducible first | exact HI149.out | apply IsS41.alloc | apply IsS41.drewN | apply IsS41.drew | apply IsS41.set_0 | apply IsS41.set_1 | apply IsS41.set_2 | apply IsS41.set_3 | apply IsS41.set_4) | exact HI149.out)) hb); have n2_ := Aside0.mk (below_step (by repeat (first | (with_reducible first | exact HB.out | apply below_alloc | apply pw_below_drewN | apply below_drew1 | refine below_set ?_ (IsS41.ge HI149.out)) | exact HB.out)) hb); have n3_ := Aside0.mk (hbox); have n4_ := Aside0.mk ((by rw [hg]; exact (below_size (by repeat (first | (with_reducible first | exact HB.out | apply below_alloc | apply pw_below_drewN | apply below_drew1 | refine below_set ?_ (IsS41.ge HI149.out)) | exact HB.out))) : w.heap.size ≤ gb154)); have n5_ := Aside0.mk ((by rw [hg]; exact (below_size (by repeat (first | (with_reducible first | exact HB.out | apply below_alloc | apply pw_below_drewN | apply below_drew1 | refine below_set ?_ (IsS41.ge HI149.out)) | exact HB.out))) : w.heap.size ≤ gb154)); have n6_ := Aside0.mk ((by rw [hg]; exact Nat.ne_of_lt (IsS41.lt (show IsS41 w _ g149 x150000_2 x150001_2 x150002_2 x150003_2 x150004_2 from by repeat (first | (with_reducible first | exact HI149.out | apply IsS41.alloc | apply IsS41.drewN | apply IsS41.drew | apply IsS41.set_0 | apply IsS41.set_1 | apply IsS41.set_2 | apply IsS41.set_3 | apply IsS41.set_4) | exact HI149.out))) : g149 ≠ gb154)); have n7_ := Aside0.mk ((by rw [hg]; exact Nat.ne_of_gt (IsS41.lt (show IsS41 w _ g149 x150000_2 x150001_2 x150002_2 x150003_2 x150004_2 from by repeat (first | (with_reducible first | exact HI149.out | apply IsS41.alloc | apply IsS41.drewN | apply IsS41.drew | apply IsS41.set_0 | apply IsS41.set_1 | apply IsS41.set_2 | apply IsS41.set_3 | apply IsS41.set_4) | exact HI149.out))) : gb154 ≠ g149)); clear HO_7; clear HI149; clear HB; have HO_7 := n0_; have HI149 := n1_; have HB := n2_; have BK154 := n3_; have GW154 := n4_; have GE154 := n5_; have NB149_154 := n6_; have NB154_149 := n7_; clear n0_ n1_ n2_ n3_ n4_ n5_ n6_ n7_; clear hb hbox hg; have hnb20 := NB154_149.out; have hnc20 := NB149_154.out; have hcz21_0 : w19.cell? ⟨gb154, 0, none⟩ = some (.int .u8 0) := (blk_cell BK154.out 0).trans rfl; have hcz21_1 : w19.cell? ⟨gb154, 1, none⟩ = some (.int .u8 0) := (blk_cell BK154.out 1).trans rfl; have hcz21_2 : w19.cell? ⟨gb154, 2, none⟩ = some (.int .u16 0) := (blk_cell BK154.out 2).trans rfl; have hfz21_0 := blk_frozen BK154.out 0; have hfz21_1 := blk_frozen BK154.out 1; have hfz21_2 := blk_frozen BK154.out 2))
                  (try simp only [Act.put, List.setIfInBounds_toArray, List.set_cons_zero, List.set_cons_succ])
                  go_cut [5, 7, 8, 9, 10, 11] (fun v5 v7 v8 v9 v10 v11 wc => ∃ (kq : Nat) (x5_17 : Int) (x7_17 : List Bool) (x8_17 : Int) (x9_17 : Int) (x10_17 : Int) (x11_17 : Int) (x150000_17 : Int) (x150001_17 : Int) (x150002_17 : Int) (x150003_17 : Int) (x150004_17 : Int), v5 = .int .u64 x5_17 ∧ v8 = .int .u64 x8_17 ∧ v9 = .int .u64 x9_17 ∧ v10 = .int .u16 x10_17 ∧ v11 = .int .u64 x11_17 ∧ Aside0 (milestonelaw14_LinkPlays.j8 kq l1 x5_17 x7_17 x8_17 x9_17 x10_17 x11_17 x12_2 x150000_17 x150001_17 x150002_17 x150003_17 x150004_17 = some r) ∧ Aside0 (kq ≤ k2) ∧ Aside0 (Kd.R Kd.bool 4 wc w.heap.size (fun _ => True) v7 x7_17) ∧ Aside0 (wc.heap[gb154]? = some (.cells #[.int .u8 ((rd_T33 l1 x12_2).f0), .int .u8 ((rd_T33 l1 x12_2).f1), .int .u16 ((rd_T33 l1 x12_2).f2)] 33 (0, 0))) ∧ Aside0 (IsS41 w wc g149 x150000_17 x150001_17 x150002_17 x150003_17 x150004_17) ∧ Aside0 (Below w.heap.size w wc))
                  case first =>
                    have H := HC18.out
                    clear HC18
                    by_cases c22 : (Int.tmod ((rd_T33 l1 x12_2).f0) 12) < 4
                    · rw [if_pos c22] at H
                      have c22b0 : decide ((Int.tmod ((rd_T33 l1 x12_2).f0) 12) < 4) = true := decide_eq_true c22
                      clear c22
                      (first | rw [c22b0] | (simp only [i64_w, i32_w]; rw [c22b0]) | skip)
                      have HC23 := Aside0.mk H
                      clear H
                      have hnb24 := NB154_149.out
                      have hnc24 := NB149_154.out
                      have hcz25_0 : w19.cell? ⟨gb154, 0, none⟩ = some (.int .u8 0) := (blk_cell BK154.out 0).trans rfl
                      have hcz25_1 : w19.cell? ⟨gb154, 1, none⟩ = some (.int .u8 0) := (blk_cell BK154.out 1).trans rfl
                      have hcz25_2 : w19.cell? ⟨gb154, 2, none⟩ = some (.int .u16 0) := (blk_cell BK154.out 2).trans rfl
                      have hfz25_0 := blk_frozen BK154.out 0
                      have hfz25_1 := blk_frozen BK154.out 1
                      have hfz25_2 := blk_frozen BK154.out 2
                      go_upto_if 110 with (fail)
                      go_cut [15] (fun v15 wc => ∃ (kq : Nat) (x15_22 : Int), v15 = .int .u64 x15_22 ∧ Aside0 (milestonelaw14_LinkPlays.j2 kq l1 x5_2 x7_2 x8_2 x10_2 x11_2 x12_2 x15_22 x150000_2 x150001_2 x150002_2 x150003_2 x150004_2 = some r) ∧ Aside0 (kq ≤ k2) ∧ Aside0 (Kd.R Kd.bool 4 wc w.heap.size (fun _ => True) u7 x7_2) ∧ Aside0 (wc.heap[gb154]? = some (.cells #[.int .u8 ((rd_T33 l1 x12_2).f0), .int .u8 ((rd_T33 l1 x12_2).f1), .int .u16 ((rd_T33 l1 x12_2).f2)] 33 (0, 0))) ∧ Aside0 (IsS41 w wc g149 x150000_2 x150001_2 x150002_2 x150003_2 x150004_2) ∧ Aside0 (Below w.heap.size w wc))
                      case first =>
                        have H := HC23.out
                        clear HC23
                        by_cases c26 : (Int.tmod ((rd_T33 l1 x12_2).f0) 12) = 3
                        · rw [if_pos c26] at H
                          have c26b0 : ((Int.tmod ((rd_T33 l1 x12_2).f0) 12) == 3) = true := beq_iff_eq.mpr c26
                          have c26b1 : ((Int.tmod ((rd_T33 l1 x12_2).f0) 12) != 3) = false := bne_eq_false_iff_eq.mpr c26
                          clear c26
                          (first | rw [c26b0] | (simp only [i64_w, i32_w]; rw [c26b0]) | skip)
                          as_aux_lemma =>
                            have H' := Aside0.mk H
                            clear H
                            have hnb27 := NB154_149.out
                            have hnc27 := NB149_154.out
                            have hcz28_0 : w19.cell? ⟨gb154, 0, none⟩ = some (.int .u8 0) := (blk_cell BK154.out 0).trans rfl
                            have hcz28_1 : w19.cell? ⟨gb154, 1, none⟩ = some (.int .u8 0) := (blk_cell BK154.out 1).trans rfl
                            have hcz28_2 : w19.cell? ⟨gb154, 2, none⟩ = some (.int .u16 0) := (blk_cell BK154.out 2).trans rfl
                            have hfz28_0 := blk_frozen BK154.out 0
                            have hfz28_1 := blk_frozen BK154.out 1
                            have hfz28_2 := blk_frozen BK154.out 2
                            go_wp2
                            go_meet
                            case rel => exact ⟨_, (IntKind.u64.wrap ((rd_T33 l1 x12_2).f1)), (by first | rfl | (simp; done) | (simp [*]; done) | (refine qa_int ?_; omega) | (refine qa_int ?_; simp <;> omega)), H', ⟨by have := HJ2.out; have := HK2.out; first | omega | exact Nat.le_refl _⟩, ⟨by (with_reducible repeat (first | apply Kd.R_alloc | apply Kd.R_drewN | apply Kd.R_drew)); exact Kd.R_mono (Kd.R_far (p := ⟨gb154, 2, none⟩) (Kd.R_far (p := ⟨gb154, 1, none⟩) (Kd.R_far (p := ⟨gb154, 0, none⟩) (Kd.R_types HO_7.out BK154.out (by decide)) (fun _ hk => hk.2) (.int .u8 ((rd_T33 l1 x12_2).f0))) (fun _ hk => hk.2) (.int .u8 ((rd_T33 l1 x12_2).f1))) (fun _ hk => hk.2) (.int .u16 ((rd_T33 l1 x12_2).f2))) (fun _ hk => trivial)⟩, ⟨by (with_reducible repeat (first | refine blk_drewN ?_ _ | refine blk_drew ?_ | refine blk_alloc ?_ _)); refine blk_put (cs := #[.int .u8 ((rd_T33 l1 x12_2).f0), .int .u8 ((rd_T33 l1 x12_2).f1), .int .u16 0]) ?_ 2 _ rfl; (with_reducible repeat (first | refine blk_drewN ?_ _ | refine blk_drew ?_ | refine blk_alloc ?_ _)); refine blk_put (cs := #[.int .u8 ((rd_T33 l1 x12_2).f0), .int .u8 0, .int .u16 0]) ?_ 1 _ rfl; (with_reducible repeat (first | refine blk_drewN ?_ _ | refine blk_drew ?_ | refine blk_alloc ?_ _)); refine blk_put (cs := #[.int .u8 0, .int .u8 0, .int .u16 0]) ?_ 0 _ rfl; (with_reducible repeat (first | refine blk_drewN ?_ _ | refine blk_drew ?_ | refine blk_alloc ?_ _)); exact BK154.out⟩, ⟨by repeat (first | (with_reducible first | exact HI149.out | apply IsS41.alloc | apply IsS41.drewN | apply IsS41.drew | apply IsS41.set_0 | apply IsS41.set_1 | apply IsS41.set_2 | apply IsS41.set_3 | apply IsS41.set_4 | refine IsS41.far ?_ NB149_154.out _) | exact HI149.out)⟩, ⟨by repeat (first | (with_reducible first | exact HB.out | apply below_alloc | apply pw_below_drewN | apply below_drew1 | refine below_set ?_ (IsS41.ge HI149.out) | refine below_set ?_ GE154.out) | exact HB.out)⟩⟩
                        · rw [if_neg c26] at H
                          have c26b0 : ((Int.tmod ((rd_T33 l1 x12_2).f0) 12) == 3) = false := beq_eq_false_iff_ne.mpr c26
                          have c26b1 : ((Int.tmod ((rd_T33 l1 x12_2).f0) 12) != 3) = true := bne_iff_ne.mpr c26
                          (first | rw [c26b0] | (simp only [i64_w, i32_w]; rw [c26b0]) | skip)
                          as_aux_lemma =>
                            have H' := Aside0.mk H
                            clear H
                            go_wp2
                            go_meet
                            case rel => exact ⟨_, (IntKind.u64.wrap (x8_2 + (IntKind.u64.wrap (Int.tmod ((rd_T33 l1 x12_2).f1) 4)))), (by first | rfl | (simp; done) | (simp [*]; done) | (refine qa_int ?_; omega) | (refine qa_int ?_; simp <;> omega)), H', ⟨by have := HJ2.out; have := HK2.out; first | omega | exact Nat.le_refl _⟩, ⟨by (with_reducible repeat (first | apply Kd.R_alloc | apply Kd.R_drewN | apply Kd.R_drew)); exact Kd.R_mono (Kd.R_far (p := ⟨gb154, 2, none⟩) (Kd.R_far (p := ⟨gb154, 1, none⟩) (Kd.R_far (p := ⟨gb154, 0, none⟩) (Kd.R_types HO_7.out BK154.out (by decide)) (fun _ hk => hk.2) (.int .u8 ((rd_T33 l1 x12_2).f0))) (fun _ hk => hk.2) (.int .u8 ((rd_T33 l1 x12_2).f1))) (fun _ hk => hk.2) (.int .u16 ((rd_T33 l1 x12_2).f2))) (fun _ hk => trivial)⟩, ⟨by (with_reducible repeat (first | refine blk_drewN ?_ _ | refine blk_drew ?_ | refine blk_alloc ?_ _)); refine blk_put (cs := #[.int .u8 ((rd_T33 l1 x12_2).f0), .int .u8 ((rd_T33 l1 x12_2).f1), .int .u16 0]) ?_ 2 _ rfl; (with_reducible repeat (first | refine blk_drewN ?_ _ | refine blk_drew ?_ | refine blk_alloc ?_ _)); refine blk_put (cs := #[.int .u8 ((rd_T33 l1 x12_2).f0), .int .u8 0, .int .u16 0]) ?_ 1 _ rfl; (with_reducible repeat (first | refine blk_drewN ?_ _ | refine blk_drew ?_ | refine blk_alloc ?_ _)); refine blk_put (cs := #[.int .u8 0, .int .u8 0, .int .u16 0]) ?_ 0 _ rfl; (with_reducible repeat (first | refine blk_drewN ?_ _ | refine blk_drew ?_ | refine blk_alloc ?_ _)); exact BK154.out⟩, ⟨by repeat (first | (with_reducible first | exact HI149.out | apply IsS41.alloc | apply IsS41.drewN | apply IsS41.drew | apply IsS41.set_0 | apply IsS41.set_1 | apply IsS41.set_2 | apply IsS41.set_3 | apply IsS41.set_4 | refine IsS41.far ?_ NB149_154.out _) | exact HI149.out)⟩, ⟨by repeat (first | (with_reducible first | exact HB.out | apply below_alloc | apply pw_below_drewN | apply below_drew1 | refine below_set ?_ (IsS41.ge HI149.out) | refine below_set ?_ GE154.out) | exact HB.out)⟩⟩
                      case rest =>
                        clear HC23
                        try clear c1
                        try clear p1
                        try clear q1
                        try clear hx1
                        try clear c2
                        try clear p2
                        try clear c4
                        try clear c5
                        try clear c8
                        try clear c9
                        try clear c12
                        try clear c12b0
                        try clear c12b1
                        try clear p15
                        try clear q15
                        try clear hx15
                        try clear c16
                        try clear c16b0
                        try clear c17
                        try clear c17b0
                        try clear c20
                        try clear c22
                        try clear c22b0
                        try clear c24
                        try clear c26
                        try clear c26b0
                        try clear c26b1
                        try clear c27
                        try clear hcz21_0
                        try clear hcz21_1
                        try clear hcz21_2
                        try clear hcz25_0
                        try clear hcz25_1
                        try clear hcz25_2
                        try clear hcz28_0
                        try clear hcz28_1
                        try clear hcz28_2
                        try clear hfz21_0
                        try clear hfz21_1
                        try clear hfz21_2
                        try clear hfz25_0
                        try clear hfz25_1
                        try clear hfz25_2
                        try clear hfz28_0
                        try clear hfz28_1
                        try clear hfz28_2
                        try clear hx153_0
                        try clear hx153_1
                        try clear hx153_2
                        try clear p153
                        try clear p2
                        try clear q153
                        obtain ⟨kq, x15_22, rfl, HA, HJ22, HO_7, BK154, HI149, HB⟩ := hcut
                        cases kq with
                        | zero => exact absurd HA.out (by simp [milestonelaw14_LinkPlays.j2])
                        | succ kj22 =>
                          have H := HA.out
                          clear HA
                          simp only [milestonelaw14_LinkPlays.j2] at H
                          replace H := Option.bind_eq_some_iff.mp H
                          obtain ⟨⟨t155, t156, t157, t158, t159⟩, A290, H⟩ := H
                          replace H : (milestonelaw14_LinkPlays.l1 kj22 l1 x5_2 x7_2 x8_2 x10_2 x11_2 x12_2 x15_22 false 0 t155 t156 t157 t158 t159) = some r := H
                          have A29 := Aside0.mk A290
                          clear A290
                          have H' := Aside0.mk H
                          clear H
                          go_wp2_with (first | ((with_reducible refine gate_callee (f := 10) rfl ?_); refine goesL_ (some 117) rfl rfl Try.func10 (by kernel_rfl) rfl #[.pointer (some ⟨g149, 0, none⟩), .int .u64 x15_22, .int .u64 x5_2] rfl (by (try simp only [List.map_toArray, List.map_cons, List.map_nil]); first | done | rfl | (simp only [List.length_drop, List.length_take]; rfl) | (simp; done) | (refine qa_arr ?_; (repeat' (first | rfl | refine qa_cons ?_ ?_ | refine qa_int ?_ | refine qa_agg ?_ | refine qa_arr ?_ | omega)); done)) ?_; (with_reducible refine (link_Link_Hello.calls g149 x150000_2 x150001_2 x150002_2 x150003_2 x150004_2 x15_22 x5_2 t155 t156 t157 t158 t159 w _ ?side1 ?side2 A29.out).mono ?_); (case side1 => repeat (first | (with_reducible first | exact HI149.out | apply IsS41.alloc | apply IsS41.drewN | apply IsS41.drew | apply IsS41.set_0 | apply IsS41.set_1 | apply IsS41.set_2 | apply IsS41.set_3 | apply IsS41.set_4 | refine IsS41.far ?_ NB149_154.out _) | exact HI149.out)); (case side2 => repeat (first | (with_reducible first | exact HB.out | apply below_alloc | apply pw_below_drewN | apply below_drew1 | refine below_set ?_ (IsS41.ge HI149.out) | refine below_set ?_ GE154.out) | exact HB.out)); rintro e w30 ⟨rfl, hi, hb, hk⟩; refine ⟨_, rfl, ?_⟩; have n0_ := Aside0.mk (Kd.R_mono (Kd.R_keep (IsS41.apart (show IsS41 w _ g149 x150000_2 x150001_2 x150002_2 x150003_2 x150004_2 from by repeat (first | (with_reducible first | exact HI149.out | apply IsS41.alloc | apply IsS41.drewN | apply IsS41.drew | apply IsS41.set_0 | apply IsS41.set_1 | apply IsS41.set_2 | apply IsS41.set_3 | apply IsS41.set_4 | refine IsS41.far ?_ NB149_154.out _) | exact HI149.out)) (by (with_reducible repeat (first | apply Kd.R_alloc | apply Kd.R_drewN | apply Kd.R_drew)); exact HO_7.out) (by decide)) hk (fun _ h => h.2)) (fun _ h => h.1)); have n1_ := Aside0.mk (KeepBut.blk hk (g' := gb154) (o := .cells #[.int .u8 ((rd_T33 l1 x12_2).f0), .int .u8 ((rd_T33 l1 x12_2).f1), .int .u16 ((rd_T33 l1 x12_2).f2)] 33 (0, 0)) (by (with_reducible repeat (first | refine blk_drewN ?_ _ | refine blk_drew ?_ | refine blk_alloc ?_ _)); exact BK154.out) NB154_149.out (by simp)); have n2_ := Aside0.mk (hb); have n3_ := Aside0.mk (hi); clear HO_7; clear BK154; clear HB; clear HI149; have HO_7 := n0_; have BK154 := n1_; have HB := n2_; have HI149 := n3_; clear n0_ n1_ n2_ n3_; (try clear hb); (try clear hb2); (try clear hk); (try clear hi)))
                          go_loopg [16, 17] kj22 (fun kq v16 v17 w' => ∃ (x16_4 : Bool) (x17_4 : Int), v16 = .bool x16_4 ∧ v17 = .int .i64 x17_4 ∧ Aside0 (milestonelaw14_LinkPlays.l1 kq l1 x5_2 x7_2 x8_2 x10_2 x11_2 x12_2 x15_22 x16_4 x17_4 t155 t156 t157 t158 t159 = some r) ∧ Aside0 (kq ≤ kj22) ∧ Aside0 (Kd.R Kd.bool 4 w' w.heap.size (fun _ => True) u7 x7_2) ∧ Aside0 (w'.heap[gb154]? = some (.cells #[.int .u8 ((rd_T33 l1 x12_2).f0), .int .u8 ((rd_T33 l1 x12_2).f1), .int .u16 ((rd_T33 l1 x12_2).f2)] 33 (0, 0))) ∧ Aside0 (IsS41 w w' g149 t155 t156 t157 t158 t159) ∧ Aside0 (Below w.heap.size w w'))
                          case atStart => exact ⟨(false), (0), (by first | rfl | (simp; done) | (simp [*]; done) | (refine qa_int ?_; omega) | (refine qa_int ?_; simp <;> omega)), (by first | rfl | (simp; done) | (simp [*]; done) | (refine qa_int ?_; omega) | (refine qa_int ?_; simp <;> omega)), H', ⟨Nat.le_refl _⟩, ⟨by (with_reducible repeat (first | apply Kd.R_alloc | apply Kd.R_drewN | apply Kd.R_drew)); exact HO_7.out⟩, ⟨by (with_reducible repeat (first | refine blk_drewN ?_ _ | refine blk_drew ?_ | refine blk_alloc ?_ _)); exact BK154.out⟩, ⟨by repeat (first | (with_reducible first | exact HI149.out | apply IsS41.alloc | apply IsS41.drewN | apply IsS41.drew | apply IsS41.set_0 | apply IsS41.set_1 | apply IsS41.set_2 | apply IsS41.set_3 | apply IsS41.set_4 | refine IsS41.far ?_ NB149_154.out _) | exact HI149.out)⟩, ⟨by repeat (first | (with_reducible first | exact HB.out | apply below_alloc | apply pw_below_drewN | apply below_drew1 | refine below_set ?_ (IsS41.ge HI149.out) | refine below_set ?_ GE154.out) | exact HB.out)⟩⟩
                          case round =>
                            clear H'
                            try clear c1
                            try clear p1
                            try clear q1
                            try clear hx1
                            try clear c2
                            try clear p2
                            try clear c4
                            try clear c5
                            try clear c8
                            try clear c9
                            try clear c10
                            try clear c12
                            try clear c12b0
                            try clear c12b1
                            try clear p15
                            try clear q15
                            try clear hx15
                            try clear c16
                            try clear c16b0
                            try clear c17
                            try clear c17b0
                            try clear c20
                            try clear c22
                            try clear c22b0
                            try clear c24
                            try clear c26
                            try clear c26b0
                            try clear c26b1
                            try clear c27
                            try clear hcz21_0
                            try clear hcz21_1
                            try clear hcz21_2
                            try clear hcz25_0
                            try clear hcz25_1
                            try clear hcz25_2
                            try clear hcz28_0
                            try clear hcz28_1
                            try clear hcz28_2
                            try clear hfz21_0
                            try clear hfz21_1
                            try clear hfz21_2
                            try clear hfz25_0
                            try clear hfz25_1
                            try clear hfz25_2
                            try clear hfz28_0
                            try clear hfz28_1
                            try clear hfz28_2
                            try clear hx153_0
                            try clear hx153_1
                            try clear hx153_2
                            try clear p1
                            try clear p15
                            try clear p153
                            try clear p2
                            try clear q1
                            try clear q15
                            try clear q153
                            obtain ⟨x16_4, x17_4, rfl, rfl, HA, HK4, HO_7, BK154, HI149, HB⟩ := hrel
                            cases gk with
                            | zero => exact absurd HA.out (by simp [milestonelaw14_LinkPlays.l1])
                            | succ k4 =>
                              have H := HA.out
                              clear HA
                              simp only [milestonelaw14_LinkPlays.l1] at H
                              by_cases c31 : x17_4 < 16
                              · rw [if_pos c31] at H
                                have c31b0 : decide (x17_4 < 16) = true := decide_eq_true c31
                                clear c31
                                by_cases c32 : x16_4 = true
                                · subst c32
                                  have H1 : (milestonelaw14_LinkPlays.l1 k4 l1 x5_2 x7_2 x8_2 x10_2 x11_2 x12_2 x15_22 true (wrap64 (x17_4 + 1)) t155 t156 t157 t158 t159) = some r := by rw [if_pos rfl] at H; exact H
                                  clear H
                                  have H := H1
                                  clear H1
                                  as_aux_lemma =>
                                    have H' := Aside0.mk H
                                    clear H
                                    go_wp2
                                    go_roundg k4
                                    case measure => have := HJ2.out; have := HK2.out; have := HJ22.out; have := HK4.out; omega
                                    case rel => exact ⟨(true), (wrap64 (x17_4 + 1)), (by first | rfl | (simp; done) | (simp [*]; done) | (refine qa_int ?_; omega) | (refine qa_int ?_; simp <;> omega)), (by first | rfl | (simp; done) | (simp [*]; done) | (refine qa_int ?_; omega) | (refine qa_int ?_; simp <;> omega)), H', ⟨by have := HJ2.out; have := HK2.out; have := HJ22.out; have := HK4.out; omega⟩, ⟨by (with_reducible repeat (first | apply Kd.R_alloc | apply Kd.R_drewN | apply Kd.R_drew)); exact HO_7.out⟩, ⟨by (with_reducible repeat (first | refine blk_drewN ?_ _ | refine blk_drew ?_ | refine blk_alloc ?_ _)); exact BK154.out⟩, ⟨by repeat (first | (with_reducible first | exact HI149.out | apply IsS41.alloc | apply IsS41.drewN | apply IsS41.drew | apply IsS41.set_0 | apply IsS41.set_1 | apply IsS41.set_2 | apply IsS41.set_3 | apply IsS41.set_4 | refine IsS41.far ?_ NB149_154.out _) | exact HI149.out)⟩, ⟨by repeat (first | (with_reducible first | exact HB.out | apply below_alloc | apply pw_below_drewN | apply below_drew1 | refine below_set ?_ (IsS41.ge HI149.out) | refine below_set ?_ GE154.out) | exact HB.out)⟩⟩
                                · replace c32 := Bool.eq_false_iff.mpr c32
                                  subst c32
                                  have H1 : (if 0 ≤ x17_4 then (if x17_4 < (x7_2.length : Int) then (milestonelaw14_LinkPlays.l1 k4 l1 x5_2 x7_2 x8_2 x10_2 x11_2 x12_2 x15_22 (rdOf false x7_2 x17_4) (wrap64 (x17_4 + 1)) t155 t156 t157 t158 t159) else (none)) else (none)) = some r := by rw [if_neg (show ¬ (false = true) by decide)] at H; exact H
                                  clear H
                                  have H := H1
                                  clear H1
                                  by_cases c33 : 0 ≤ x17_4
                                  · rw [if_pos c33] at H
                                    have c33b0 : decide (0 ≤ x17_4) = true := decide_eq_true c33
                                    clear c33
                                    by_cases c34 : x17_4 < (x7_2.length : Int)
                                    · rw [if_pos c34] at H
                                      have c34b0 : decide (x17_4 < (x7_2.length : Int)) = true := decide_eq_true c34
                                      clear c34
                                      as_aux_lemma =>
                                        have H' := Aside0.mk H
                                        clear H
                                        obtain ⟨Ao35, co35, eo35⟩ := Kd.R_slice HO_7.out
                                        subst eo35
                                        have p160 : 0 ≤ (x17_4 : Int) := of_decide_eq_true (by first | (with_reducible assumption) | assumption)
                                        have q160 : x17_4 < (x7_2.length : Int) := of_decide_eq_true (by first | (with_reducible assumption) | assumption)
                                        obtain ⟨ad160, e160, hx160_0⟩ := Kd.at_bool (Kd.R_reads' HO_7.out).2.2 x17_4 p160 q160
                                        cases e160
                                        replace p160 := eq_true p160
                                        replace q160 := eq_true q160
                                        go_wp2
                                        go_roundg k4
                                        case measure => have := HJ2.out; have := HK2.out; have := HJ22.out; have := HK4.out; omega
                                        case rel => exact ⟨(rdOf false x7_2 x17_4), (wrap64 (x17_4 + 1)), (by first | rfl | (simp; done) | (simp [*]; done) | (refine qa_int ?_; omega) | (refine qa_int ?_; simp <;> omega)), (by first | rfl | (simp; done) | (simp [*]; done) | (refine qa_int ?_; omega) | (refine qa_int ?_; simp <;> omega)), H', ⟨by have := HJ2.out; have := HK2.out; have := HJ22.out; have := HK4.out; omega⟩, ⟨by (with_reducible repeat (first | apply Kd.R_alloc | apply Kd.R_drewN | apply Kd.R_drew)); exact HO_7.out⟩, ⟨by (with_reducible repeat (first | refine blk_drewN ?_ _ | refine blk_drew ?_ | refine blk_alloc ?_ _)); exact BK154.out⟩, ⟨by repeat (first | (with_reducible first | exact HI149.out | apply IsS41.alloc | apply IsS41.drewN | apply IsS41.drew | apply IsS41.set_0 | apply IsS41.set_1 | apply IsS41.set_2 | apply IsS41.set_3 | apply IsS41.set_4 | refine IsS41.far ?_ NB149_154.out _) | exact HI149.out)⟩, ⟨by repeat (first | (with_reducible first | exact HB.out | apply below_alloc | apply pw_below_drewN | apply below_drew1 | refine below_set ?_ (IsS41.ge HI149.out) | refine below_set ?_ GE154.out) | exact HB.out)⟩⟩
                                    · rw [if_neg c34] at H
                                      exact absurd H (by simp)
                                  · rw [if_neg c33] at H
                                    exact absurd H (by simp)
                              · rw [if_neg c31] at H
                                have c31b0 : decide (x17_4 < 16) = false := decide_eq_false c31
                                clear c31
                                have HC36 := Aside0.mk H
                                clear H
                                go_upto_region 41 with (fail)
                                go_cut [141] (fun v141 wc => ∃ (kq : Nat) (x141_35 : Bool), v141 = .bool x141_35 ∧ Aside0 (milestonelaw14_LinkPlays.j4 kq l1 x5_2 x7_2 x8_2 x10_2 x11_2 x12_2 x15_22 x141_35 t155 t156 t157 t158 t159 = some r) ∧ Aside0 (kq ≤ k4) ∧ Aside0 (Kd.R Kd.bool 4 wc w.heap.size (fun _ => True) u7 x7_2) ∧ Aside0 (wc.heap[gb154]? = some (.cells #[.int .u8 ((rd_T33 l1 x12_2).f0), .int .u8 ((rd_T33 l1 x12_2).f1), .int .u16 ((rd_T33 l1 x12_2).f2)] 33 (0, 0))) ∧ Aside0 (IsS41 w wc g149 t155 t156 t157 t158 t159) ∧ Aside0 (Below w.heap.size w wc))
                                case first =>
                                  have H := HC36.out
                                  clear HC36
                                  by_cases c37 : x15_22 < x8_2
                                  · rw [if_pos c37] at H
                                    have c37b0 : decide (x15_22 < x8_2) = true := decide_eq_true c37
                                    clear c37
                                    (first | rw [c37b0] | (simp only [i64_w, i32_w]; rw [c37b0]) | skip)
                                    as_aux_lemma =>
                                      have H' := Aside0.mk H
                                      clear H
                                      go_wp2
                                      go_meet
                                      case rel => exact ⟨_, (true), (by first | rfl | (simp; done) | (simp [*]; done) | (refine qa_int ?_; omega) | (refine qa_int ?_; simp <;> omega)), H', ⟨by have := HJ2.out; have := HK2.out; have := HJ22.out; have := HK4.out; first | omega | exact Nat.le_refl _⟩, ⟨by (with_reducible repeat (first | apply Kd.R_alloc | apply Kd.R_drewN | apply Kd.R_drew)); exact HO_7.out⟩, ⟨by (with_reducible repeat (first | refine blk_drewN ?_ _ | refine blk_drew ?_ | refine blk_alloc ?_ _)); exact BK154.out⟩, ⟨by repeat (first | (with_reducible first | exact HI149.out | apply IsS41.alloc | apply IsS41.drewN | apply IsS41.drew | apply IsS41.set_0 | apply IsS41.set_1 | apply IsS41.set_2 | apply IsS41.set_3 | apply IsS41.set_4 | refine IsS41.far ?_ NB149_154.out _) | exact HI149.out)⟩, ⟨by repeat (first | (with_reducible first | exact HB.out | apply below_alloc | apply pw_below_drewN | apply below_drew1 | refine below_set ?_ (IsS41.ge HI149.out) | refine below_set ?_ GE154.out) | exact HB.out)⟩⟩
                                  · rw [if_neg c37] at H
                                    have c37b0 : decide (x15_22 < x8_2) = false := decide_eq_false c37
                                    clear c37
                                    (first | rw [c37b0] | (simp only [i64_w, i32_w]; rw [c37b0]) | skip)
                                    by_cases c38 : (IntKind.u64.wrap (x15_22 - x8_2)) ≥ 16
                                    · rw [if_pos c38] at H
                                      have c38b0 : decide (16 ≤ (IntKind.u64.wrap (x15_22 - x8_2))) = true := decide_eq_true c38
                                      clear c38
                                      as_aux_lemma =>
                                        have H' := Aside0.mk H
                                        clear H
                                        go_wp2
                                        go_meet
                                        case rel => exact ⟨_, (true), (by first | rfl | (simp; done) | (simp [*]; done) | (refine qa_int ?_; omega) | (refine qa_int ?_; simp <;> omega)), H', ⟨by have := HJ2.out; have := HK2.out; have := HJ22.out; have := HK4.out; first | omega | exact Nat.le_refl _⟩, ⟨by (with_reducible repeat (first | apply Kd.R_alloc | apply Kd.R_drewN | apply Kd.R_drew)); exact HO_7.out⟩, ⟨by (with_reducible repeat (first | refine blk_drewN ?_ _ | refine blk_drew ?_ | refine blk_alloc ?_ _)); exact BK154.out⟩, ⟨by repeat (first | (with_reducible first | exact HI149.out | apply IsS41.alloc | apply IsS41.drewN | apply IsS41.drew | apply IsS41.set_0 | apply IsS41.set_1 | apply IsS41.set_2 | apply IsS41.set_3 | apply IsS41.set_4 | refine IsS41.far ?_ NB149_154.out _) | exact HI149.out)⟩, ⟨by repeat (first | (with_reducible first | exact HB.out | apply below_alloc | apply pw_below_drewN | apply below_drew1 | refine below_set ?_ (IsS41.ge HI149.out) | refine below_set ?_ GE154.out) | exact HB.out)⟩⟩
                                    · rw [if_neg c38] at H
                                      have c38b0 : decide (16 ≤ (IntKind.u64.wrap (x15_22 - x8_2))) = false := decide_eq_false c38
                                      clear c38
                                      as_aux_lemma =>
                                        have H' := Aside0.mk H
                                        clear H
                                        go_wp2
                                        go_meet
                                        case rel => exact ⟨_, (!x16_4), (by first | rfl | (simp; done) | (simp [*]; done) | (refine qa_int ?_; omega) | (refine qa_int ?_; simp <;> omega)), H', ⟨by have := HJ2.out; have := HK2.out; have := HJ22.out; have := HK4.out; first | omega | exact Nat.le_refl _⟩, ⟨by (with_reducible repeat (first | apply Kd.R_alloc | apply Kd.R_drewN | apply Kd.R_drew)); exact HO_7.out⟩, ⟨by (with_reducible repeat (first | refine blk_drewN ?_ _ | refine blk_drew ?_ | refine blk_alloc ?_ _)); exact BK154.out⟩, ⟨by repeat (first | (with_reducible first | exact HI149.out | apply IsS41.alloc | apply IsS41.drewN | apply IsS41.drew | apply IsS41.set_0 | apply IsS41.set_1 | apply IsS41.set_2 | apply IsS41.set_3 | apply IsS41.set_4 | refine IsS41.far ?_ NB149_154.out _) | exact HI149.out)⟩, ⟨by repeat (first | (with_reducible first | exact HB.out | apply below_alloc | apply pw_below_drewN | apply below_drew1 | refine below_set ?_ (IsS41.ge HI149.out) | refine below_set ?_ GE154.out) | exact HB.out)⟩⟩
                                case rest =>
                                  clear HC36
                                  try clear c1
                                  try clear p1
                                  try clear q1
                                  try clear hx1
                                  try clear c2
                                  try clear p2
                                  try clear c3
                                  try clear c4
                                  try clear c5
                                  try clear p6
                                  try clear c8
                                  try clear c9
                                  try clear c10
                                  try clear c12
                                  try clear c12b0
                                  try clear c12b1
                                  try clear p15
                                  try clear q15
                                  try clear hx15
                                  try clear c16
                                  try clear c16b0
                                  try clear p16
                                  try clear q16
                                  try clear hx16
                                  try clear c17
                                  try clear c17b0
                                  try clear c20
                                  try clear c22
                                  try clear c22b0
                                  try clear c24
                                  try clear c26
                                  try clear c26b0
                                  try clear c26b1
                                  try clear c27
                                  try clear c31
                                  try clear c31b0
                                  try clear c32
                                  try clear c33
                                  try clear c33b0
                                  try clear c34
                                  try clear c34b0
                                  try clear c37
                                  try clear c37b0
                                  try clear c38
                                  try clear c38b0
                                  try clear hcz21_0
                                  try clear hcz21_1
                                  try clear hcz21_2
                                  try clear hcz25_0
                                  try clear hcz25_1
                                  try clear hcz25_2
                                  try clear hcz28_0
                                  try clear hcz28_1
                                  try clear hcz28_2
                                  try clear hfz21_0
                                  try clear hfz21_1
                                  try clear hfz21_2
                                  try clear hfz25_0
                                  try clear hfz25_1
                                  try clear hfz25_2
                                  try clear hfz28_0
                                  try clear hfz28_1
                                  try clear hfz28_2
                                  try clear hx153_0
                                  try clear hx153_1
                                  try clear hx153_2
                                  try clear hx160_0
                                  try clear p1
                                  try clear p15
                                  try clear p153
                                  try clear p160
                                  try clear p2
                                  try clear q1
                                  try clear q15
                                  try clear q153
                                  try clear q160
                                  obtain ⟨kq, x141_35, rfl, HA, HJ35, HO_7, BK154, HI149, HB⟩ := hcut
                                  cases kq with
                                  | zero => exact absurd HA.out (by simp [milestonelaw14_LinkPlays.j4])
                                  | succ kj35 =>
                                    have H := HA.out
                                    clear HA
                                    simp only [milestonelaw14_LinkPlays.j4] at H
                                    by_cases c39 : x141_35 = true
                                    · subst c39
                                      have H1 : (if 16 ≤ 281474976710656 then ((some (List.replicate 16 false : List Bool)).bind fun y161 => (if 0 < (y161.length : Int) then (milestonelaw14_LinkPlays.j8 kj35 l1 x5_2 (y161.set (0 : Int).toNat true) (IntKind.u64.wrap (x15_22 + 1)) (IntKind.u64.wrap (x5_2 + 6)) x10_2 x11_2 x12_2 t155 t156 t157 t158 t159) else (none))) else (none)) = some r := by rw [if_pos rfl] at H; exact H
                                      clear H
                                      have H := H1
                                      clear H1
                                      by_cases c40 : 16 ≤ 281474976710656
                                      · rw [if_pos c40] at H
                                        have c40b0 := eq_true c40
                                        have c40b1 : decide (16 ≤ 281474976710656) = true := decide_eq_true c40
                                        clear c40
                                        obtain ⟨y161, hy161⟩ : ∃ y_ : List Bool, y_ = (List.replicate 16 false) := ⟨_, rfl⟩
                                        replace H : (if 0 < (y161.length : Int) then (milestonelaw14_LinkPlays.j8 kj35 l1 x5_2 (y161.set (0 : Int).toNat true) (IntKind.u64.wrap (x15_22 + 1)) (IntKind.u64.wrap (x5_2 + 6)) x10_2 x11_2 x12_2 t155 t156 t157 t158 t159) else (none)) = some r := by first | (rw [hy161]; with_reducible exact H) | (have H2_ := (Option.bind_some _ _).symm.trans H; rw [hy161]; with_reducible exact H2_) | (have H2_ := (Option.bind_some _ _).symm.trans H; with_reducible exact H2_) | with_reducible exact H | (rw [hy161]; exact H) | exact H
                                        have Ny161 := Aside0.mk hy161
                                        clear hy161
                                        by_cases c41 : 0 < (y161.length : Int)
                                        · rw [if_pos c41] at H
                                          have c41b0 : decide (0 < (y161.length : Int)) = true := decide_eq_true c41
                                          have c41b1 : decide (0 < y161.length) = true := decide_eq_true (by omega)
                                          clear c41
                                          obtain ⟨y164, hy164⟩ : ∃ y_ : List Bool, y_ = (y161.set (0 : Int).toNat true) := ⟨_, rfl⟩
                                          replace H : (milestonelaw14_LinkPlays.j8 kj35 l1 x5_2 y164 (IntKind.u64.wrap (x15_22 + 1)) (IntKind.u64.wrap (x5_2 + 6)) x10_2 x11_2 x12_2 t155 t156 t157 t158 t159) = some r := by first | (rw [hy164]; with_reducible exact H) | (have H2_ := (Option.bind_some _ _).symm.trans H; rw [hy164]; with_reducible exact H2_) | (have H2_ := (Option.bind_some _ _).symm.trans H; with_reducible exact H2_) | with_reducible exact H | (rw [hy164]; exact H) | exact H
                                          have Ny164 := Aside0.mk hy164
                                          clear hy164
                                          as_aux_lemma =>
                                            have H' := Aside0.mk H
                                            clear H
                                            go_wp2_with (first | ((with_reducible refine gate_dst (N := 142) rfl ?_); (try (refine gate_guard (by rfl) ?_; dsimp only)); refine Kd.R_make Kd.bool _ 4 rfl (N := 142) rfl 22 _ _ rfl 16 rfl rfl Try.underlying22 (.bool false) 1 info4 rfl (by decide) (by omega) false (ok := fun _ => True) (okp := fun _ => True) rfl (fun _ hk => hk) trivial (by omega) (by omega) (Below.refl _ _) (Nat.le_refl _) ?_; intro v162 w43 ho44 hb hg_ hnew_; clear hg_ hnew_; (first | rw [← Ny161.out] at ho44 | (simp only [Int.reduceToNat] at ho44; rw [← Ny161.out] at ho44)); have n0_ := Aside0.mk (Kd.R_elder' (by (with_reducible repeat (first | apply Kd.R_alloc | apply Kd.R_drewN | apply Kd.R_drew)); exact HO_7.out) (Kd.R_base ho44) hb); have n1_ := Aside0.mk (Kd.R_lower (Kd.R_new' ho44 (Kd.R_lt (by (with_reducible repeat (first | apply Kd.R_alloc | apply Kd.R_drewN | apply Kd.R_drew)); exact HO_7.out))) (below_size (by repeat (first | (with_reducible first | exact HB.out | apply below_alloc | apply pw_below_drewN | apply below_drew1 | refine below_set ?_ (IsS41.ge HI149.out) | refine below_set ?_ GE154.out) | exact HB.out)))); have n2_ := Aside0.mk (blk_below (g := gb154) (o := .cells #[.int .u8 ((rd_T33 l1 x12_2).f0), .int .u8 ((rd_T33 l1 x12_2).f1), .int .u16 ((rd_T33 l1 x12_2).f2)] 33 (0, 0)) (by (with_reducible repeat (first | refine blk_drewN ?_ _ | refine blk_drew ?_ | refine blk_alloc ?_ _)); exact BK154.out) hb); have n3_ := Aside0.mk (IsS41.below (by repeat (first | (with_reducible first | exact HI149.out | apply IsS41.alloc | apply IsS41.drewN | apply IsS41.drew | apply IsS41.set_0 | apply IsS41.set_1 | apply IsS41.set_2 | apply IsS41.set_3 | apply IsS41.set_4 | refine IsS41.far ?_ NB149_154.out _) | exact HI149.out)) hb); have n4_ := Aside0.mk (below_step (by repeat (first | (with_reducible first | exact HB.out | apply below_alloc | apply pw_below_drewN | apply below_drew1 | refine below_set ?_ (IsS41.ge HI149.out) | refine below_set ?_ GE154.out) | exact HB.out)) hb); clear HO_7; clear BK154; clear HI149; clear HB; have HO_7 := n0_; have HO163 := n1_; have BK154 := n2_; have HI149 := n3_; have HB := n4_; clear n0_ n1_ n2_ n3_ n4_; clear hb ho44; have p42 : 0 ≤ (0 : Int) := (by omega); have q42 : (0 : Int) < ((y161.length : Int) : Int) := of_decide_eq_true (by first | (with_reducible assumption) | assumption); have qi42 : (0 < y161.length) = True := eq_true (by omega); obtain ⟨go42, co42, eo42, gb42, gl42, cl42, HG42⟩ := Kd.R_form HO163.out (by omega); (first | cases eo42 | (injection eo42 with ea_ en_ ec_; (first | subst ea_ | (injection ea_ with ea_; subst ea_)); subst ec_; clear en_)); have GB42 := Aside0.mk gb42; have GG42 := Aside0.mk HG42; clear gb42 gl42 HG42; obtain ⟨hx42_0, hf42_0⟩ := Kd.R_celln false HO163.out (0 : Int) p42 q42; (try rw [show ((0 : Int)).toNat = 0 from rfl] at hx42_0); (try simp only [Nat.reduceMul, Nat.zero_mul, Nat.zero_add, Nat.reduceAdd] at hx42_0); (try rw [show ((0 : Int)).toNat = 0 from rfl] at hf42_0); (try simp only [Nat.reduceMul, Nat.zero_mul, Nat.zero_add, Nat.reduceAdd] at hf42_0); replace p42 := eq_true p42; replace q42 := eq_true q42; have n_ := Aside0.mk (Kd.R_mono (ok' := (fun k_ => some k_ ≠ (u7 : Value).ownBlock)) HO163.out (fun k_ hk => hk.2)); clear HO163; have HO163 := n_; clear n_; obtain ⟨hy45_, hz45_⟩ := Kd.R_celln false HO163.out (0 : Int) (by omega) (of_decide_eq_true (by first | (with_reducible assumption) | assumption)); (try simp only [Int.reduceToNat, Int.toNat_zero, Int.toNat_ofNat, Nat.reduceMul, Nat.zero_mul, Nat.zero_add] at hy45_ hz45_); (try rw [show ((0 : Int)).toNat = 0 from rfl] at hy45_); (try rw [show ((0 : Int)).toNat = 0 from rfl] at hz45_); have HP45 := Kd.R_putg HO163.out (0 : Int) true) | ((with_reducible refine gate_store (t := 4) (p := 166) rfl ?_); refine store_event (t := 4) (p := 166) (v := ?vo_w46) (w1 := (w43.setCell ⟨go42, (0 : Int).toNat, none⟩ (.bool true))) ?hg ?ho ?hn ?hr ?_; (case ho => rfl); (case hg => rfl); (case hn => rfl); (case hr => first | (go_simp; done) | (go_simp; rfl)); intro w46 hw; have hg : w43.grownBy w46 (some go42) := (by rw [hw]; exact HP45.2); have hp_ : Kd.R Kd.bool 4 w46 w.heap.size (fun k_ => some k_ ≠ (u7 : Value).ownBlock) (.slice (some ⟨go42, 0, none⟩) y161.length co42) y164 := (by rw [hw, Ny164.out]; exact HP45.1); clear HP45; have n0_ := Aside0.mk (Kd.R_after (v := (.slice (some ⟨go42, 0, none⟩) y161.length co42)) (v1 := (.slice (some ⟨go42, 0, none⟩) y161.length co42)) (ok := (fun _ => True)) (by (with_reducible repeat (first | apply Kd.R_alloc | apply Kd.R_drewN | apply Kd.R_drew)); exact HO_7.out) hg (.inl rfl)); have n1_ := Aside0.mk (blk_grown (g := gb154) (o := .cells #[.int .u8 ((rd_T33 l1 x12_2).f0), .int .u8 ((rd_T33 l1 x12_2).f1), .int .u16 ((rd_T33 l1 x12_2).f2)] 33 (0, 0)) (by (with_reducible repeat (first | refine blk_drewN ?_ _ | refine blk_drew ?_ | refine blk_alloc ?_ _)); exact BK154.out) hg (Kd.R_ne HO163.out BK154.out (by decide))); have n2_ := Aside0.mk (IsS41.grown (by repeat (first | (with_reducible first | exact HI149.out | apply IsS41.alloc | apply IsS41.drewN | apply IsS41.drew | apply IsS41.set_0 | apply IsS41.set_1 | apply IsS41.set_2 | apply IsS41.set_3 | apply IsS41.set_4 | refine IsS41.far ?_ NB149_154.out _) | exact HI149.out)) hg (IsS41.own_ne HI149.out HO163.out (by decide))); have n3_ := Aside0.mk (hp_); have n4_ := Aside0.mk ((by rw [hw]; exact below_set (HB.out) GB42.out : Below w.heap.size w w46)); clear HO_7; clear BK154; clear HI149; clear HO163; clear HB; have HO_7 := n0_; have BK154 := n1_; have HI149 := n2_; have HO163 := n3_; have HB := n4_; clear n0_ n1_ n2_ n3_ n4_; clear hg hw hp_))
                                            go_meet
                                            case rel => exact ⟨_, (x5_2), (y164), (IntKind.u64.wrap (x15_22 + 1)), (IntKind.u64.wrap (x5_2 + 6)), (x10_2), (x11_2), (t155), (t156), (t157), (t158), (t159), (by first | rfl | (simp; done) | (simp [*]; done) | (refine qa_int ?_; omega) | (refine qa_int ?_; simp <;> omega)), (by first | rfl | (simp; done) | (simp [*]; done) | (refine qa_int ?_; omega) | (refine qa_int ?_; simp <;> omega)), (by first | rfl | (simp; done) | (simp [*]; done) | (refine qa_int ?_; omega) | (refine qa_int ?_; simp <;> omega)), (by first | rfl | (simp; done) | (simp [*]; done) | (refine qa_int ?_; omega) | (refine qa_int ?_; simp <;> omega)), (by first | rfl | (simp; done) | (simp [*]; done) | (refine qa_int ?_; omega) | (refine qa_int ?_; simp <;> omega)), H', ⟨by have := HJ2.out; have := HK2.out; have := HJ22.out; have := HK4.out; have := HJ35.out; first | omega | exact Nat.le_refl _⟩, ⟨by (with_reducible repeat (first | apply Kd.R_alloc | apply Kd.R_drewN | apply Kd.R_drew)); exact Kd.R_mono HO163.out (fun _ hk => trivial)⟩, ⟨by (with_reducible repeat (first | refine blk_drewN ?_ _ | refine blk_drew ?_ | refine blk_alloc ?_ _)); exact BK154.out⟩, ⟨by repeat (first | (with_reducible first | exact HI149.out | apply IsS41.alloc | apply IsS41.drewN | apply IsS41.drew | apply IsS41.set_0 | apply IsS41.set_1 | apply IsS41.set_2 | apply IsS41.set_3 | apply IsS41.set_4 | refine IsS41.far ?_ NB149_154.out _) | exact HI149.out)⟩, ⟨by repeat (first | (with_reducible first | exact HB.out | apply below_alloc | apply pw_below_drewN | apply below_drew1 | refine below_set ?_ (IsS41.ge HI149.out) | refine below_set ?_ GE154.out) | exact HB.out)⟩⟩
                                        · rw [if_neg c41] at H
                                          exact absurd H (by simp)
                                      · rw [if_neg c40] at H
                                        exact absurd H (by simp)
                                    · replace c39 := Bool.eq_false_iff.mpr c39
                                      subst c39
                                      have H1 : (if 16 ≤ 281474976710656 then (milestonelaw14_LinkPlays.l2 kj35 l1 x5_2 (List.replicate 16 false) x10_2 x11_2 x12_2 x15_22 x7_2 (wrap64 ((wrap64 (IntKind.u64.wrap (x15_22 - x8_2))) + 1)) 0 t155 t156 t157 t158 t159) else (none)) = some r := by rw [if_neg (show ¬ (false = true) by decide)] at H; exact H
                                      clear H
                                      have H := H1
                                      clear H1
                                      by_cases c47 : 16 ≤ 281474976710656
                                      · rw [if_pos c47] at H
                                        have c47b0 := eq_true c47
                                        have c47b1 : decide (16 ≤ 281474976710656) = true := decide_eq_true c47
                                        clear c47
                                        obtain ⟨y165, hy165⟩ : ∃ y_ : List Bool, y_ = (List.replicate 16 false) := ⟨_, rfl⟩
                                        replace H : (milestonelaw14_LinkPlays.l2 kj35 l1 x5_2 y165 x10_2 x11_2 x12_2 x15_22 x7_2 (wrap64 ((wrap64 (IntKind.u64.wrap (x15_22 - x8_2))) + 1)) 0 t155 t156 t157 t158 t159) = some r := by first | (rw [hy165]; with_reducible exact H) | (have H2_ := (Option.bind_some _ _).symm.trans H; rw [hy165]; with_reducible exact H2_) | (have H2_ := (Option.bind_some _ _).symm.trans H; with_reducible exact H2_) | with_reducible exact H | (rw [hy165]; exact H) | exact H
                                        have Ny165 := Aside0.mk hy165
                                        clear hy165
                                        have H' := Aside0.mk H
                                        clear H
                                        go_wp2_with (first | ((with_reducible refine gate_dst (N := 144) rfl ?_); (try (refine gate_guard (by rfl) ?_; dsimp only)); refine Kd.R_make Kd.bool _ 4 rfl (N := 144) rfl 22 _ _ rfl 16 rfl rfl Try.underlying22 (.bool false) 1 info4 rfl (by decide) (by omega) false (ok := fun _ => True) (okp := fun _ => True) rfl (fun _ hk => hk) trivial (by omega) (by omega) (Below.refl _ _) (Nat.le_refl _) ?_; intro v166 w48 ho49 hb hg_ hnew_; clear hg_ hnew_; (first | rw [← Ny165.out] at ho49 | (simp only [Int.reduceToNat] at ho49; rw [← Ny165.out] at ho49)); have n0_ := Aside0.mk (Kd.R_elder' (by (with_reducible repeat (first | apply Kd.R_alloc | apply Kd.R_drewN | apply Kd.R_drew)); exact HO_7.out) (Kd.R_base ho49) hb); have n1_ := Aside0.mk (Kd.R_lower (Kd.R_new' ho49 (Kd.R_lt (by (with_reducible repeat (first | apply Kd.R_alloc | apply Kd.R_drewN | apply Kd.R_drew)); exact HO_7.out))) (below_size (by repeat (first | (with_reducible first | exact HB.out | apply below_alloc | apply pw_below_drewN | apply below_drew1 | refine below_set ?_ (IsS41.ge HI149.out) | refine below_set ?_ GE154.out) | exact HB.out)))); have n2_ := Aside0.mk (blk_below (g := gb154) (o := .cells #[.int .u8 ((rd_T33 l1 x12_2).f0), .int .u8 ((rd_T33 l1 x12_2).f1), .int .u16 ((rd_T33 l1 x12_2).f2)] 33 (0, 0)) (by (with_reducible repeat (first | refine blk_drewN ?_ _ | refine blk_drew ?_ | refine blk_alloc ?_ _)); exact BK154.out) hb); have n3_ := Aside0.mk (IsS41.below (by repeat (first | (with_reducible first | exact HI149.out | apply IsS41.alloc | apply IsS41.drewN | apply IsS41.drew | apply IsS41.set_0 | apply IsS41.set_1 | apply IsS41.set_2 | apply IsS41.set_3 | apply IsS41.set_4 | refine IsS41.far ?_ NB149_154.out _) | exact HI149.out)) hb); have n4_ := Aside0.mk (below_step (by repeat (first | (with_reducible first | exact HB.out | apply below_alloc | apply pw_below_drewN | apply below_drew1 | refine below_set ?_ (IsS41.ge HI149.out) | refine below_set ?_ GE154.out) | exact HB.out)) hb); clear HO_7; clear BK154; clear HI149; clear HB; have HO_7 := n0_; have HO167 := n1_; have BK154 := n2_; have HI149 := n3_; have HB := n4_; clear n0_ n1_ n2_ n3_ n4_; clear hb ho49))
                                        go_loopg [20] kj35 (fun kq v20 w' => ∃ (x7_6 : List Bool) (x20_6 : Int), v20 = .int .i64 x20_6 ∧ Aside0 (milestonelaw14_LinkPlays.l2 kq l1 x5_2 x7_6 x10_2 x11_2 x12_2 x15_22 x7_2 (wrap64 ((wrap64 (IntKind.u64.wrap (x15_22 - x8_2))) + 1)) x20_6 t155 t156 t157 t158 t159 = some r) ∧ Aside0 (kq ≤ kj35) ∧ Aside0 (Kd.R Kd.bool 4 w' w.heap.size (fun k_ => some k_ ≠ (u7 : Value).ownBlock) v166 x7_6) ∧ Aside0 (Kd.R Kd.bool 4 w' w.heap.size (fun k_ => some k_ ≠ (v166 : Value).ownBlock) u7 x7_2) ∧ Aside0 (w'.heap[gb154]? = some (.cells #[.int .u8 ((rd_T33 l1 x12_2).f0), .int .u8 ((rd_T33 l1 x12_2).f1), .int .u16 ((rd_T33 l1 x12_2).f2)] 33 (0, 0))) ∧ Aside0 (IsS41 w w' g149 t155 t156 t157 t158 t159) ∧ Aside0 (Below w.heap.size w w'))
                                        case atStart => exact ⟨(y165), (0), (by first | rfl | (simp; done) | (simp [*]; done) | (refine qa_int ?_; omega) | (refine qa_int ?_; simp <;> omega)), H', ⟨Nat.le_refl _⟩, ⟨by (with_reducible repeat (first | apply Kd.R_alloc | apply Kd.R_drewN | apply Kd.R_drew)); exact Kd.R_mono HO167.out (fun _ hk => hk.2)⟩, ⟨by (with_reducible repeat (first | apply Kd.R_alloc | apply Kd.R_drewN | apply Kd.R_drew)); exact Kd.R_mono HO_7.out (fun _ hk => hk.2)⟩, ⟨by (with_reducible repeat (first | refine blk_drewN ?_ _ | refine blk_drew ?_ | refine blk_alloc ?_ _)); exact BK154.out⟩, ⟨by repeat (first | (with_reducible first | exact HI149.out | apply IsS41.alloc | apply IsS41.drewN | apply IsS41.drew | apply IsS41.set_0 | apply IsS41.set_1 | apply IsS41.set_2 | apply IsS41.set_3 | apply IsS41.set_4 | refine IsS41.far ?_ NB149_154.out _) | exact HI149.out)⟩, ⟨by repeat (first | (with_reducible first | exact HB.out | apply below_alloc | apply pw_below_drewN | apply below_drew1 | refine below_set ?_ (IsS41.ge HI149.out) | refine below_set ?_ GE154.out) | exact HB.out)⟩⟩
                                        case round =>
                                          clear H'
                                          try clear c1
                                          try clear p1
                                          try clear q1
                                          try clear hx1
                                          try clear c2
                                          try clear p2
                                          try clear c3
                                          try clear c4
                                          try clear p4
                                          try clear q4
                                          try clear hx4
                                          try clear qi4
                                          try clear hf4
                                          try clear c5
                                          try clear p6
                                          try clear c8
                                          try clear c9
                                          try clear c10
                                          try clear c12
                                          try clear c12b0
                                          try clear c12b1
                                          try clear p15
                                          try clear q15
                                          try clear hx15
                                          try clear c16
                                          try clear c16b0
                                          try clear p16
                                          try clear q16
                                          try clear hx16
                                          try clear c17
                                          try clear c17b0
                                          try clear c20
                                          try clear c22
                                          try clear c22b0
                                          try clear c24
                                          try clear c26
                                          try clear c26b0
                                          try clear c26b1
                                          try clear c27
                                          try clear c31
                                          try clear c31b0
                                          try clear c32
                                          try clear c33
                                          try clear c33b0
                                          try clear c34
                                          try clear c34b0
                                          try clear c37
                                          try clear c37b0
                                          try clear c38
                                          try clear c38b0
                                          try clear c39
                                          try clear c40
                                          try clear c40b0
                                          try clear c40b1
                                          try clear c41
                                          try clear c41b0
                                          try clear c41b1
                                          try clear p42
                                          try clear q42
                                          try clear hx42
                                          try clear qi42
                                          try clear hf42
                                          try clear c47
                                          try clear c47b0
                                          try clear c47b1
                                          try clear hcz21_0
                                          try clear hcz21_1
                                          try clear hcz21_2
                                          try clear hcz25_0
                                          try clear hcz25_1
                                          try clear hcz25_2
                                          try clear hcz28_0
                                          try clear hcz28_1
                                          try clear hcz28_2
                                          try clear hfz21_0
                                          try clear hfz21_1
                                          try clear hfz21_2
                                          try clear hfz25_0
                                          try clear hfz25_1
                                          try clear hfz25_2
                                          try clear hfz28_0
                                          try clear hfz28_1
                                          try clear hfz28_2
                                          try clear hx153_0
                                          try clear hx153_1
                                          try clear hx153_2
                                          try clear hx160_0
                                          try clear hx42_0
                                          try clear p1
                                          try clear p15
                                          try clear p153
                                          try clear p16
                                          try clear p160
                                          try clear p2
                                          try clear p42
                                          try clear p6
                                          try clear q1
                                          try clear q15
                                          try clear q153
                                          try clear q16
                                          try clear q160
                                          try clear q42
                                          obtain ⟨x7_6, x20_6, rfl, HA, HK6, HO_7, HO_18, BK154, HI149, HB⟩ := hrel
                                          cases gk with
                                          | zero => exact absurd HA.out (by simp [milestonelaw14_LinkPlays.l2])
                                          | succ k6 =>
                                            have H := HA.out
                                            clear HA
                                            simp only [milestonelaw14_LinkPlays.l2] at H
                                            by_cases c50 : (wrap64 (x20_6 + (wrap64 ((wrap64 (IntKind.u64.wrap (x15_22 - x8_2))) + 1)))) < 16
                                            · rw [if_pos c50] at H
                                              have c50b0 : decide ((wrap64 (x20_6 + (wrap64 ((wrap64 (IntKind.u64.wrap (x15_22 - x8_2))) + 1)))) < 16) = true := decide_eq_true c50
                                              clear c50
                                              by_cases c51 : 0 ≤ x20_6
                                              · rw [if_pos c51] at H
                                                have c51b0 : decide (0 ≤ x20_6) = true := decide_eq_true c51
                                                clear c51
                                                by_cases c52 : x20_6 < (x7_2.length : Int)
                                                · rw [if_pos c52] at H
                                                  have c52b0 : decide (x20_6 < (x7_2.length : Int)) = true := decide_eq_true c52
                                                  clear c52
                                                  obtain ⟨ji53, hji53⟩ : ∃ j_ : Int, (wrap64 (x20_6 + (wrap64 ((wrap64 (IntKind.u64.wrap (x15_22 - x8_2))) + 1)))) = j_ := ⟨_, rfl⟩
                                                  replace H : (if 0 ≤ (ji53) then (if (ji53) < (x7_6.length : Int) then (milestonelaw14_LinkPlays.l2 k6 l1 x5_2 (x7_6.set ((ji53) : Int).toNat (rdOf false x7_2 x20_6)) x10_2 x11_2 x12_2 x15_22 x7_2 (wrap64 ((wrap64 (IntKind.u64.wrap (x15_22 - x8_2))) + 1)) (wrap64 (x20_6 + 1)) t155 t156 t157 t158 t159) else (none)) else (none)) = some r := by first | (rw [hji53] at H; exact H) | (simp only [hji53] at H ⊢; exact H)
                                                  (try rw [hji53] at c50b0)
                                                  have hji53w : (IntKind.i64.wrap (x20_6 + (wrap64 ((wrap64 (IntKind.u64.wrap (x15_22 - x8_2))) + 1)))) = ji53 := (i64_w _).trans hji53
                                                  by_cases c54 : 0 ≤ (ji53)
                                                  · rw [if_pos c54] at H
                                                    have c54b0 : decide (0 ≤ (ji53)) = true := decide_eq_true c54
                                                    clear c54
                                                    by_cases c55 : (ji53) < (x7_6.length : Int)
                                                    · rw [if_pos c55] at H
                                                      have c55b0 : decide ((ji53) < (x7_6.length : Int)) = true := decide_eq_true c55
                                                      clear c55
                                                      obtain ⟨y169, hy169⟩ : ∃ y_ : List Bool, y_ = (x7_6.set ((ji53) : Int).toNat (rdOf false x7_2 x20_6)) := ⟨_, rfl⟩
                                                      replace H : (milestonelaw14_LinkPlays.l2 k6 l1 x5_2 y169 x10_2 x11_2 x12_2 x15_22 x7_2 (wrap64 ((wrap64 (IntKind.u64.wrap (x15_22 - x8_2))) + 1)) (wrap64 (x20_6 + 1)) t155 t156 t157 t158 t159) = some r := by first | (rw [hy169]; with_reducible exact H) | (have H2_ := (Option.bind_some _ _).symm.trans H; rw [hy169]; with_reducible exact H2_) | (have H2_ := (Option.bind_some _ _).symm.trans H; with_reducible exact H2_) | with_reducible exact H | (rw [hy169]; exact H) | exact H
                                                      have Ny169 := Aside0.mk hy169
                                                      clear hy169
                                                      as_aux_lemma =>
                                                        have H' := Aside0.mk H
                                                        clear H
                                                        obtain ⟨Ao57, co57, eo57⟩ := Kd.R_slice HO_18.out
                                                        subst eo57
                                                        have p168 : 0 ≤ (x20_6 : Int) := of_decide_eq_true (by first | (with_reducible assumption) | assumption)
                                                        have q168 : x20_6 < (x7_2.length : Int) := of_decide_eq_true (by first | (with_reducible assumption) | assumption)
                                                        obtain ⟨ad168, e168, hx168_0⟩ := Kd.at_bool (Kd.R_reads' HO_18.out).2.2 x20_6 p168 q168
                                                        cases e168
                                                        replace p168 := eq_true p168
                                                        replace q168 := eq_true q168
                                                        have p56 : 0 ≤ ((ji53) : Int) := of_decide_eq_true (by first | (with_reducible assumption) | assumption)
                                                        have q56 : ((ji53) : Int) < ((x7_6.length : Int) : Int) := of_decide_eq_true (by first | (with_reducible assumption) | assumption)
                                                        obtain ⟨go56, co56, eo56, gb56, gl56, cl56, HG56⟩ := Kd.R_form HO_7.out (by omega)
                                                        (first | cases eo56 | (injection eo56 with ea_ en_ ec_; (first | subst ea_ | (injection ea_ with ea_; subst ea_)); subst ec_; clear en_))
                                                        have GB56 := Aside0.mk gb56
                                                        have GG56 := Aside0.mk HG56
                                                        clear gb56 gl56 HG56
                                                        obtain ⟨hx56_0, hf56_0⟩ := Kd.R_celln false HO_7.out ((ji53) : Int) p56 q56
                                                        replace p56 := eq_true p56
                                                        replace q56 := eq_true q56
                                                        have HP58 := Kd.R_putg HO_7.out ((ji53) : Int) (rdOf false x7_2 x20_6)
                                                        go_wp2_with (first | ((with_reducible refine gate_store (t := 4) (p := 164) rfl ?_); refine store_event (t := 4) (p := 164) (v := ?vo_w59) (w1 := (wr.setCell ⟨go56, ((ji53) : Int).toNat, none⟩ (.bool (rdOf false x7_2 x20_6)))) ?hg ?ho ?hn ?hr ?_; (case ho => rfl); (case hg => rfl); (case hn => rfl); (case hr => first | (go_simp; done) | (go_simp; rfl)); intro w59 hw; have hg : wr.grownBy w59 (some go56) := (by rw [hw]; exact HP58.2); have hp_ : Kd.R Kd.bool 4 w59 w.heap.size (fun k_ => some k_ ≠ (.slice (some ad168) x7_2.length co57 : Value).ownBlock) (.slice (some ⟨go56, 0, none⟩) x7_6.length co56) y169 := (by rw [hw, Ny169.out]; exact HP58.1); clear HP58; have n0_ := Aside0.mk (hp_); have n1_ := Aside0.mk (Kd.R_after (v := (.slice (some ⟨go56, 0, none⟩) x7_6.length co56)) (v1 := (.slice (some ⟨go56, 0, none⟩) x7_6.length co56)) (ok := (fun _ => True)) (by (with_reducible repeat (first | apply Kd.R_alloc | apply Kd.R_drewN | apply Kd.R_drew)); exact Kd.R_mono HO_18.out (fun _ hk => ⟨trivial, hk⟩)) hg (.inl rfl)); have n2_ := Aside0.mk (blk_grown (g := gb154) (o := .cells #[.int .u8 ((rd_T33 l1 x12_2).f0), .int .u8 ((rd_T33 l1 x12_2).f1), .int .u16 ((rd_T33 l1 x12_2).f2)] 33 (0, 0)) (by (with_reducible repeat (first | refine blk_drewN ?_ _ | refine blk_drew ?_ | refine blk_alloc ?_ _)); exact BK154.out) hg (Kd.R_ne HO_7.out BK154.out (by decide))); have n3_ := Aside0.mk (IsS41.grown (by repeat (first | (with_reducible first | exact HI149.out | apply IsS41.alloc | apply IsS41.drewN | apply IsS41.drew | apply IsS41.set_0 | apply IsS41.set_1 | apply IsS41.set_2 | apply IsS41.set_3 | apply IsS41.set_4 | refine IsS41.far ?_ NB149_154.out _) | exact HI149.out)) hg (IsS41.own_ne HI149.out HO_7.out (by decide))); have n4_ := Aside0.mk ((by rw [hw]; exact below_set (HB.out) GB56.out : Below w.heap.size w w59)); clear HO_7; clear HO_18; clear BK154; clear HI149; clear HB; have HO_7 := n0_; have HO_18 := n1_; have BK154 := n2_; have HI149 := n3_; have HB := n4_; clear n0_ n1_ n2_ n3_ n4_; clear hg hw hp_))
                                                        go_roundg k6
                                                        case measure => have := HJ2.out; have := HK2.out; have := HJ22.out; have := HK4.out; have := HJ35.out; have := HK6.out; omega
                                                        case rel => exact ⟨(y169), (wrap64 (x20_6 + 1)), (by first | rfl | (simp; done) | (simp [*]; done) | (refine qa_int ?_; omega) | (refine qa_int ?_; simp <;> omega)), H', ⟨by have := HJ2.out; have := HK2.out; have := HJ22.out; have := HK4.out; have := HJ35.out; have := HK6.out; omega⟩, ⟨by (with_reducible repeat (first | apply Kd.R_alloc | apply Kd.R_drewN | apply Kd.R_drew)); exact HO_7.out⟩, ⟨by (with_reducible repeat (first | apply Kd.R_alloc | apply Kd.R_drewN | apply Kd.R_drew)); exact Kd.R_mono HO_18.out (fun _ hk => hk.2)⟩, ⟨by (with_reducible repeat (first | refine blk_drewN ?_ _ | refine blk_drew ?_ | refine blk_alloc ?_ _)); exact BK154.out⟩, ⟨by repeat (first | (with_reducible first | exact HI149.out | apply IsS41.alloc | apply IsS41.drewN | apply IsS41.drew | apply IsS41.set_0 | apply IsS41.set_1 | apply IsS41.set_2 | apply IsS41.set_3 | apply IsS41.set_4 | refine IsS41.far ?_ NB149_154.out _) | exact HI149.out)⟩, ⟨by repeat (first | (with_reducible first | exact HB.out | apply below_alloc | apply pw_below_drewN | apply below_drew1 | refine below_set ?_ (IsS41.ge HI149.out) | refine below_set ?_ GE154.out) | exact HB.out)⟩⟩
                                                    · rw [if_neg c55] at H
                                                      exact absurd H (by simp)
                                                  · rw [if_neg c54] at H
                                                    exact absurd H (by simp)
                                                · rw [if_neg c52] at H
                                                  exact absurd H (by simp)
                                              · rw [if_neg c51] at H
                                                exact absurd H (by simp)
                                            · rw [if_neg c50] at H
                                              have c50b0 : decide ((wrap64 (x20_6 + (wrap64 ((wrap64 (IntKind.u64.wrap (x15_22 - x8_2))) + 1)))) < 16) = false := decide_eq_false c50
                                              clear c50
                                              by_cases c60 : 0 < (x7_6.length : Int)
                                              · rw [if_pos c60] at H
                                                have c60b0 : decide (0 < (x7_6.length : Int)) = true := decide_eq_true c60
                                                have c60b1 : decide (0 < x7_6.length) = true := decide_eq_true (by omega)
                                                clear c60
                                                obtain ⟨y170, hy170⟩ : ∃ y_ : List Bool, y_ = (x7_6.set (0 : Int).toNat true) := ⟨_, rfl⟩
                                                replace H : (milestonelaw14_LinkPlays.j8 k6 l1 x5_2 y170 (IntKind.u64.wrap (x15_22 + 1)) (IntKind.u64.wrap (x5_2 + 6)) x10_2 x11_2 x12_2 t155 t156 t157 t158 t159) = some r := by first | (rw [hy170]; with_reducible exact H) | (have H2_ := (Option.bind_some _ _).symm.trans H; rw [hy170]; with_reducible exact H2_) | (have H2_ := (Option.bind_some _ _).symm.trans H; with_reducible exact H2_) | with_reducible exact H | (rw [hy170]; exact H) | exact H
                                                have Ny170 := Aside0.mk hy170
                                                clear hy170
                                                as_aux_lemma =>
                                                  have H' := Aside0.mk H
                                                  clear H
                                                  have p61 : 0 ≤ (0 : Int) := (by omega)
                                                  have q61 : (0 : Int) < ((x7_6.length : Int) : Int) := of_decide_eq_true (by first | (with_reducible assumption) | assumption)
                                                  have qi61 : (0 < x7_6.length) = True := eq_true (by omega)
                                                  obtain ⟨go61, co61, eo61, gb61, gl61, cl61, HG61⟩ := Kd.R_form HO_7.out (by omega)
                                                  (first | cases eo61 | (injection eo61 with ea_ en_ ec_; (first | subst ea_ | (injection ea_ with ea_; subst ea_)); subst ec_; clear en_))
                                                  have GB61 := Aside0.mk gb61
                                                  have GG61 := Aside0.mk HG61
                                                  clear gb61 gl61 HG61
                                                  obtain ⟨hx61_0, hf61_0⟩ := Kd.R_celln false HO_7.out (0 : Int) p61 q61
                                                  (try rw [show ((0 : Int)).toNat = 0 from rfl] at hx61_0)
                                                  (try simp only [Nat.reduceMul, Nat.zero_mul, Nat.zero_add, Nat.reduceAdd] at hx61_0)
                                                  (try rw [show ((0 : Int)).toNat = 0 from rfl] at hf61_0)
                                                  (try simp only [Nat.reduceMul, Nat.zero_mul, Nat.zero_add, Nat.reduceAdd] at hf61_0)
                                                  replace p61 := eq_true p61
                                                  replace q61 := eq_true q61
                                                  have HP62 := Kd.R_putg HO_7.out (0 : Int) true
                                                  go_wp2_with (first | ((with_reducible refine gate_store (t := 4) (p := 166) rfl ?_); refine store_event (t := 4) (p := 166) (v := ?vo_w63) (w1 := (wr.setCell ⟨go61, (0 : Int).toNat, none⟩ (.bool true))) ?hg ?ho ?hn ?hr ?_; (case ho => rfl); (case hg => rfl); (case hn => rfl); (case hr => first | (go_simp; done) | (go_simp; rfl)); intro w63 hw; have hg : wr.grownBy w63 (some go61) := (by rw [hw]; exact HP62.2); have hp_ : Kd.R Kd.bool 4 w63 w.heap.size (fun k_ => some k_ ≠ (u7 : Value).ownBlock) (.slice (some ⟨go61, 0, none⟩) x7_6.length co61) y170 := (by rw [hw, Ny170.out]; exact HP62.1); clear HP62; have n0_ := Aside0.mk (hp_); have n1_ := Aside0.mk (Kd.R_after (v := (.slice (some ⟨go61, 0, none⟩) x7_6.length co61)) (v1 := (.slice (some ⟨go61, 0, none⟩) x7_6.length co61)) (ok := (fun _ => True)) (by (with_reducible repeat (first | apply Kd.R_alloc | apply Kd.R_drewN | apply Kd.R_drew)); exact Kd.R_mono HO_18.out (fun _ hk => ⟨trivial, hk⟩)) hg (.inl rfl)); have n2_ := Aside0.mk (blk_grown (g := gb154) (o := .cells #[.int .u8 ((rd_T33 l1 x12_2).f0), .int .u8 ((rd_T33 l1 x12_2).f1), .int .u16 ((rd_T33 l1 x12_2).f2)] 33 (0, 0)) (by (with_reducible repeat (first | refine blk_drewN ?_ _ | refine blk_drew ?_ | refine blk_alloc ?_ _)); exact BK154.out) hg (Kd.R_ne HO_7.out BK154.out (by decide))); have n3_ := Aside0.mk (IsS41.grown (by repeat (first | (with_reducible first | exact HI149.out | apply IsS41.alloc | apply IsS41.drewN | apply IsS41.drew | apply IsS41.set_0 | apply IsS41.set_1 | apply IsS41.set_2 | apply IsS41.set_3 | apply IsS41.set_4 | refine IsS41.far ?_ NB149_154.out _) | exact HI149.out)) hg (IsS41.own_ne HI149.out HO_7.out (by decide))); have n4_ := Aside0.mk ((by rw [hw]; exact below_set (HB.out) GB61.out : Below w.heap.size w w63)); clear HO_7; clear HO_18; clear BK154; clear HI149; clear HB; have HO_7 := n0_; have HO_18 := n1_; have BK154 := n2_; have HI149 := n3_; have HB := n4_; clear n0_ n1_ n2_ n3_ n4_; clear hg hw hp_))
                                                  go_meet
                                                  case rel => exact ⟨_, (x5_2), (y170), (IntKind.u64.wrap (x15_22 + 1)), (IntKind.u64.wrap (x5_2 + 6)), (x10_2), (x11_2), (t155), (t156), (t157), (t158), (t159), (by first | rfl | (simp; done) | (simp [*]; done) | (refine qa_int ?_; omega) | (refine qa_int ?_; simp <;> omega)), (by first | rfl | (simp; done) | (simp [*]; done) | (refine qa_int ?_; omega) | (refine qa_int ?_; simp <;> omega)), (by first | rfl | (simp; done) | (simp [*]; done) | (refine qa_int ?_; omega) | (refine qa_int ?_; simp <;> omega)), (by first | rfl | (simp; done) | (simp [*]; done) | (refine qa_int ?_; omega) | (refine qa_int ?_; simp <;> omega)), (by first | rfl | (simp; done) | (simp [*]; done) | (refine qa_int ?_; omega) | (refine qa_int ?_; simp <;> omega)), H', ⟨by have := HJ2.out; have := HK2.out; have := HJ22.out; have := HK4.out; have := HJ35.out; have := HK6.out; first | omega | exact Nat.le_refl _⟩, ⟨by (with_reducible repeat (first | apply Kd.R_alloc | apply Kd.R_drewN | apply Kd.R_drew)); exact Kd.R_mono HO_7.out (fun _ hk => trivial)⟩, ⟨by (with_reducible repeat (first | refine blk_drewN ?_ _ | refine blk_drew ?_ | refine blk_alloc ?_ _)); exact BK154.out⟩, ⟨by repeat (first | (with_reducible first | exact HI149.out | apply IsS41.alloc | apply IsS41.drewN | apply IsS41.drew | apply IsS41.set_0 | apply IsS41.set_1 | apply IsS41.set_2 | apply IsS41.set_3 | apply IsS41.set_4 | refine IsS41.far ?_ NB149_154.out _) | exact HI149.out)⟩, ⟨by repeat (first | (with_reducible first | exact HB.out | apply below_alloc | apply pw_below_drewN | apply below_drew1 | refine below_set ?_ (IsS41.ge HI149.out) | refine below_set ?_ GE154.out) | exact HB.out)⟩⟩
                                              · rw [if_neg c60] at H
                                                exact absurd H (by simp)
                                      · rw [if_neg c47] at H
                                        exact absurd H (by simp)
                    · rw [if_neg c22] at H
                      have c22b0 : decide ((Int.tmod ((rd_T33 l1 x12_2).f0) 12) < 4) = false := decide_eq_false c22
                      clear c22
                      (first | rw [c22b0] | (simp only [i64_w, i32_w]; rw [c22b0]) | skip)
                      by_cases c64 : (Int.tmod ((rd_T33 l1 x12_2).f0) 12) < 6
                      · rw [if_pos c64] at H
                        have c64b0 : decide ((Int.tmod ((rd_T33 l1 x12_2).f0) 12) < 6) = true := decide_eq_true c64
                        clear c64
                        replace H := Option.bind_eq_some_iff.mp H
                        obtain ⟨⟨t171, t172, t173, t174, t175⟩, A650, H⟩ := H
                        replace H : (if ((rd_T33 l1 x12_2).f2) = 0 then (milestonelaw14_LinkPlays.j8 k2 l1 x5_2 x7_2 x8_2 x9_2 1 (IntKind.u64.wrap (x5_2 + 20)) x12_2 t171 t172 t173 t174 t175) else (milestonelaw14_LinkPlays.j8 k2 l1 x5_2 x7_2 x8_2 x9_2 ((rd_T33 l1 x12_2).f2) (IntKind.u64.wrap (x5_2 + 20)) x12_2 t171 t172 t173 t174 t175)) = some r := H
                        have A65 := Aside0.mk A650
                        clear A650
                        by_cases c66 : ((rd_T33 l1 x12_2).f2) = 0
                        · rw [if_pos c66] at H
                          have c66b0 : (((rd_T33 l1 x12_2).f2) == 0) = true := beq_iff_eq.mpr c66
                          have c66b1 : (((rd_T33 l1 x12_2).f2) != 0) = false := bne_eq_false_iff_eq.mpr c66
                          clear c66
                          as_aux_lemma =>
                            have H' := Aside0.mk H
                            clear H
                            have hnb67 := NB154_149.out
                            have hnc67 := NB149_154.out
                            have hcz68_0 : w19.cell? ⟨gb154, 0, none⟩ = some (.int .u8 0) := (blk_cell BK154.out 0).trans rfl
                            have hcz68_1 : w19.cell? ⟨gb154, 1, none⟩ = some (.int .u8 0) := (blk_cell BK154.out 1).trans rfl
                            have hcz68_2 : w19.cell? ⟨gb154, 2, none⟩ = some (.int .u16 0) := (blk_cell BK154.out 2).trans rfl
                            have hfz68_0 := blk_frozen BK154.out 0
                            have hfz68_1 := blk_frozen BK154.out 1
                            have hfz68_2 := blk_frozen BK154.out 2
                            go_wp2_with (first | ((with_reducible refine gate_callee (f := 13) rfl ?_); refine goesL_ (some 178) rfl rfl Try.func13 (by kernel_rfl) rfl #[.pointer (some ⟨g149, 0, none⟩), .int .u16 ((rd_T33 l1 x12_2).f2), .int .u64 x5_2] rfl (by (try simp only [List.map_toArray, List.map_cons, List.map_nil]); first | done | rfl | (simp only [List.length_drop, List.length_take]; rfl) | (simp; done) | (refine qa_arr ?_; (repeat' (first | rfl | refine qa_cons ?_ ?_ | refine qa_int ?_ | refine qa_agg ?_ | refine qa_arr ?_ | omega)); done)) ?_; (with_reducible refine (link_Link_Heard.calls g149 x150000_2 x150001_2 x150002_2 x150003_2 x150004_2 ((rd_T33 l1 x12_2).f2) x5_2 t171 t172 t173 t174 t175 w _ ?side1 ?side2 A65.out).mono ?_); (case side1 => repeat (first | (with_reducible first | exact HI149.out | apply IsS41.alloc | apply IsS41.drewN | apply IsS41.drew | apply IsS41.set_0 | apply IsS41.set_1 | apply IsS41.set_2 | apply IsS41.set_3 | apply IsS41.set_4 | refine IsS41.far ?_ NB149_154.out _) | exact HI149.out)); (case side2 => repeat (first | (with_reducible first | exact HB.out | apply below_alloc | apply pw_below_drewN | apply below_drew1 | refine below_set ?_ (IsS41.ge HI149.out) | refine below_set ?_ GE154.out) | exact HB.out)); rintro e w69 ⟨rfl, hi, hb, hk⟩; refine ⟨_, rfl, ?_⟩; have n0_ := Aside0.mk (Kd.R_mono (Kd.R_keep (IsS41.apart (show IsS41 w _ g149 x150000_2 x150001_2 x150002_2 x150003_2 x150004_2 from by repeat (first | (with_reducible first | exact HI149.out | apply IsS41.alloc | apply IsS41.drewN | apply IsS41.drew | apply IsS41.set_0 | apply IsS41.set_1 | apply IsS41.set_2 | apply IsS41.set_3 | apply IsS41.set_4 | refine IsS41.far ?_ NB149_154.out _) | exact HI149.out)) (by (with_reducible repeat (first | apply Kd.R_alloc | apply Kd.R_drewN | apply Kd.R_drew)); exact (Kd.R_mono (Kd.R_far (p := ⟨gb154, 2, none⟩) (Kd.R_far (p := ⟨gb154, 1, none⟩) (Kd.R_far (p := ⟨gb154, 0, none⟩) (Kd.R_types HO_7.out BK154.out (by decide)) (fun _ hk => hk.2) (.int .u8 ((rd_T33 l1 x12_2).f0))) (fun _ hk => hk.2) (.int .u8 ((rd_T33 l1 x12_2).f1))) (fun _ hk => hk.2) (.int .u16 ((rd_T33 l1 x12_2).f2))) (fun _ h_ => h_.1))) (by decide)) hk (fun _ h => h.2)) (fun _ h => h.1)); have n1_ := Aside0.mk (KeepBut.blk hk (g' := gb154) (o := .cells #[.int .u8 ((rd_T33 l1 x12_2).f0), .int .u8 ((rd_T33 l1 x12_2).f1), .int .u16 ((rd_T33 l1 x12_2).f2)] 33 (0, 0)) (by (with_reducible repeat (first | refine blk_drewN ?_ _ | refine blk_drew ?_ | refine blk_alloc ?_ _)); refine blk_put (cs := #[.int .u8 ((rd_T33 l1 x12_2).f0), .int .u8 ((rd_T33 l1 x12_2).f1), .int .u16 0]) ?_ 2 _ rfl; (with_reducible repeat (first | refine blk_drewN ?_ _ | refine blk_drew ?_ | refine blk_alloc ?_ _)); refine blk_put (cs := #[.int .u8 ((rd_T33 l1 x12_2).f0), .int .u8 0, .int .u16 0]) ?_ 1 _ rfl; (with_reducible repeat (first | refine blk_drewN ?_ _ | refine blk_drew ?_ | refine blk_alloc ?_ _)); refine blk_put (cs := #[.int .u8 0, .int .u8 0, .int .u16 0]) ?_ 0 _ rfl; (with_reducible repeat (first | refine blk_drewN ?_ _ | refine blk_drew ?_ | refine blk_alloc ?_ _)); exact BK154.out) NB154_149.out (by simp)); have n2_ := Aside0.mk (hb); have n3_ := Aside0.mk (hi); clear HO_7; clear BK154; clear HB; clear HI149; have HO_7 := n0_; have BK154 := n1_; have HB := n2_; have HI149 := n3_; clear n0_ n1_ n2_ n3_; (try clear hb); (try clear hb2); (try clear hk); (try clear hi); have hcz70_0 : w69.cell? ⟨gb154, 0, none⟩ = some (.int .u8 ((rd_T33 l1 x12_2).f0)) := (blk_cell BK154.out 0).trans rfl; have hcz70_1 : w69.cell? ⟨gb154, 1, none⟩ = some (.int .u8 ((rd_T33 l1 x12_2).f1)) := (blk_cell BK154.out 1).trans rfl; have hcz70_2 : w69.cell? ⟨gb154, 2, none⟩ = some (.int .u16 ((rd_T33 l1 x12_2).f2)) := (blk_cell BK154.out 2).trans rfl; have hfz70_0 := blk_frozen BK154.out 0; have hfz70_1 := blk_frozen BK154.out 1; have hfz70_2 := blk_frozen BK154.out 2))
                            go_meet
                            case rel => exact ⟨_, (x5_2), (x7_2), (x8_2), (x9_2), (1), (IntKind.u64.wrap (x5_2 + 20)), (t171), (t172), (t173), (t174), (t175), (by first | rfl | (simp; done) | (simp [*]; done) | (refine qa_int ?_; omega) | (refine qa_int ?_; simp <;> omega)), (by first | rfl | (simp; done) | (simp [*]; done) | (refine qa_int ?_; omega) | (refine qa_int ?_; simp <;> omega)), (by first | rfl | (simp; done) | (simp [*]; done) | (refine qa_int ?_; omega) | (refine qa_int ?_; simp <;> omega)), (by first | rfl | (simp; done) | (simp [*]; done) | (refine qa_int ?_; omega) | (refine qa_int ?_; simp <;> omega)), (by first | rfl | (simp; done) | (simp [*]; done) | (refine qa_int ?_; omega) | (refine qa_int ?_; simp <;> omega)), H', ⟨by have := HJ2.out; have := HK2.out; first | omega | exact Nat.le_refl _⟩, ⟨by (with_reducible repeat (first | apply Kd.R_alloc | apply Kd.R_drewN | apply Kd.R_drew)); exact HO_7.out⟩, ⟨by (with_reducible repeat (first | refine blk_drewN ?_ _ | refine blk_drew ?_ | refine blk_alloc ?_ _)); exact BK154.out⟩, ⟨by repeat (first | (with_reducible first | exact HI149.out | apply IsS41.alloc | apply IsS41.drewN | apply IsS41.drew | apply IsS41.set_0 | apply IsS41.set_1 | apply IsS41.set_2 | apply IsS41.set_3 | apply IsS41.set_4 | refine IsS41.far ?_ NB149_154.out _) | exact HI149.out)⟩, ⟨by repeat (first | (with_reducible first | exact HB.out | apply below_alloc | apply pw_below_drewN | apply below_drew1 | refine below_set ?_ (IsS41.ge HI149.out) | refine below_set ?_ GE154.out) | exact HB.out)⟩⟩
                        · rw [if_neg c66] at H
                          have c66b0 : (((rd_T33 l1 x12_2).f2) == 0) = false := beq_eq_false_iff_ne.mpr c66
                          have c66b1 : (((rd_T33 l1 x12_2).f2) != 0) = true := bne_iff_ne.mpr c66
                          as_aux_lemma =>
                            have H' := Aside0.mk H
                            clear H
                            have hnb71 := NB154_149.out
                            have hnc71 := NB149_154.out
                            have hcz72_0 : w19.cell? ⟨gb154, 0, none⟩ = some (.int .u8 0) := (blk_cell BK154.out 0).trans rfl
                            have hcz72_1 : w19.cell? ⟨gb154, 1, none⟩ = some (.int .u8 0) := (blk_cell BK154.out 1).trans rfl
                            have hcz72_2 : w19.cell? ⟨gb154, 2, none⟩ = some (.int .u16 0) := (blk_cell BK154.out 2).trans rfl
                            have hfz72_0 := blk_frozen BK154.out 0
                            have hfz72_1 := blk_frozen BK154.out 1
                            have hfz72_2 := blk_frozen BK154.out 2
                            go_wp2_with (first | ((with_reducible refine gate_callee (f := 13) rfl ?_); refine goesL_ (some 178) rfl rfl Try.func13 (by kernel_rfl) rfl #[.pointer (some ⟨g149, 0, none⟩), .int .u16 ((rd_T33 l1 x12_2).f2), .int .u64 x5_2] rfl (by (try simp only [List.map_toArray, List.map_cons, List.map_nil]); first | done | rfl | (simp only [List.length_drop, List.length_take]; rfl) | (simp; done) | (refine qa_arr ?_; (repeat' (first | rfl | refine qa_cons ?_ ?_ | refine qa_int ?_ | refine qa_agg ?_ | refine qa_arr ?_ | omega)); done)) ?_; (with_reducible refine (link_Link_Heard.calls g149 x150000_2 x150001_2 x150002_2 x150003_2 x150004_2 ((rd_T33 l1 x12_2).f2) x5_2 t171 t172 t173 t174 t175 w _ ?side1 ?side2 A65.out).mono ?_); (case side1 => repeat (first | (with_reducible first | exact HI149.out | apply IsS41.alloc | apply IsS41.drewN | apply IsS41.drew | apply IsS41.set_0 | apply IsS41.set_1 | apply IsS41.set_2 | apply IsS41.set_3 | apply IsS41.set_4 | refine IsS41.far ?_ NB149_154.out _) | exact HI149.out)); (case side2 => repeat (first | (with_reducible first | exact HB.out | apply below_alloc | apply pw_below_drewN | apply below_drew1 | refine below_set ?_ (IsS41.ge HI149.out) | refine below_set ?_ GE154.out) | exact HB.out)); rintro e w73 ⟨rfl, hi, hb, hk⟩; refine ⟨_, rfl, ?_⟩; have n0_ := Aside0.mk (Kd.R_mono (Kd.R_keep (IsS41.apart (show IsS41 w _ g149 x150000_2 x150001_2 x150002_2 x150003_2 x150004_2 from by repeat (first | (with_reducible first | exact HI149.out | apply IsS41.alloc | apply IsS41.drewN | apply IsS41.drew | apply IsS41.set_0 | apply IsS41.set_1 | apply IsS41.set_2 | apply IsS41.set_3 | apply IsS41.set_4 | refine IsS41.far ?_ NB149_154.out _) | exact HI149.out)) (by (with_reducible repeat (first | apply Kd.R_alloc | apply Kd.R_drewN | apply Kd.R_drew)); exact (Kd.R_mono (Kd.R_far (p := ⟨gb154, 2, none⟩) (Kd.R_far (p := ⟨gb154, 1, none⟩) (Kd.R_far (p := ⟨gb154, 0, none⟩) (Kd.R_types HO_7.out BK154.out (by decide)) (fun _ hk => hk.2) (.int .u8 ((rd_T33 l1 x12_2).f0))) (fun _ hk => hk.2) (.int .u8 ((rd_T33 l1 x12_2).f1))) (fun _ hk => hk.2) (.int .u16 ((rd_T33 l1 x12_2).f2))) (fun _ h_ => h_.1))) (by decide)) hk (fun _ h => h.2)) (fun _ h => h.1)); have n1_ := Aside0.mk (KeepBut.blk hk (g' := gb154) (o := .cells #[.int .u8 ((rd_T33 l1 x12_2).f0), .int .u8 ((rd_T33 l1 x12_2).f1), .int .u16 ((rd_T33 l1 x12_2).f2)] 33 (0, 0)) (by (with_reducible repeat (first | refine blk_drewN ?_ _ | refine blk_drew ?_ | refine blk_alloc ?_ _)); refine blk_put (cs := #[.int .u8 ((rd_T33 l1 x12_2).f0), .int .u8 ((rd_T33 l1 x12_2).f1), .int .u16 0]) ?_ 2 _ rfl; (with_reducible repeat (first | refine blk_drewN ?_ _ | refine blk_drew ?_ | refine blk_alloc ?_ _)); refine blk_put (cs := #[.int .u8 ((rd_T33 l1 x12_2).f0), .int .u8 0, .int .u16 0]) ?_ 1 _ rfl; (with_reducible repeat (first | refine blk_drewN ?_ _ | refine blk_drew ?_ | refine blk_alloc ?_ _)); refine blk_put (cs := #[.int .u8 0, .int .u8 0, .int .u16 0]) ?_ 0 _ rfl; (with_reducible repeat (first | refine blk_drewN ?_ _ | refine blk_drew ?_ | refine blk_alloc ?_ _)); exact BK154.out) NB154_149.out (by simp)); have n2_ := Aside0.mk (hb); have n3_ := Aside0.mk (hi); clear HO_7; clear BK154; clear HB; clear HI149; have HO_7 := n0_; have BK154 := n1_; have HB := n2_; have HI149 := n3_; clear n0_ n1_ n2_ n3_; (try clear hb); (try clear hb2); (try clear hk); (try clear hi); have hcz74_0 : w73.cell? ⟨gb154, 0, none⟩ = some (.int .u8 ((rd_T33 l1 x12_2).f0)) := (blk_cell BK154.out 0).trans rfl; have hcz74_1 : w73.cell? ⟨gb154, 1, none⟩ = some (.int .u8 ((rd_T33 l1 x12_2).f1)) := (blk_cell BK154.out 1).trans rfl; have hcz74_2 : w73.cell? ⟨gb154, 2, none⟩ = some (.int .u16 ((rd_T33 l1 x12_2).f2)) := (blk_cell BK154.out 2).trans rfl; have hfz74_0 := blk_frozen BK154.out 0; have hfz74_1 := blk_frozen BK154.out 1; have hfz74_2 := blk_frozen BK154.out 2))
                            go_meet
                            case rel => exact ⟨_, (x5_2), (x7_2), (x8_2), (x9_2), ((rd_T33 l1 x12_2).f2), (IntKind.u64.wrap (x5_2 + 20)), (t171), (t172), (t173), (t174), (t175), (by first | rfl | (simp; done) | (simp [*]; done) | (refine qa_int ?_; omega) | (refine qa_int ?_; simp <;> omega)), (by first | rfl | (simp; done) | (simp [*]; done) | (refine qa_int ?_; omega) | (refine qa_int ?_; simp <;> omega)), (by first | rfl | (simp; done) | (simp [*]; done) | (refine qa_int ?_; omega) | (refine qa_int ?_; simp <;> omega)), (by first | rfl | (simp; done) | (simp [*]; done) | (refine qa_int ?_; omega) | (refine qa_int ?_; simp <;> omega)), (by first | rfl | (simp; done) | (simp [*]; done) | (refine qa_int ?_; omega) | (refine qa_int ?_; simp <;> omega)), H', ⟨by have := HJ2.out; have := HK2.out; first | omega | exact Nat.le_refl _⟩, ⟨by (with_reducible repeat (first | apply Kd.R_alloc | apply Kd.R_drewN | apply Kd.R_drew)); exact HO_7.out⟩, ⟨by (with_reducible repeat (first | refine blk_drewN ?_ _ | refine blk_drew ?_ | refine blk_alloc ?_ _)); exact BK154.out⟩, ⟨by repeat (first | (with_reducible first | exact HI149.out | apply IsS41.alloc | apply IsS41.drewN | apply IsS41.drew | apply IsS41.set_0 | apply IsS41.set_1 | apply IsS41.set_2 | apply IsS41.set_3 | apply IsS41.set_4 | refine IsS41.far ?_ NB149_154.out _) | exact HI149.out)⟩, ⟨by repeat (first | (with_reducible first | exact HB.out | apply below_alloc | apply pw_below_drewN | apply below_drew1 | refine below_set ?_ (IsS41.ge HI149.out) | refine below_set ?_ GE154.out) | exact HB.out)⟩⟩
                      · rw [if_neg c64] at H
                        have c64b0 : decide ((Int.tmod ((rd_T33 l1 x12_2).f0) 12) < 6) = false := decide_eq_false c64
                        clear c64
                        replace H := Option.bind_eq_some_iff.mp H
                        obtain ⟨⟨t176, t177, t178, t179, t180⟩, A750, H⟩ := H
                        replace H : (milestonelaw14_LinkPlays.l3 k2 l1 (IntKind.u64.wrap (x5_2 + (IntKind.u64.wrap (1 + (IntKind.u64.wrap (Int.tmod ((rd_T33 l1 x12_2).f1) 8)))))) x7_2 x8_2 x9_2 x10_2 x11_2 x12_2 0 t176 t177 t178 t179 t180) = some r := H
                        have A75 := Aside0.mk A750
                        clear A750
                        have H' := Aside0.mk H
                        clear H
                        have hnb76 := NB154_149.out
                        have hnc76 := NB149_154.out
                        have hcz77_0 : w19.cell? ⟨gb154, 0, none⟩ = some (.int .u8 0) := (blk_cell BK154.out 0).trans rfl
                        have hcz77_1 : w19.cell? ⟨gb154, 1, none⟩ = some (.int .u8 0) := (blk_cell BK154.out 1).trans rfl
                        have hcz77_2 : w19.cell? ⟨gb154, 2, none⟩ = some (.int .u16 0) := (blk_cell BK154.out 2).trans rfl
                        have hfz77_0 := blk_frozen BK154.out 0
                        have hfz77_1 := blk_frozen BK154.out 1
                        have hfz77_2 := blk_frozen BK154.out 2
                        go_wp2_with (first | ((with_reducible refine gate_callee (f := 14) rfl ?_); refine goesL_ (some 66) rfl rfl Try.func14 (by kernel_rfl) rfl #[.pointer (some ⟨g149, 0, none⟩), .int .u64 (IntKind.u64.wrap (x5_2 + (IntKind.u64.wrap (1 + (IntKind.u64.wrap (Int.tmod ((rd_T33 l1 x12_2).f1) 8))))))] rfl (by (try simp only [List.map_toArray, List.map_cons, List.map_nil]); first | done | rfl | (simp only [List.length_drop, List.length_take]; rfl) | (simp; done) | (refine qa_arr ?_; (repeat' (first | rfl | refine qa_cons ?_ ?_ | refine qa_int ?_ | refine qa_agg ?_ | refine qa_arr ?_ | omega)); done)) ?_; (with_reducible refine (link_Link_Tick.calls k2 g149 x150000_2 x150001_2 x150002_2 x150003_2 x150004_2 (IntKind.u64.wrap (x5_2 + (IntKind.u64.wrap (1 + (IntKind.u64.wrap (Int.tmod ((rd_T33 l1 x12_2).f1) 8)))))) t176 t177 t178 t179 t180 w _ ?side1 ?side2 A75.out).mono ?_); (case side1 => repeat (first | (with_reducible first | exact HI149.out | apply IsS41.alloc | apply IsS41.drewN | apply IsS41.drew | apply IsS41.set_0 | apply IsS41.set_1 | apply IsS41.set_2 | apply IsS41.set_3 | apply IsS41.set_4 | refine IsS41.far ?_ NB149_154.out _) | exact HI149.out)); (case side2 => repeat (first | (with_reducible first | exact HB.out | apply below_alloc | apply pw_below_drewN | apply below_drew1 | refine below_set ?_ (IsS41.ge HI149.out) | refine below_set ?_ GE154.out) | exact HB.out)); rintro e w78 ⟨rfl, hi, hb, hk⟩; refine ⟨_, rfl, ?_⟩; have n0_ := Aside0.mk (Kd.R_mono (Kd.R_keep (IsS41.apart (show IsS41 w _ g149 x150000_2 x150001_2 x150002_2 x150003_2 x150004_2 from by repeat (first | (with_reducible first | exact HI149.out | apply IsS41.alloc | apply IsS41.drewN | apply IsS41.drew | apply IsS41.set_0 | apply IsS41.set_1 | apply IsS41.set_2 | apply IsS41.set_3 | apply IsS41.set_4 | refine IsS41.far ?_ NB149_154.out _) | exact HI149.out)) (by (with_reducible repeat (first | apply Kd.R_alloc | apply Kd.R_drewN | apply Kd.R_drew)); exact (Kd.R_mono (Kd.R_far (p := ⟨gb154, 2, none⟩) (Kd.R_far (p := ⟨gb154, 1, none⟩) (Kd.R_far (p := ⟨gb154, 0, none⟩) (Kd.R_types HO_7.out BK154.out (by decide)) (fun _ hk => hk.2) (.int .u8 ((rd_T33 l1 x12_2).f0))) (fun _ hk => hk.2) (.int .u8 ((rd_T33 l1 x12_2).f1))) (fun _ hk => hk.2) (.int .u16 ((rd_T33 l1 x12_2).f2))) (fun _ h_ => h_.1))) (by decide)) hk (fun _ h => h.2)) (fun _ h => h.1)); have n1_ := Aside0.mk (KeepBut.blk hk (g' := gb154) (o := .cells #[.int .u8 ((rd_T33 l1 x12_2).f0), .int .u8 ((rd_T33 l1 x12_2).f1), .int .u16 ((rd_T33 l1 x12_2).f2)] 33 (0, 0)) (by (with_reducible repeat (first | refine blk_drewN ?_ _ | refine blk_drew ?_ | refine blk_alloc ?_ _)); refine blk_put (cs := #[.int .u8 ((rd_T33 l1 x12_2).f0), .int .u8 ((rd_T33 l1 x12_2).f1), .int .u16 0]) ?_ 2 _ rfl; (with_reducible repeat (first | refine blk_drewN ?_ _ | refine blk_drew ?_ | refine blk_alloc ?_ _)); refine blk_put (cs := #[.int .u8 ((rd_T33 l1 x12_2).f0), .int .u8 0, .int .u16 0]) ?_ 1 _ rfl; (with_reducible repeat (first | refine blk_drewN ?_ _ | refine blk_drew ?_ | refine blk_alloc ?_ _)); refine blk_put (cs := #[.int .u8 0, .int .u8 0, .int .u16 0]) ?_ 0 _ rfl; (with_reducible repeat (first | refine blk_drewN ?_ _ | refine blk_drew ?_ | refine blk_alloc ?_ _)); exact BK154.out) NB154_149.out (by simp)); have n2_ := Aside0.mk (hb); have n3_ := Aside0.mk (hi); clear HO_7; clear BK154; clear HB; clear HI149; have HO_7 := n0_; have BK154 := n1_; have HB := n2_; have HI149 := n3_; clear n0_ n1_ n2_ n3_; (try clear hb); (try clear hb2); (try clear hk); (try clear hi)))
                        go_loopg [7, 8, 9, 21] k2 (fun kq v7 v8 v9 v21 w' => ∃ (x7_3 : List Bool) (x8_3 : Int) (x9_3 : Int) (x21_3 : Int), v8 = .int .u64 x8_3 ∧ v9 = .int .u64 x9_3 ∧ v21 = .int .i64 x21_3 ∧ Aside0 (milestonelaw14_LinkPlays.l3 kq l1 (IntKind.u64.wrap (x5_2 + (IntKind.u64.wrap (1 + (IntKind.u64.wrap (Int.tmod ((rd_T33 l1 x12_2).f1) 8)))))) x7_3 x8_3 x9_3 x10_2 x11_2 x12_2 x21_3 t176 t177 t178 t179 t180 = some r) ∧ Aside0 (kq ≤ k2) ∧ Aside0 (Kd.R Kd.bool 4 w' w.heap.size (fun _ => True) v7 x7_3) ∧ Aside0 (w'.heap[gb154]? = some (.cells #[.int .u8 ((rd_T33 l1 x12_2).f0), .int .u8 ((rd_T33 l1 x12_2).f1), .int .u16 ((rd_T33 l1 x12_2).f2)] 33 (0, 0))) ∧ Aside0 (IsS41 w w' g149 t176 t177 t178 t179 t180) ∧ Aside0 (Below w.heap.size w w'))
                        case atStart => exact ⟨(x7_2), (x8_2), (x9_2), (0), (by first | rfl | (simp; done) | (simp [*]; done) | (refine qa_int ?_; omega) | (refine qa_int ?_; simp <;> omega)), (by first | rfl | (simp; done) | (simp [*]; done) | (refine qa_int ?_; omega) | (refine qa_int ?_; simp <;> omega)), (by first | rfl | (simp; done) | (simp [*]; done) | (refine qa_int ?_; omega) | (refine qa_int ?_; simp <;> omega)), H', ⟨Nat.le_refl _⟩, ⟨by (with_reducible repeat (first | apply Kd.R_alloc | apply Kd.R_drewN | apply Kd.R_drew)); exact HO_7.out⟩, ⟨by (with_reducible repeat (first | refine blk_drewN ?_ _ | refine blk_drew ?_ | refine blk_alloc ?_ _)); exact BK154.out⟩, ⟨by repeat (first | (with_reducible first | exact HI149.out | apply IsS41.alloc | apply IsS41.drewN | apply IsS41.drew | apply IsS41.set_0 | apply IsS41.set_1 | apply IsS41.set_2 | apply IsS41.set_3 | apply IsS41.set_4 | refine IsS41.far ?_ NB149_154.out _) | exact HI149.out)⟩, ⟨by repeat (first | (with_reducible first | exact HB.out | apply below_alloc | apply pw_below_drewN | apply below_drew1 | refine below_set ?_ (IsS41.ge HI149.out) | refine below_set ?_ GE154.out) | exact HB.out)⟩⟩
                        case round =>
                          clear H'
                          try clear c1
                          try clear p1
                          try clear q1
                          try clear hx1
                          try clear c2
                          try clear p2
                          try clear c3
                          try clear c4
                          try clear p4
                          try clear q4
                          try clear hx4
                          try clear qi4
                          try clear hf4
                          try clear c5
                          try clear p5
                          try clear q5
                          try clear hx5
                          try clear hf5
                          try clear c6
                          try clear p6
                          try clear q6
                          try clear hx6
                          try clear qi6
                          try clear hf6
                          try clear c7
                          try clear c8
                          try clear c9
                          try clear c10
                          try clear c12
                          try clear c12b0
                          try clear c12b1
                          try clear c13
                          try clear c14
                          try clear p15
                          try clear q15
                          try clear hx15
                          try clear c16
                          try clear c16b0
                          try clear p16
                          try clear q16
                          try clear hx16
                          try clear c17
                          try clear c17b0
                          try clear c20
                          try clear c22
                          try clear c22b0
                          try clear c24
                          try clear c26
                          try clear c26b0
                          try clear c26b1
                          try clear c27
                          try clear c31
                          try clear c31b0
                          try clear c32
                          try clear c33
                          try clear c33b0
                          try clear c34
                          try clear c34b0
                          try clear c37
                          try clear c37b0
                          try clear c38
                          try clear c38b0
                          try clear c39
                          try clear c40
                          try clear c40b0
                          try clear c40b1
                          try clear c41
                          try clear c41b0
                          try clear c41b1
                          try clear p42
                          try clear q42
                          try clear hx42
                          try clear qi42
                          try clear hf42
                          try clear c47
                          try clear c47b0
                          try clear c47b1
                          try clear c50
                          try clear c50b0
                          try clear c51
                          try clear c51b0
                          try clear c52
                          try clear c52b0
                          try clear c54
                          try clear c54b0
                          try clear c55
                          try clear c55b0
                          try clear p56
                          try clear q56
                          try clear hx56
                          try clear hf56
                          try clear c60
                          try clear c60b0
                          try clear c60b1
                          try clear p61
                          try clear q61
                          try clear hx61
                          try clear qi61
                          try clear hf61
                          try clear c64
                          try clear c64b0
                          try clear p64
                          try clear c66
                          try clear c66b0
                          try clear c66b1
                          try clear c67
                          try clear c71
                          try clear c76
                          try clear hcz21_0
                          try clear hcz21_1
                          try clear hcz21_2
                          try clear hcz25_0
                          try clear hcz25_1
                          try clear hcz25_2
                          try clear hcz28_0
                          try clear hcz28_1
                          try clear hcz28_2
                          try clear hcz68_0
                          try clear hcz68_1
                          try clear hcz68_2
                          try clear hcz70_0
                          try clear hcz70_1
                          try clear hcz70_2
                          try clear hcz72_0
                          try clear hcz72_1
                          try clear hcz72_2
                          try clear hcz74_0
                          try clear hcz74_1
                          try clear hcz74_2
                          try clear hcz77_0
                          try clear hcz77_1
                          try clear hcz77_2
                          try clear hfz21_0
                          try clear hfz21_1
                          try clear hfz21_2
                          try clear hfz25_0
                          try clear hfz25_1
                          try clear hfz25_2
                          try clear hfz28_0
                          try clear hfz28_1
                          try clear hfz28_2
                          try clear hfz68_0
                          try clear hfz68_1
                          try clear hfz68_2
                          try clear hfz70_0
                          try clear hfz70_1
                          try clear hfz70_2
                          try clear hfz72_0
                          try clear hfz72_1
                          try clear hfz72_2
                          try clear hfz74_0
                          try clear hfz74_1
                          try clear hfz74_2
                          try clear hfz77_0
                          try clear hfz77_1
                          try clear hfz77_2
                          try clear hx153_0
                          try clear hx153_1
                          try clear hx153_2
                          try clear hx160_0
                          try clear hx168_0
                          try clear hx42_0
                          try clear hx56_0
                          try clear hx61_0
                          try clear p1
                          try clear p15
                          try clear p153
                          try clear p16
                          try clear p160
                          try clear p168
                          try clear p2
                          try clear p4
                          try clear p42
                          try clear p56
                          try clear p6
                          try clear p61
                          try clear q1
                          try clear q15
                          try clear q153
                          try clear q16
                          try clear q160
                          try clear q168
                          try clear q4
                          try clear q42
                          try clear q56
                          try clear q61
                          obtain ⟨x7_3, x8_3, x9_3, x21_3, rfl, rfl, rfl, HA, HK3, HO_7, BK154, HI149, HB⟩ := hrel
                          cases gk with
                          | zero => exact absurd HA.out (by simp [milestonelaw14_LinkPlays.l3])
                          | succ k3 =>
                            have H := HA.out
                            clear HA
                            simp only [milestonelaw14_LinkPlays.l3] at H
                            by_cases c79 : x21_3 < 100
                            · rw [if_pos c79] at H
                              have c79b0 : decide (x21_3 < 100) = true := decide_eq_true c79
                              clear c79
                              have H' := Aside0.mk H
                              clear H
                              go_wp2
                              go_loopg [22, 23] k3 (fun kq v22 v23 w' => ∃ (x22_4 : Bool) (x23_4 : Int), v22 = .bool x22_4 ∧ v23 = .int .i64 x23_4 ∧ Aside0 (milestonelaw14_LinkPlays.l4 kq l1 (IntKind.u64.wrap (x5_2 + (IntKind.u64.wrap (1 + (IntKind.u64.wrap (Int.tmod ((rd_T33 l1 x12_2).f1) 8)))))) x7_3 x8_3 x9_3 x10_2 x11_2 x12_2 x21_3 x22_4 x23_4 t176 t177 t178 t179 t180 = some r) ∧ Aside0 (kq ≤ k3) ∧ Aside0 (Kd.R Kd.bool 4 w' w.heap.size (fun _ => True) u7 x7_3) ∧ Aside0 (w'.heap[gb154]? = some (.cells #[.int .u8 ((rd_T33 l1 x12_2).f0), .int .u8 ((rd_T33 l1 x12_2).f1), .int .u16 ((rd_T33 l1 x12_2).f2)] 33 (0, 0))) ∧ Aside0 (IsS41 w w' g149 t176 t177 t178 t179 t180) ∧ Aside0 (Below w.heap.size w w'))
                              case atStart => exact ⟨(false), (0), (by first | rfl | (simp; done) | (simp [*]; done) | (refine qa_int ?_; omega) | (refine qa_int ?_; simp <;> omega)), (by first | rfl | (simp; done) | (simp [*]; done) | (refine qa_int ?_; omega) | (refine qa_int ?_; simp <;> omega)), H', ⟨Nat.le_refl _⟩, ⟨by (with_reducible repeat (first | apply Kd.R_alloc | apply Kd.R_drewN | apply Kd.R_drew)); exact HO_7.out⟩, ⟨by (with_reducible repeat (first | refine blk_drewN ?_ _ | refine blk_drew ?_ | refine blk_alloc ?_ _)); exact BK154.out⟩, ⟨by repeat (first | (with_reducible first | exact HI149.out | apply IsS41.alloc | apply IsS41.drewN | apply IsS41.drew | apply IsS41.set_0 | apply IsS41.set_1 | apply IsS41.set_2 | apply IsS41.set_3 | apply IsS41.set_4 | refine IsS41.far ?_ NB149_154.out _) | exact HI149.out)⟩, ⟨by repeat (first | (with_reducible first | exact HB.out | apply below_alloc | apply pw_below_drewN | apply below_drew1 | refine below_set ?_ (IsS41.ge HI149.out) | refine below_set ?_ GE154.out) | exact HB.out)⟩⟩
                              case round =>
                                clear H'
                                try clear c1
                                try clear p1
                                try clear q1
                                try clear hx1
                                try clear c2
                                try clear p2
                                try clear c3
                                try clear c4
                                try clear p4
                                try clear q4
                                try clear hx4
                                try clear qi4
                                try clear hf4
                                try clear c5
                                try clear p5
                                try clear q5
                                try clear hx5
                                try clear hf5
                                try clear c6
                                try clear p6
                                try clear q6
                                try clear hx6
                                try clear qi6
                                try clear hf6
                                try clear c7
                                try clear c8
                                try clear c9
                                try clear c10
                                try clear c12
                                try clear c12b0
                                try clear c12b1
                                try clear c13
                                try clear c14
                                try clear p15
                                try clear q15
                                try clear hx15
                                try clear c16
                                try clear c16b0
                                try clear p16
                                try clear q16
                                try clear hx16
                                try clear c17
                                try clear c17b0
                                try clear c20
                                try clear c22
                                try clear c22b0
                                try clear c24
                                try clear c26
                                try clear c26b0
                                try clear c26b1
                                try clear c27
                                try clear c31
                                try clear c31b0
                                try clear c32
                                try clear c33
                                try clear c33b0
                                try clear c34
                                try clear c34b0
                                try clear c37
                                try clear c37b0
                                try clear c38
                                try clear c38b0
                                try clear c39
                                try clear c40
                                try clear c40b0
                                try clear c40b1
                                try clear c41
                                try clear c41b0
                                try clear c41b1
                                try clear p42
                                try clear q42
                                try clear hx42
                                try clear qi42
                                try clear hf42
                                try clear c47
                                try clear c47b0
                                try clear c47b1
                                try clear c50
                                try clear c50b0
                                try clear c51
                                try clear c51b0
                                try clear c52
                                try clear c52b0
                                try clear c54
                                try clear c54b0
                                try clear c55
                                try clear c55b0
                                try clear p56
                                try clear q56
                                try clear hx56
                                try clear hf56
                                try clear c60
                                try clear c60b0
                                try clear c60b1
                                try clear p61
                                try clear q61
                                try clear hx61
                                try clear qi61
                                try clear hf61
                                try clear c64
                                try clear c64b0
                                try clear p64
                                try clear c66
                                try clear c66b0
                                try clear c66b1
                                try clear c67
                                try clear c71
                                try clear c76
                                try clear c79
                                try clear c79b0
                                try clear hcz21_0
                                try clear hcz21_1
                                try clear hcz21_2
                                try clear hcz25_0
                                try clear hcz25_1
                                try clear hcz25_2
                                try clear hcz28_0
                                try clear hcz28_1
                                try clear hcz28_2
                                try clear hcz68_0
                                try clear hcz68_1
                                try clear hcz68_2
                                try clear hcz70_0
                                try clear hcz70_1
                                try clear hcz70_2
                                try clear hcz72_0
                                try clear hcz72_1
                                try clear hcz72_2
                                try clear hcz74_0
                                try clear hcz74_1
                                try clear hcz74_2
                                try clear hcz77_0
                                try clear hcz77_1
                                try clear hcz77_2
                                try clear hfz21_0
                                try clear hfz21_1
                                try clear hfz21_2
                                try clear hfz25_0
                                try clear hfz25_1
                                try clear hfz25_2
                                try clear hfz28_0
                                try clear hfz28_1
                                try clear hfz28_2
                                try clear hfz68_0
                                try clear hfz68_1
                                try clear hfz68_2
                                try clear hfz70_0
                                try clear hfz70_1
                                try clear hfz70_2
                                try clear hfz72_0
                                try clear hfz72_1
                                try clear hfz72_2
                                try clear hfz74_0
                                try clear hfz74_1
                                try clear hfz74_2
                                try clear hfz77_0
                                try clear hfz77_1
                                try clear hfz77_2
                                try clear hx153_0
                                try clear hx153_1
                                try clear hx153_2
                                try clear hx160_0
                                try clear hx168_0
                                try clear hx42_0
                                try clear hx56_0
                                try clear hx61_0
                                try clear p1
                                try clear p15
                                try clear p153
                                try clear p16
                                try clear p160
                                try clear p168
                                try clear p2
                                try clear p4
                                try clear p42
                                try clear p5
                                try clear p56
                                try clear p6
                                try clear p61
                                try clear p64
                                try clear q1
                                try clear q15
                                try clear q153
                                try clear q16
                                try clear q160
                                try clear q168
                                try clear q4
                                try clear q42
                                try clear q5
                                try clear q56
                                try clear q6
                                try clear q61
                                obtain ⟨x22_4, x23_4, rfl, rfl, HA, HK4, HO_7, BK154, HI149, HB⟩ := hrel
                                cases gk with
                                | zero => exact absurd HA.out (by simp [milestonelaw14_LinkPlays.l4])
                                | succ k4 =>
                                  have H := HA.out
                                  clear HA
                                  simp only [milestonelaw14_LinkPlays.l4] at H
                                  by_cases c80 : x23_4 < 16
                                  · rw [if_pos c80] at H
                                    have c80b0 : decide (x23_4 < 16) = true := decide_eq_true c80
                                    clear c80
                                    by_cases c81 : x22_4 = true
                                    · subst c81
                                      have H1 : (milestonelaw14_LinkPlays.l4 k4 l1 (IntKind.u64.wrap (x5_2 + (IntKind.u64.wrap (1 + (IntKind.u64.wrap (Int.tmod ((rd_T33 l1 x12_2).f1) 8)))))) x7_3 x8_3 x9_3 x10_2 x11_2 x12_2 x21_3 true (wrap64 (x23_4 + 1)) t176 t177 t178 t179 t180) = some r := by rw [if_pos rfl] at H; exact H
                                      clear H
                                      have H := H1
                                      clear H1
                                      as_aux_lemma =>
                                        have H' := Aside0.mk H
                                        clear H
                                        go_wp2
                                        go_roundg k4
                                        case measure => have := HJ2.out; have := HK2.out; have := HK3.out; have := HK4.out; omega
                                        case rel => exact ⟨(true), (wrap64 (x23_4 + 1)), (by first | rfl | (simp; done) | (simp [*]; done) | (refine qa_int ?_; omega) | (refine qa_int ?_; simp <;> omega)), (by first | rfl | (simp; done) | (simp [*]; done) | (refine qa_int ?_; omega) | (refine qa_int ?_; simp <;> omega)), H', ⟨by have := HJ2.out; have := HK2.out; have := HK3.out; have := HK4.out; omega⟩, ⟨by (with_reducible repeat (first | apply Kd.R_alloc | apply Kd.R_drewN | apply Kd.R_drew)); exact HO_7.out⟩, ⟨by (with_reducible repeat (first | refine blk_drewN ?_ _ | refine blk_drew ?_ | refine blk_alloc ?_ _)); exact BK154.out⟩, ⟨by repeat (first | (with_reducible first | exact HI149.out | apply IsS41.alloc | apply IsS41.drewN | apply IsS41.drew | apply IsS41.set_0 | apply IsS41.set_1 | apply IsS41.set_2 | apply IsS41.set_3 | apply IsS41.set_4 | refine IsS41.far ?_ NB149_154.out _) | exact HI149.out)⟩, ⟨by repeat (first | (with_reducible first | exact HB.out | apply below_alloc | apply pw_below_drewN | apply below_drew1 | refine below_set ?_ (IsS41.ge HI149.out) | refine below_set ?_ GE154.out) | exact HB.out)⟩⟩
                                    · replace c81 := Bool.eq_false_iff.mpr c81
                                      subst c81
                                      have H1 : (if 0 ≤ x23_4 then (if x23_4 < (x7_3.length : Int) then (milestonelaw14_LinkPlays.l4 k4 l1 (IntKind.u64.wrap (x5_2 + (IntKind.u64.wrap (1 + (IntKind.u64.wrap (Int.tmod ((rd_T33 l1 x12_2).f1) 8)))))) x7_3 x8_3 x9_3 x10_2 x11_2 x12_2 x21_3 (rdOf false x7_3 x23_4) (wrap64 (x23_4 + 1)) t176 t177 t178 t179 t180) else (none)) else (none)) = some r := by rw [if_neg (show ¬ (false = true) by decide)] at H; exact H
                                      clear H
                                      have H := H1
                                      clear H1
                                      by_cases c82 : 0 ≤ x23_4
                                      · rw [if_pos c82] at H
                                        have c82b0 : decide (0 ≤ x23_4) = true := decide_eq_true c82
                                        clear c82
                                        by_cases c83 : x23_4 < (x7_3.length : Int)
                                        · rw [if_pos c83] at H
                                          have c83b0 : decide (x23_4 < (x7_3.length : Int)) = true := decide_eq_true c83
                                          clear c83
                                          as_aux_lemma =>
                                            have H' := Aside0.mk H
                                            clear H
                                            obtain ⟨Ao84, co84, eo84⟩ := Kd.R_slice HO_7.out
                                            subst eo84
                                            have p181 : 0 ≤ (x23_4 : Int) := of_decide_eq_true (by first | (with_reducible assumption) | assumption)
                                            have q181 : x23_4 < (x7_3.length : Int) := of_decide_eq_true (by first | (with_reducible assumption) | assumption)
                                            obtain ⟨ad181, e181, hx181_0⟩ := Kd.at_bool (Kd.R_reads' HO_7.out).2.2 x23_4 p181 q181
                                            cases e181
                                            replace p181 := eq_true p181
                                            replace q181 := eq_true q181
                                            go_wp2
                                            go_roundg k4
                                            case measure => have := HJ2.out; have := HK2.out; have := HK3.out; have := HK4.out; omega
                                            case rel => exact ⟨(rdOf false x7_3 x23_4), (wrap64 (x23_4 + 1)), (by first | rfl | (simp; done) | (simp [*]; done) | (refine qa_int ?_; omega) | (refine qa_int ?_; simp <;> omega)), (by first | rfl | (simp; done) | (simp [*]; done) | (refine qa_int ?_; omega) | (refine qa_int ?_; simp <;> omega)), H', ⟨by have := HJ2.out; have := HK2.out; have := HK3.out; have := HK4.out; omega⟩, ⟨by (with_reducible repeat (first | apply Kd.R_alloc | apply Kd.R_drewN | apply Kd.R_drew)); exact HO_7.out⟩, ⟨by (with_reducible repeat (first | refine blk_drewN ?_ _ | refine blk_drew ?_ | refine blk_alloc ?_ _)); exact BK154.out⟩, ⟨by repeat (first | (with_reducible first | exact HI149.out | apply IsS41.alloc | apply IsS41.drewN | apply IsS41.drew | apply IsS41.set_0 | apply IsS41.set_1 | apply IsS41.set_2 | apply IsS41.set_3 | apply IsS41.set_4 | refine IsS41.far ?_ NB149_154.out _) | exact HI149.out)⟩, ⟨by repeat (first | (with_reducible first | exact HB.out | apply below_alloc | apply pw_below_drewN | apply below_drew1 | refine below_set ?_ (IsS41.ge HI149.out) | refine below_set ?_ GE154.out) | exact HB.out)⟩⟩
                                        · rw [if_neg c83] at H
                                          exact absurd H (by simp)
                                      · rw [if_neg c82] at H
                                        exact absurd H (by simp)
                                  · rw [if_neg c80] at H
                                    have c80b0 : decide (x23_4 < 16) = false := decide_eq_false c80
                                    clear c80
                                    by_cases c85 : x22_4 = true
                                    · subst c85
                                      have H1 : (if (IntKind.u64.wrap (x5_2 + (IntKind.u64.wrap (1 + (IntKind.u64.wrap (Int.tmod ((rd_T33 l1 x12_2).f1) 8)))))) < x9_3 then (if (IntKind.u64.wrap (x5_2 + (IntKind.u64.wrap (1 + (IntKind.u64.wrap (Int.tmod ((rd_T33 l1 x12_2).f1) 8)))))) ≥ x11_2 then (milestonelaw14_LinkPlays.j8 k4 l1 (IntKind.u64.wrap (x5_2 + (IntKind.u64.wrap (1 + (IntKind.u64.wrap (Int.tmod ((rd_T33 l1 x12_2).f1) 8)))))) x7_3 x8_3 x9_3 65535 x11_2 x12_2 t176 t177 t178 t179 t180) else (milestonelaw14_LinkPlays.j8 k4 l1 (IntKind.u64.wrap (x5_2 + (IntKind.u64.wrap (1 + (IntKind.u64.wrap (Int.tmod ((rd_T33 l1 x12_2).f1) 8)))))) x7_3 x8_3 x9_3 x10_2 x11_2 x12_2 t176 t177 t178 t179 t180)) else ((some (([false] : List Bool) : List Bool)).bind fun y182 => (if 15 ≤ (x7_3.length : Int) then ((some (x7_3.take 15 : List Bool)).bind fun y185 => (if y182.length + y185.length < 140737488355328 then (milestonelaw14_LinkPlays.l3 k4 l1 (IntKind.u64.wrap (x5_2 + (IntKind.u64.wrap (1 + (IntKind.u64.wrap (Int.tmod ((rd_T33 l1 x12_2).f1) 8)))))) (y182 ++ y185) (IntKind.u64.wrap (x8_3 + 1)) (IntKind.u64.wrap (x9_3 + 6)) x10_2 x11_2 x12_2 (wrap64 (x21_3 + 1)) t176 t177 t178 t179 t180) else (none))) else (none)))) = some r := by rw [if_pos rfl] at H; exact H
                                      clear H
                                      have H := H1
                                      clear H1
                                      by_cases c86 : (IntKind.u64.wrap (x5_2 + (IntKind.u64.wrap (1 + (IntKind.u64.wrap (Int.tmod ((rd_T33 l1 x12_2).f1) 8)))))) < x9_3
                                      · rw [if_pos c86] at H
                                        have c86b0 : decide ((IntKind.u64.wrap (x5_2 + (IntKind.u64.wrap (1 + (IntKind.u64.wrap (Int.tmod ((rd_T33 l1 x12_2).f1) 8)))))) < x9_3) = true := decide_eq_true c86
                                        clear c86
                                        by_cases c87 : (IntKind.u64.wrap (x5_2 + (IntKind.u64.wrap (1 + (IntKind.u64.wrap (Int.tmod ((rd_T33 l1 x12_2).f1) 8)))))) ≥ x11_2
                                        · rw [if_pos c87] at H
                                          have c87b0 : decide (x11_2 ≤ (IntKind.u64.wrap (x5_2 + (IntKind.u64.wrap (1 + (IntKind.u64.wrap (Int.tmod ((rd_T33 l1 x12_2).f1) 8))))))) = true := decide_eq_true c87
                                          clear c87
                                          as_aux_lemma =>
                                            have H' := Aside0.mk H
                                            clear H
                                            go_wp2
                                            go_meet
                                            case rel => exact ⟨_, ((IntKind.u64.wrap (x5_2 + (IntKind.u64.wrap (1 + (IntKind.u64.wrap (Int.tmod ((rd_T33 l1 x12_2).f1) 8))))))), (x7_3), (x8_3), (x9_3), (65535), (x11_2), (t176), (t177), (t178), (t179), (t180), (by first | rfl | (simp; done) | (simp [*]; done) | (refine qa_int ?_; omega) | (refine qa_int ?_; simp <;> omega)), (by first | rfl | (simp; done) | (simp [*]; done) | (refine qa_int ?_; omega) | (refine qa_int ?_; simp <;> omega)), (by first | rfl | (simp; done) | (simp [*]; done) | (refine qa_int ?_; omega) | (refine qa_int ?_; simp <;> omega)), (by first | rfl | (simp; done) | (simp [*]; done) | (refine qa_int ?_; omega) | (refine qa_int ?_; simp <;> omega)), (by first | rfl | (simp; done) | (simp [*]; done) | (refine qa_int ?_; omega) | (refine qa_int ?_; simp <;> omega)), H', ⟨by have := HJ2.out; have := HK2.out; have := HK3.out; have := HK4.out; first | omega | exact Nat.le_refl _⟩, ⟨by (with_reducible repeat (first | apply Kd.R_alloc | apply Kd.R_drewN | apply Kd.R_drew)); exact HO_7.out⟩, ⟨by (with_reducible repeat (first | refine blk_drewN ?_ _ | refine blk_drew ?_ | refine blk_alloc ?_ _)); exact BK154.out⟩, ⟨by repeat (first | (with_reducible first | exact HI149.out | apply IsS41.alloc | apply IsS41.drewN | apply IsS41.drew | apply IsS41.set_0 | apply IsS41.set_1 | apply IsS41.set_2 | apply IsS41.set_3 | apply IsS41.set_4 | refine IsS41.far ?_ NB149_154.out _) | exact HI149.out)⟩, ⟨by repeat (first | (with_reducible first | exact HB.out | apply below_alloc | apply pw_below_drewN | apply below_drew1 | refine below_set ?_ (IsS41.ge HI149.out) | refine below_set ?_ GE154.out) | exact HB.out)⟩⟩
                                        · rw [if_neg c87] at H
                                          have c87b0 : decide (x11_2 ≤ (IntKind.u64.wrap (x5_2 + (IntKind.u64.wrap (1 + (IntKind.u64.wrap (Int.tmod ((rd_T33 l1 x12_2).f1) 8))))))) = false := decide_eq_false c87
                                          clear c87
                                          as_aux_lemma =>
                                            have H' := Aside0.mk H
                                            clear H
                                            go_wp2
                                            go_meet
                                            case rel => exact ⟨_, ((IntKind.u64.wrap (x5_2 + (IntKind.u64.wrap (1 + (IntKind.u64.wrap (Int.tmod ((rd_T33 l1 x12_2).f1) 8))))))), (x7_3), (x8_3), (x9_3), (x10_2), (x11_2), (t176), (t177), (t178), (t179), (t180), (by first | rfl | (simp; done) | (simp [*]; done) | (refine qa_int ?_; omega) | (refine qa_int ?_; simp <;> omega)), (by first | rfl | (simp; done) | (simp [*]; done) | (refine qa_int ?_; omega) | (refine qa_int ?_; simp <;> omega)), (by first | rfl | (simp; done) | (simp [*]; done) | (refine qa_int ?_; omega) | (refine qa_int ?_; simp <;> omega)), (by first | rfl | (simp; done) | (simp [*]; done) | (refine qa_int ?_; omega) | (refine qa_int ?_; simp <;> omega)), (by first | rfl | (simp; done) | (simp [*]; done) | (refine qa_int ?_; omega) | (refine qa_int ?_; simp <;> omega)), H', ⟨by have := HJ2.out; have := HK2.out; have := HK3.out; have := HK4.out; first | omega | exact Nat.le_refl _⟩, ⟨by (with_reducible repeat (first | apply Kd.R_alloc | apply Kd.R_drewN | apply Kd.R_drew)); exact HO_7.out⟩, ⟨by (with_reducible repeat (first | refine blk_drewN ?_ _ | refine blk_drew ?_ | refine blk_alloc ?_ _)); exact BK154.out⟩, ⟨by repeat (first | (with_reducible first | exact HI149.out | apply IsS41.alloc | apply IsS41.drewN | apply IsS41.drew | apply IsS41.set_0 | apply IsS41.set_1 | apply IsS41.set_2 | apply IsS41.set_3 | apply IsS41.set_4 | refine IsS41.far ?_ NB149_154.out _) | exact HI149.out)⟩, ⟨by repeat (first | (with_reducible first | exact HB.out | apply below_alloc | apply pw_below_drewN | apply below_drew1 | refine below_set ?_ (IsS41.ge HI149.out) | refine below_set ?_ GE154.out) | exact HB.out)⟩⟩
                                      · rw [if_neg c86] at H
                                        have c86b0 : decide ((IntKind.u64.wrap (x5_2 + (IntKind.u64.wrap (1 + (IntKind.u64.wrap (Int.tmod ((rd_T33 l1 x12_2).f1) 8)))))) < x9_3) = false := decide_eq_false c86
                                        clear c86
                                        obtain ⟨y182, hy182⟩ : ∃ y_ : List Bool, y_ = (([false] : List Bool)) := ⟨_, rfl⟩
                                        replace H : (if 15 ≤ (x7_3.length : Int) then ((some (x7_3.take 15 : List Bool)).bind fun y185 => (if y182.length + y185.length < 140737488355328 then (milestonelaw14_LinkPlays.l3 k4 l1 (IntKind.u64.wrap (x5_2 + (IntKind.u64.wrap (1 + (IntKind.u64.wrap (Int.tmod ((rd_T33 l1 x12_2).f1) 8)))))) (y182 ++ y185) (IntKind.u64.wrap (x8_3 + 1)) (IntKind.u64.wrap (x9_3 + 6)) x10_2 x11_2 x12_2 (wrap64 (x21_3 + 1)) t176 t177 t178 t179 t180) else (none))) else (none)) = some r := by first | (rw [hy182]; with_reducible exact H) | (have H2_ := (Option.bind_some _ _).symm.trans H; rw [hy182]; with_reducible exact H2_) | (have H2_ := (Option.bind_some _ _).symm.trans H; with_reducible exact H2_) | with_reducible exact H | (rw [hy182]; exact H) | exact H
                                        have Ny182 := Aside0.mk hy182
                                        clear hy182
                                        by_cases c88 : 15 ≤ (x7_3.length : Int)
                                        · rw [if_pos c88] at H
                                          have c88b0 := eq_true c88
                                          have c88b1 : decide (15 ≤ (x7_3.length : Int)) = true := decide_eq_true c88
                                          clear c88
                                          obtain ⟨y185, hy185⟩ : ∃ y_ : List Bool, y_ = (x7_3.take 15) := ⟨_, rfl⟩
                                          replace H : (if y182.length + y185.length < 140737488355328 then (milestonelaw14_LinkPlays.l3 k4 l1 (IntKind.u64.wrap (x5_2 + (IntKind.u64.wrap (1 + (IntKind.u64.wrap (Int.tmod ((rd_T33 l1 x12_2).f1) 8)))))) (y182 ++ y185) (IntKind.u64.wrap (x8_3 + 1)) (IntKind.u64.wrap (x9_3 + 6)) x10_2 x11_2 x12_2 (wrap64 (x21_3 + 1)) t176 t177 t178 t179 t180) else (none)) = some r := by first | (rw [hy185]; with_reducible exact H) | (have H2_ := (Option.bind_some _ _).symm.trans H; rw [hy185]; with_reducible exact H2_) | (have H2_ := (Option.bind_some _ _).symm.trans H; with_reducible exact H2_) | with_reducible exact H | (rw [hy185]; exact H) | exact H
                                          have Ny185 := Aside0.mk hy185
                                          clear hy185
                                          by_cases c89 : y182.length + y185.length < 140737488355328
                                          · rw [if_pos c89] at H
                                            have LMc89 := Aside0.mk c89
                                            clear c89
                                            obtain ⟨y189, hy189⟩ : ∃ y_ : List Bool, y_ = (y182 ++ y185) := ⟨_, rfl⟩
                                            replace H : (milestonelaw14_LinkPlays.l3 k4 l1 (IntKind.u64.wrap (x5_2 + (IntKind.u64.wrap (1 + (IntKind.u64.wrap (Int.tmod ((rd_T33 l1 x12_2).f1) 8)))))) y189 (IntKind.u64.wrap (x8_3 + 1)) (IntKind.u64.wrap (x9_3 + 6)) x10_2 x11_2 x12_2 (wrap64 (x21_3 + 1)) t176 t177 t178 t179 t180) = some r := by first | (rw [hy189]; with_reducible exact H) | (have H2_ := (Option.bind_some _ _).symm.trans H; rw [hy189]; with_reducible exact H2_) | (have H2_ := (Option.bind_some _ _).symm.trans H; with_reducible exact H2_) | with_reducible exact H | (rw [hy189]; exact H) | exact H
                                            have Ny189 := Aside0.mk hy189
                                            clear hy189
                                            as_aux_lemma =>
                                              have H' := Aside0.mk H
                                              clear H
                                              go_wp2_with (first | ((with_reducible refine gate_dst (N := 89) rfl ?_); (try (refine gate_guard (by rfl) ?_; dsimp only)); refine Kd.R_lit Kd.bool _ 4 ?hg (N := 89) ?hd (xs := ([false] : List Bool)) (inner := [.bool false]) (ok := fun _ => True) (okp := fun _ => True) ?hr ?hp (fun _ hk => hk) trivial (Below.refl _ _) (Nat.le_refl _) (by simp) ?_; (case hd => rfl); (case hg => rfl); (case hr => first | (go_simp; done) | (go_simp; rfl)); (case hp => exact (Reps.one (show Kd.M Kd.bool _ _ _ false [.bool false] from rfl) (Reps.none _ _))); intro v183 w90 ho91 hb hg_ hnew_; clear hg_ hnew_; (first | rw [← Ny182.out] at ho91 | (simp only [Int.reduceToNat] at ho91; rw [← Ny182.out] at ho91)); have n0_ := Aside0.mk (Kd.R_elder' (by (with_reducible repeat (first | apply Kd.R_alloc | apply Kd.R_drewN | apply Kd.R_drew)); exact HO_7.out) (Kd.R_base ho91) hb); have n1_ := Aside0.mk (Kd.R_lower (Kd.R_new' ho91 (Kd.R_lt (by (with_reducible repeat (first | apply Kd.R_alloc | apply Kd.R_drewN | apply Kd.R_drew)); exact HO_7.out))) (below_size (by repeat (first | (with_reducible first | exact HB.out | apply below_alloc | apply pw_below_drewN | apply below_drew1 | refine below_set ?_ (IsS41.ge HI149.out) | refine below_set ?_ GE154.out) | exact HB.out)))); have n2_ := Aside0.mk (blk_below (g := gb154) (o := .cells #[.int .u8 ((rd_T33 l1 x12_2).f0), .int .u8 ((rd_T33 l1 x12_2).f1), .int .u16 ((rd_T33 l1 x12_2).f2)] 33 (0, 0)) (by (with_reducible repeat (first | refine blk_drewN ?_ _ | refine blk_drew ?_ | refine blk_alloc ?_ _)); exact BK154.out) hb); have n3_ := Aside0.mk (IsS41.below (by repeat (first | (with_reducible first | exact HI149.out | apply IsS41.alloc | apply IsS41.drewN | apply IsS41.drew | apply IsS41.set_0 | apply IsS41.set_1 | apply IsS41.set_2 | apply IsS41.set_3 | apply IsS41.set_4 | refine IsS41.far ?_ NB149_154.out _) | exact HI149.out)) hb); have n4_ := Aside0.mk (below_step (by repeat (first | (with_reducible first | exact HB.out | apply below_alloc | apply pw_below_drewN | apply below_drew1 | refine below_set ?_ (IsS41.ge HI149.out) | refine below_set ?_ GE154.out) | exact HB.out)) hb); clear HO_7; clear BK154; clear HI149; clear HB; have HO_7 := n0_; have HO184 := n1_; have BK154 := n2_; have HI149 := n3_; have HB := n4_; clear n0_ n1_ n2_ n3_ n4_; clear hb ho91; obtain ⟨Ao93, co93, eo93⟩ := Kd.R_slice HO_7.out; subst eo93; have q92 : (15 : Int) ≤ ((x7_3.length : Int) : Int) := of_decide_eq_true (by first | (with_reducible assumption) | assumption); obtain ⟨i092, hi092, _, hsz92, _⟩ := info_parts info4; have hroom92 : x7_3.length ≤ co93 := (Kd.R_reads' HO_7.out).2.1; have hC92 : Kd.C Kd.bool _ Ao93 x7_3.length x7_3 := (Kd.R_reads' HO_7.out).2.2; have hcut92 := cut_to (P := Try.prog) 22 4 .i64 Try.underlying22 hi092 Ao93 x7_3.length co93 15 (by omega) q92 hroom92; have hr92 := Kd.C_take (m := 15) hC92 (by omega); have hy92 : y185.length = (15 : Int).toNat := (by rw [Ny185.out, List.length_take]; omega); rw [← Ny185.out] at hr92; rw [← hy92] at hcut92; have HR188 := Aside0.mk hr92; have HC188 := Aside0.mk (show y185.length ≤ co93 from by omega); clear hr92 hC92 hroom92 hi092 hsz92; have KY92 := Aside0.mk hy92; clear hy92; have KL92 := Aside0.mk (show 15 ≤ x7_3.length from by omega); replace q92 := eq_true q92) | ((with_reducible refine gate_builtin (b := .append) (xs := #[.tmp 89, .tmp 91]) rfl ?_); (try (refine gate_guard (by rfl) ?_; dsimp only)); at_builtin; refine Kd.R_append_rows Kd.bool (w0 := w) w.heap.size rfl (.tmp 89) (.tmp 91) 22 4 (.bool false) 1 rfl Try.underlying22 info4 rfl (by decide) (by omega) v183 y182 y185 _ _ _ (fun k_ => some k_ ≠ (.slice Ao93 x7_3.length co93 : Value).ownBlock) (fun _ => False) rfl rfl ?aO ?aR (fun _ _ h => h) (fun _ h => h.elim) ?aF ?aB ?aS ?aL ?_; (case aR => repeat (first | exact (by repeat (first | (with_reducible exact HR188.out) | (with_reducible refine Kd.C_alloc ?_ _) | (with_reducible refine Kd.C_drewN ?_ _) | (with_reducible refine Kd.C_drew ?_) | exact HR188.out)) | (with_reducible refine Kd.C_alloc ?_ _) | (with_reducible refine Kd.C_drewN ?_ _) | (with_reducible refine Kd.C_drew ?_))); (case aB => exact (by repeat (first | (with_reducible first | exact HB.out | apply below_alloc | apply pw_below_drewN | apply below_drew1 | refine below_set ?_ (IsS41.ge HI149.out) | refine below_set ?_ GE154.out) | exact HB.out))); (case aF => exact (fun k_ hk => Kd.fresh' (Kd.R_lt (by (with_reducible repeat (first | apply Kd.R_alloc | apply Kd.R_drewN | apply Kd.R_drew)); exact HO_7.out)) k_ hk)); (case aO => exact (by (with_reducible repeat (first | apply Kd.R_alloc | apply Kd.R_drewN | apply Kd.R_drew)); exact Kd.R_mono HO184.out (fun _ hk => hk.2))); (case aS => exact (below_size (by repeat (first | (with_reducible first | exact HB.out | apply below_alloc | apply pw_below_drewN | apply below_drew1 | refine below_set ?_ (IsS41.ge HI149.out) | refine below_set ?_ GE154.out) | exact HB.out)))); (case aL => have := LMc89.out; omega); intro v190 w94 ho hb hg hat; rw [← Ny189.out] at ho; have n0_ := Aside0.mk (Kd.R_after (ok := (fun _ => True)) (by (with_reducible repeat (first | apply Kd.R_alloc | apply Kd.R_drewN | apply Kd.R_drew)); exact HO_7.out) hg hat); have n1_ := Aside0.mk (blk_grown (g := gb154) (o := .cells #[.int .u8 ((rd_T33 l1 x12_2).f0), .int .u8 ((rd_T33 l1 x12_2).f1), .int .u16 ((rd_T33 l1 x12_2).f2)] 33 (0, 0)) (by (with_reducible repeat (first | refine blk_drewN ?_ _ | refine blk_drew ?_ | refine blk_alloc ?_ _)); exact BK154.out) hg (Kd.R_ne HO184.out BK154.out (by decide))); have n2_ := Aside0.mk (IsS41.grown (by repeat (first | (with_reducible first | exact HI149.out | apply IsS41.alloc | apply IsS41.drewN | apply IsS41.drew | apply IsS41.set_0 | apply IsS41.set_1 | apply IsS41.set_2 | apply IsS41.set_3 | apply IsS41.set_4 | refine IsS41.far ?_ NB149_154.out _) | exact HI149.out)) hg (IsS41.own_ne HI149.out HO184.out (by decide))); have n3_ := Aside0.mk (hb); have n4_ := Aside0.mk ((show Kd.C Kd.bool w94 Ao93 y185.length y185 from by rw [Ny185.out]; exact Kd.C_take (m := 15) ((Kd.R_reads' (Kd.R_after (ok := (fun _ => True)) (by (with_reducible repeat (first | apply Kd.R_alloc | apply Kd.R_drewN | apply Kd.R_drew)); exact HO_7.out) hg hat)).2.2) KL92.out)); have n5_ := Aside0.mk (ho); clear HO_7; clear BK154; clear HI149; clear HB; clear HR188; clear HO184; have HO_7 := n0_; have BK154 := n1_; have HI149 := n2_; have HB := n3_; have HR188 := n4_; have HO191 := n5_; clear n0_ n1_ n2_ n3_ n4_ n5_; clear ho hb hg hat))
                                              go_roundg k4
                                              case measure => have := HJ2.out; have := HK2.out; have := HK3.out; have := HK4.out; omega
                                              case rel => exact ⟨(y189), (IntKind.u64.wrap (x8_3 + 1)), (IntKind.u64.wrap (x9_3 + 6)), (wrap64 (x21_3 + 1)), (by first | rfl | (simp; done) | (simp [*]; done) | (refine qa_int ?_; omega) | (refine qa_int ?_; simp <;> omega)), (by first | rfl | (simp; done) | (simp [*]; done) | (refine qa_int ?_; omega) | (refine qa_int ?_; simp <;> omega)), (by first | rfl | (simp; done) | (simp [*]; done) | (refine qa_int ?_; omega) | (refine qa_int ?_; simp <;> omega)), H', ⟨by have := HJ2.out; have := HK2.out; have := HK3.out; have := HK4.out; omega⟩, ⟨by (with_reducible repeat (first | apply Kd.R_alloc | apply Kd.R_drewN | apply Kd.R_drew)); exact Kd.R_mono HO191.out (fun _ hk => trivial)⟩, ⟨by (with_reducible repeat (first | refine blk_drewN ?_ _ | refine blk_drew ?_ | refine blk_alloc ?_ _)); exact BK154.out⟩, ⟨by repeat (first | (with_reducible first | exact HI149.out | apply IsS41.alloc | apply IsS41.drewN | apply IsS41.drew | apply IsS41.set_0 | apply IsS41.set_1 | apply IsS41.set_2 | apply IsS41.set_3 | apply IsS41.set_4 | refine IsS41.far ?_ NB149_154.out _) | exact HI149.out)⟩, ⟨by repeat (first | (with_reducible first | exact HB.out | apply below_alloc | apply pw_below_drewN | apply below_drew1 | refine below_set ?_ (IsS41.ge HI149.out) | refine below_set ?_ GE154.out) | exact HB.out)⟩⟩
                                          · rw [if_neg c89] at H
                                            exact absurd H (by simp)
                                        · rw [if_neg c88] at H
                                          exact absurd H (by simp)
                                    · replace c85 := Bool.eq_false_iff.mpr c85
                                      subst c85
                                      have H1 : (if (IntKind.u64.wrap (x5_2 + (IntKind.u64.wrap (1 + (IntKind.u64.wrap (Int.tmod ((rd_T33 l1 x12_2).f1) 8)))))) ≥ x11_2 then (milestonelaw14_LinkPlays.j8 k4 l1 (IntKind.u64.wrap (x5_2 + (IntKind.u64.wrap (1 + (IntKind.u64.wrap (Int.tmod ((rd_T33 l1 x12_2).f1) 8)))))) x7_3 x8_3 x9_3 65535 x11_2 x12_2 t176 t177 t178 t179 t180) else (milestonelaw14_LinkPlays.j8 k4 l1 (IntKind.u64.wrap (x5_2 + (IntKind.u64.wrap (1 + (IntKind.u64.wrap (Int.tmod ((rd_T33 l1 x12_2).f1) 8)))))) x7_3 x8_3 x9_3 x10_2 x11_2 x12_2 t176 t177 t178 t179 t180)) = some r := by rw [if_neg (show ¬ (false = true) by decide)] at H; exact H
                                      clear H
                                      have H := H1
                                      clear H1
                                      by_cases c95 : (IntKind.u64.wrap (x5_2 + (IntKind.u64.wrap (1 + (IntKind.u64.wrap (Int.tmod ((rd_T33 l1 x12_2).f1) 8)))))) ≥ x11_2
                                      · rw [if_pos c95] at H
                                        have c95b0 : decide (x11_2 ≤ (IntKind.u64.wrap (x5_2 + (IntKind.u64.wrap (1 + (IntKind.u64.wrap (Int.tmod ((rd_T33 l1 x12_2).f1) 8))))))) = true := decide_eq_true c95
                                        clear c95
                                        as_aux_lemma =>
                                          have H' := Aside0.mk H
                                          clear H
                                          go_wp2
                                          go_meet
                                          case rel => exact ⟨_, ((IntKind.u64.wrap (x5_2 + (IntKind.u64.wrap (1 + (IntKind.u64.wrap (Int.tmod ((rd_T33 l1 x12_2).f1) 8))))))), (x7_3), (x8_3), (x9_3), (65535), (x11_2), (t176), (t177), (t178), (t179), (t180), (by first | rfl | (simp; done) | (simp [*]; done) | (refine qa_int ?_; omega) | (refine qa_int ?_; simp <;> omega)), (by first | rfl | (simp; done) | (simp [*]; done) | (refine qa_int ?_; omega) | (refine qa_int ?_; simp <;> omega)), (by first | rfl | (simp; done) | (simp [*]; done) | (refine qa_int ?_; omega) | (refine qa_int ?_; simp <;> omega)), (by first | rfl | (simp; done) | (simp [*]; done) | (refine qa_int ?_; omega) | (refine qa_int ?_; simp <;> omega)), (by first | rfl | (simp; done) | (simp [*]; done) | (refine qa_int ?_; omega) | (refine qa_int ?_; simp <;> omega)), H', ⟨by have := HJ2.out; have := HK2.out; have := HK3.out; have := HK4.out; first | omega | exact Nat.le_refl _⟩, ⟨by (with_reducible repeat (first | apply Kd.R_alloc | apply Kd.R_drewN | apply Kd.R_drew)); exact HO_7.out⟩, ⟨by (with_reducible repeat (first | refine blk_drewN ?_ _ | refine blk_drew ?_ | refine blk_alloc ?_ _)); exact BK154.out⟩, ⟨by repeat (first | (with_reducible first | exact HI149.out | apply IsS41.alloc | apply IsS41.drewN | apply IsS41.drew | apply IsS41.set_0 | apply IsS41.set_1 | apply IsS41.set_2 | apply IsS41.set_3 | apply IsS41.set_4 | refine IsS41.far ?_ NB149_154.out _) | exact HI149.out)⟩, ⟨by repeat (first | (with_reducible first | exact HB.out | apply below_alloc | apply pw_below_drewN | apply below_drew1 | refine below_set ?_ (IsS41.ge HI149.out) | refine below_set ?_ GE154.out) | exact HB.out)⟩⟩
                                      · rw [if_neg c95] at H
                                        have c95b0 : decide (x11_2 ≤ (IntKind.u64.wrap (x5_2 + (IntKind.u64.wrap (1 + (IntKind.u64.wrap (Int.tmod ((rd_T33 l1 x12_2).f1) 8))))))) = false := decide_eq_false c95
                                        clear c95
                                        as_aux_lemma =>
                                          have H' := Aside0.mk H
                                          clear H
                                          go_wp2
                                          go_meet
                                          case rel => exact ⟨_, ((IntKind.u64.wrap (x5_2 + (IntKind.u64.wrap (1 + (IntKind.u64.wrap (Int.tmod ((rd_T33 l1 x12_2).f1) 8))))))), (x7_3), (x8_3), (x9_3), (x10_2), (x11_2), (t176), (t177), (t178), (t179), (t180), (by first | rfl | (simp; done) | (simp [*]; done) | (refine qa_int ?_; omega) | (refine qa_int ?_; simp <;> omega)), (by first | rfl | (simp; done) | (simp [*]; done) | (refine qa_int ?_; omega) | (refine qa_int ?_; simp <;> omega)), (by first | rfl | (simp; done) | (simp [*]; done) | (refine qa_int ?_; omega) | (refine qa_int ?_; simp <;> omega)), (by first | rfl | (simp; done) | (simp [*]; done) | (refine qa_int ?_; omega) | (refine qa_int ?_; simp <;> omega)), (by first | rfl | (simp; done) | (simp [*]; done) | (refine qa_int ?_; omega) | (refine qa_int ?_; simp <;> omega)), H', ⟨by have := HJ2.out; have := HK2.out; have := HK3.out; have := HK4.out; first | omega | exact Nat.le_refl _⟩, ⟨by (with_reducible repeat (first | apply Kd.R_alloc | apply Kd.R_drewN | apply Kd.R_drew)); exact HO_7.out⟩, ⟨by (with_reducible repeat (first | refine blk_drewN ?_ _ | refine blk_drew ?_ | refine blk_alloc ?_ _)); exact BK154.out⟩, ⟨by repeat (first | (with_reducible first | exact HI149.out | apply IsS41.alloc | apply IsS41.drewN | apply IsS41.drew | apply IsS41.set_0 | apply IsS41.set_1 | apply IsS41.set_2 | apply IsS41.set_3 | apply IsS41.set_4 | refine IsS41.far ?_ NB149_154.out _) | exact HI149.out)⟩, ⟨by repeat (first | (with_reducible first | exact HB.out | apply below_alloc | apply pw_below_drewN | apply below_drew1 | refine below_set ?_ (IsS41.ge HI149.out) | refine below_set ?_ GE154.out) | exact HB.out)⟩⟩
                            · rw [if_neg c79] at H
                              have c79b0 : decide (x21_3 < 100) = false := decide_eq_false c79
                              clear c79
                              by_cases c96 : (IntKind.u64.wrap (x5_2 + (IntKind.u64.wrap (1 + (IntKind.u64.wrap (Int.tmod ((rd_T33 l1 x12_2).f1) 8)))))) ≥ x11_2
                              · rw [if_pos c96] at H
                                have c96b0 : decide (x11_2 ≤ (IntKind.u64.wrap (x5_2 + (IntKind.u64.wrap (1 + (IntKind.u64.wrap (Int.tmod ((rd_T33 l1 x12_2).f1) 8))))))) = true := decide_eq_true c96
                                clear c96
                                as_aux_lemma =>
                                  have H' := Aside0.mk H
                                  clear H
                                  go_wp2
                                  go_meet
                                  case rel => exact ⟨_, ((IntKind.u64.wrap (x5_2 + (IntKind.u64.wrap (1 + (IntKind.u64.wrap (Int.tmod ((rd_T33 l1 x12_2).f1) 8))))))), (x7_3), (x8_3), (x9_3), (65535), (x11_2), (t176), (t177), (t178), (t179), (t180), (by first | rfl | (simp; done) | (simp [*]; done) | (refine qa_int ?_; omega) | (refine qa_int ?_; simp <;> omega)), (by first | rfl | (simp; done) | (simp [*]; done) | (refine qa_int ?_; omega) | (refine qa_int ?_; simp <;> omega)), (by first | rfl | (simp; done) | (simp [*]; done) | (refine qa_int ?_; omega) | (refine qa_int ?_; simp <;> omega)), (by first | rfl | (simp; done) | (simp [*]; done) | (refine qa_int ?_; omega) | (refine qa_int ?_; simp <;> omega)), (by first | rfl | (simp; done) | (simp [*]; done) | (refine qa_int ?_; omega) | (refine qa_int ?_; simp <;> omega)), H', ⟨by have := HJ2.out; have := HK2.out; have := HK3.out; first | omega | exact Nat.le_refl _⟩, ⟨by (with_reducible repeat (first | apply Kd.R_alloc | apply Kd.R_drewN | apply Kd.R_drew)); exact HO_7.out⟩, ⟨by (with_reducible repeat (first | refine blk_drewN ?_ _ | refine blk_drew ?_ | refine blk_alloc ?_ _)); exact BK154.out⟩, ⟨by repeat (first | (with_reducible first | exact HI149.out | apply IsS41.alloc | apply IsS41.drewN | apply IsS41.drew | apply IsS41.set_0 | apply IsS41.set_1 | apply IsS41.set_2 | apply IsS41.set_3 | apply IsS41.set_4 | refine IsS41.far ?_ NB149_154.out _) | exact HI149.out)⟩, ⟨by repeat (first | (with_reducible first | exact HB.out | apply below_alloc | apply pw_below_drewN | apply below_drew1 | refine below_set ?_ (IsS41.ge HI149.out) | refine below_set ?_ GE154.out) | exact HB.out)⟩⟩
                              · rw [if_neg c96] at H
                                have c96b0 : decide (x11_2 ≤ (IntKind.u64.wrap (x5_2 + (IntKind.u64.wrap (1 + (IntKind.u64.wrap (Int.tmod ((rd_T33 l1 x12_2).f1) 8))))))) = false := decide_eq_false c96
                                clear c96
                                as_aux_lemma =>
                                  have H' := Aside0.mk H
                                  clear H
                                  go_wp2
                                  go_meet
                                  case rel => exact ⟨_, ((IntKind.u64.wrap (x5_2 + (IntKind.u64.wrap (1 + (IntKind.u64.wrap (Int.tmod ((rd_T33 l1 x12_2).f1) 8))))))), (x7_3), (x8_3), (x9_3), (x10_2), (x11_2), (t176), (t177), (t178), (t179), (t180), (by first | rfl | (simp; done) | (simp [*]; done) | (refine qa_int ?_; omega) | (refine qa_int ?_; simp <;> omega)), (by first | rfl | (simp; done) | (simp [*]; done) | (refine qa_int ?_; omega) | (refine qa_int ?_; simp <;> omega)), (by first | rfl | (simp; done) | (simp [*]; done) | (refine qa_int ?_; omega) | (refine qa_int ?_; simp <;> omega)), (by first | rfl | (simp; done) | (simp [*]; done) | (refine qa_int ?_; omega) | (refine qa_int ?_; simp <;> omega)), (by first | rfl | (simp; done) | (simp [*]; done) | (refine qa_int ?_; omega) | (refine qa_int ?_; simp <;> omega)), H', ⟨by have := HJ2.out; have := HK2.out; have := HK3.out; first | omega | exact Nat.le_refl _⟩, ⟨by (with_reducible repeat (first | apply Kd.R_alloc | apply Kd.R_drewN | apply Kd.R_drew)); exact HO_7.out⟩, ⟨by (with_reducible repeat (first | refine blk_drewN ?_ _ | refine blk_drew ?_ | refine blk_alloc ?_ _)); exact BK154.out⟩, ⟨by repeat (first | (with_reducible first | exact HI149.out | apply IsS41.alloc | apply IsS41.drewN | apply IsS41.drew | apply IsS41.set_0 | apply IsS41.set_1 | apply IsS41.set_2 | apply IsS41.set_3 | apply IsS41.set_4 | refine IsS41.far ?_ NB149_154.out _) | exact HI149.out)⟩, ⟨by repeat (first | (with_reducible first | exact HB.out | apply below_alloc | apply pw_below_drewN | apply below_drew1 | refine below_set ?_ (IsS41.ge HI149.out) | refine below_set ?_ GE154.out) | exact HB.out)⟩⟩
                  case rest =>
                    clear HC18
                    try clear c1
                    try clear p1
                    try clear q1
                    try clear hx1
                    try clear c2
                    try clear p2
                    try clear c3
                    try clear c4
                    try clear p4
                    try clear q4
                    try clear hx4
                    try clear qi4
                    try clear hf4
                    try clear c5
                    try clear p5
                    try clear q5
                    try clear hx5
                    try clear hf5
                    try clear c6
                    try clear p6
                    try clear q6
                    try clear hx6
                    try clear qi6
                    try clear hf6
                    try clear c7
                    try clear c8
                    try clear c9
                    try clear q9
                    try clear c10
                    try clear c12
                    try clear c12b0
                    try clear c12b1
                    try clear c13
                    try clear c14
                    try clear p15
                    try clear q15
                    try clear hx15
                    try clear c16
                    try clear c16b0
                    try clear p16
                    try clear q16
                    try clear hx16
                    try clear c17
                    try clear c17b0
                    try clear p18
                    try clear q18
                    try clear hx18
                    try clear c20
                    try clear c22
                    try clear c22b0
                    try clear c24
                    try clear c26
                    try clear c26b0
                    try clear c26b1
                    try clear c27
                    try clear c31
                    try clear c31b0
                    try clear c32
                    try clear c33
                    try clear c33b0
                    try clear c34
                    try clear c34b0
                    try clear c37
                    try clear c37b0
                    try clear c38
                    try clear c38b0
                    try clear c39
                    try clear c40
                    try clear c40b0
                    try clear c40b1
                    try clear c41
                    try clear c41b0
                    try clear c41b1
                    try clear p42
                    try clear q42
                    try clear hx42
                    try clear qi42
                    try clear hf42
                    try clear c47
                    try clear c47b0
                    try clear c47b1
                    try clear c50
                    try clear c50b0
                    try clear c51
                    try clear c51b0
                    try clear c52
                    try clear c52b0
                    try clear c54
                    try clear c54b0
                    try clear c55
                    try clear c55b0
                    try clear p56
                    try clear q56
                    try clear hx56
                    try clear hf56
                    try clear c60
                    try clear c60b0
                    try clear c60b1
                    try clear p61
                    try clear q61
                    try clear hx61
                    try clear qi61
                    try clear hf61
                    try clear c64
                    try clear c64b0
                    try clear p64
                    try clear c66
                    try clear c66b0
                    try clear c66b1
                    try clear c67
                    try clear c71
                    try clear c76
                    try clear c79
                    try clear c79b0
                    try clear c80
                    try clear c80b0
                    try clear c81
                    try clear c82
                    try clear c82b0
                    try clear c83
                    try clear c83b0
                    try clear c85
                    try clear c86
                    try clear c86b0
                    try clear c87
                    try clear c87b0
                    try clear c88
                    try clear c88b0
                    try clear c88b1
                    try clear c89
                    try clear q92
                    try clear c95
                    try clear c95b0
                    try clear c96
                    try clear c96b0
                    try clear hcz21_0
                    try clear hcz21_1
                    try clear hcz21_2
                    try clear hcz25_0
                    try clear hcz25_1
                    try clear hcz25_2
                    try clear hcz28_0
                    try clear hcz28_1
                    try clear hcz28_2
                    try clear hcz68_0
                    try clear hcz68_1
                    try clear hcz68_2
                    try clear hcz70_0
                    try clear hcz70_1
                    try clear hcz70_2
                    try clear hcz72_0
                    try clear hcz72_1
                    try clear hcz72_2
                    try clear hcz74_0
                    try clear hcz74_1
                    try clear hcz74_2
                    try clear hcz77_0
                    try clear hcz77_1
                    try clear hcz77_2
                    try clear hfz21_0
                    try clear hfz21_1
                    try clear hfz21_2
                    try clear hfz25_0
                    try clear hfz25_1
                    try clear hfz25_2
                    try clear hfz28_0
                    try clear hfz28_1
                    try clear hfz28_2
                    try clear hfz68_0
                    try clear hfz68_1
                    try clear hfz68_2
                    try clear hfz70_0
                    try clear hfz70_1
                    try clear hfz70_2
                    try clear hfz72_0
                    try clear hfz72_1
                    try clear hfz72_2
                    try clear hfz74_0
                    try clear hfz74_1
                    try clear hfz74_2
                    try clear hfz77_0
                    try clear hfz77_1
                    try clear hfz77_2
                    try clear hx153_0
                    try clear hx153_1
                    try clear hx153_2
                    try clear hx160_0
                    try clear hx168_0
                    try clear hx181_0
                    try clear hx42_0
                    try clear hx56_0
                    try clear hx61_0
                    try clear p1
                    try clear p15
                    try clear p153
                    try clear p16
                    try clear p160
                    try clear p168
                    try clear p181
                    try clear p2
                    try clear p4
                    try clear p42
                    try clear p5
                    try clear p56
                    try clear p6
                    try clear p61
                    try clear p64
                    try clear q1
                    try clear q15
                    try clear q153
                    try clear q16
                    try clear q160
                    try clear q168
                    try clear q181
                    try clear q4
                    try clear q42
                    try clear q5
                    try clear q56
                    try clear q6
                    try clear q61
                    try clear q92
                    obtain ⟨kq, x5_17, x7_17, x8_17, x9_17, x10_17, x11_17, x150000_17, x150001_17, x150002_17, x150003_17, x150004_17, rfl, rfl, rfl, rfl, rfl, HA, HJ17, HO_7, BK154, HI149, HB⟩ := hcut
                    cases kq with
                    | zero => exact absurd HA.out (by simp [milestonelaw14_LinkPlays.j8])
                    | succ kj17 =>
                      have H := HA.out
                      clear HA
                      simp only [milestonelaw14_LinkPlays.j8] at H
                      have H' := Aside0.mk H
                      clear H
                      go_wp2
                      go_loopg [24, 25, 26] kj17 (fun kq v24 v25 v26 w' => ∃ (x24_4 : Int) (x25_4 : Bool) (x26_4 : Int), v24 = .int .i64 x24_4 ∧ v25 = .bool x25_4 ∧ v26 = .int .i64 x26_4 ∧ Aside0 (milestonelaw14_LinkPlays.l5 kq l1 x5_17 x7_17 x8_17 x9_17 x10_17 x11_17 x12_2 x24_4 x25_4 x26_4 x150000_17 x150001_17 x150002_17 x150003_17 x150004_17 = some r) ∧ Aside0 (kq ≤ kj17) ∧ Aside0 (Kd.R Kd.bool 4 w' w.heap.size (fun _ => True) u7 x7_17) ∧ Aside0 (w'.heap[gb154]? = some (.cells #[.int .u8 ((rd_T33 l1 x12_2).f0), .int .u8 ((rd_T33 l1 x12_2).f1), .int .u16 ((rd_T33 l1 x12_2).f2)] 33 (0, 0))) ∧ Aside0 (IsS41 w w' g149 x150000_17 x150001_17 x150002_17 x150003_17 x150004_17) ∧ Aside0 (Below w.heap.size w w'))
                      case atStart => exact ⟨(0), (false), (0), (by first | rfl | (simp; done) | (simp [*]; done) | (refine qa_int ?_; omega) | (refine qa_int ?_; simp <;> omega)), (by first | rfl | (simp; done) | (simp [*]; done) | (refine qa_int ?_; omega) | (refine qa_int ?_; simp <;> omega)), (by first | rfl | (simp; done) | (simp [*]; done) | (refine qa_int ?_; omega) | (refine qa_int ?_; simp <;> omega)), H', ⟨Nat.le_refl _⟩, ⟨by (with_reducible repeat (first | apply Kd.R_alloc | apply Kd.R_drewN | apply Kd.R_drew)); exact HO_7.out⟩, ⟨by (with_reducible repeat (first | refine blk_drewN ?_ _ | refine blk_drew ?_ | refine blk_alloc ?_ _)); exact BK154.out⟩, ⟨by repeat (first | (with_reducible first | exact HI149.out | apply IsS41.alloc | apply IsS41.drewN | apply IsS41.drew | apply IsS41.set_0 | apply IsS41.set_1 | apply IsS41.set_2 | apply IsS41.set_3 | apply IsS41.set_4 | refine IsS41.far ?_ NB149_154.out _) | exact HI149.out)⟩, ⟨by repeat (first | (with_reducible first | exact HB.out | apply below_alloc | apply pw_below_drewN | apply below_drew1 | refine below_set ?_ (IsS41.ge HI149.out) | refine below_set ?_ GE154.out) | exact HB.out)⟩⟩
                      case round =>
                        clear H'
                        try clear c1
                        try clear p1
                        try clear q1
                        try clear hx1
                        try clear c2
                        try clear p2
                        try clear c3
                        try clear c4
                        try clear p4
                        try clear q4
                        try clear hx4
                        try clear qi4
                        try clear hf4
                        try clear c5
                        try clear p5
                        try clear q5
                        try clear hx5
                        try clear hf5
                        try clear c6
                        try clear p6
                        try clear q6
                        try clear hx6
                        try clear qi6
                        try clear hf6
                        try clear c7
                        try clear c8
                        try clear c9
                        try clear q9
                        try clear c10
                        try clear c12
                        try clear c12b0
                        try clear c12b1
                        try clear c13
                        try clear c14
                        try clear p15
                        try clear q15
                        try clear hx15
                        try clear c16
                        try clear c16b0
                        try clear p16
                        try clear q16
                        try clear hx16
                        try clear c17
                        try clear c17b0
                        try clear p18
                        try clear q18
                        try clear hx18
                        try clear c20
                        try clear c22
                        try clear c22b0
                        try clear c24
                        try clear c26
                        try clear c26b0
                        try clear c26b1
                        try clear c27
                        try clear c31
                        try clear c31b0
                        try clear c32
                        try clear c33
                        try clear c33b0
                        try clear c34
                        try clear c34b0
                        try clear c37
                        try clear c37b0
                        try clear c38
                        try clear c38b0
                        try clear c39
                        try clear c40
                        try clear c40b0
                        try clear c40b1
                        try clear c41
                        try clear c41b0
                        try clear c41b1
                        try clear p42
                        try clear q42
                        try clear hx42
                        try clear qi42
                        try clear hf42
                        try clear c47
                        try clear c47b0
                        try clear c47b1
                        try clear c50
                        try clear c50b0
                        try clear c51
                        try clear c51b0
                        try clear c52
                        try clear c52b0
                        try clear c54
                        try clear c54b0
                        try clear c55
                        try clear c55b0
                        try clear p56
                        try clear q56
                        try clear hx56
                        try clear hf56
                        try clear c60
                        try clear c60b0
                        try clear c60b1
                        try clear p61
                        try clear q61
                        try clear hx61
                        try clear qi61
                        try clear hf61
                        try clear c64
                        try clear c64b0
                        try clear p64
                        try clear c66
                        try clear c66b0
                        try clear c66b1
                        try clear c67
                        try clear c71
                        try clear c76
                        try clear c79
                        try clear c79b0
                        try clear c80
                        try clear c80b0
                        try clear c81
                        try clear c82
                        try clear c82b0
                        try clear c83
                        try clear c83b0
                        try clear c85
                        try clear c86
                        try clear c86b0
                        try clear c87
                        try clear c87b0
                        try clear c88
                        try clear c88b0
                        try clear c88b1
                        try clear c89
                        try clear q92
                        try clear c95
                        try clear c95b0
                        try clear c96
                        try clear c96b0
                        try clear hcz21_0
                        try clear hcz21_1
                        try clear hcz21_2
                        try clear hcz25_0
                        try clear hcz25_1
                        try clear hcz25_2
                        try clear hcz28_0
                        try clear hcz28_1
                        try clear hcz28_2
                        try clear hcz68_0
                        try clear hcz68_1
                        try clear hcz68_2
                        try clear hcz70_0
                        try clear hcz70_1
                        try clear hcz70_2
                        try clear hcz72_0
                        try clear hcz72_1
                        try clear hcz72_2
                        try clear hcz74_0
                        try clear hcz74_1
                        try clear hcz74_2
                        try clear hcz77_0
                        try clear hcz77_1
                        try clear hcz77_2
                        try clear hfz21_0
                        try clear hfz21_1
                        try clear hfz21_2
                        try clear hfz25_0
                        try clear hfz25_1
                        try clear hfz25_2
                        try clear hfz28_0
                        try clear hfz28_1
                        try clear hfz28_2
                        try clear hfz68_0
                        try clear hfz68_1
                        try clear hfz68_2
                        try clear hfz70_0
                        try clear hfz70_1
                        try clear hfz70_2
                        try clear hfz72_0
                        try clear hfz72_1
                        try clear hfz72_2
                        try clear hfz74_0
                        try clear hfz74_1
                        try clear hfz74_2
                        try clear hfz77_0
                        try clear hfz77_1
                        try clear hfz77_2
                        try clear hx153_0
                        try clear hx153_1
                        try clear hx153_2
                        try clear hx160_0
                        try clear hx168_0
                        try clear hx181_0
                        try clear hx42_0
                        try clear hx56_0
                        try clear hx61_0
                        try clear p1
                        try clear p15
                        try clear p153
                        try clear p16
                        try clear p160
                        try clear p168
                        try clear p18
                        try clear p181
                        try clear p2
                        try clear p4
                        try clear p42
                        try clear p5
                        try clear p56
                        try clear p6
                        try clear p61
                        try clear p64
                        try clear q1
                        try clear q15
                        try clear q153
                        try clear q16
                        try clear q160
                        try clear q168
                        try clear q18
                        try clear q181
                        try clear q4
                        try clear q42
                        try clear q5
                        try clear q56
                        try clear q6
                        try clear q61
                        try clear q9
                        try clear q92
                        obtain ⟨x24_4, x25_4, x26_4, rfl, rfl, rfl, HA, HK4, HO_7, BK154, HI149, HB⟩ := hrel
                        cases gk with
                        | zero => exact absurd HA.out (by simp [milestonelaw14_LinkPlays.l5])
                        | succ k4 =>
                          have H := HA.out
                          clear HA
                          simp only [milestonelaw14_LinkPlays.l5] at H
                          by_cases c97 : x26_4 < 16
                          · rw [if_pos c97] at H
                            have c97b0 : decide (x26_4 < 16) = true := decide_eq_true c97
                            clear c97
                            by_cases c98 : 0 ≤ x26_4
                            · rw [if_pos c98] at H
                              have c98b0 : decide (0 ≤ x26_4) = true := decide_eq_true c98
                              clear c98
                              by_cases c99 : x26_4 < (x7_17.length : Int)
                              · rw [if_pos c99] at H
                                have c99b0 : decide (x26_4 < (x7_17.length : Int)) = true := decide_eq_true c99
                                clear c99
                                obtain ⟨bq100, hbq100⟩ : ∃ b_ : Bool, b_ = (rdOf false x7_17 x26_4) := ⟨_, rfl⟩
                                replace H : (if bq100 = true then (if x26_4 < 3 then (if x25_4 = true then (milestonelaw14_LinkPlays.l5 k4 l1 x5_17 x7_17 x8_17 x9_17 x10_17 x11_17 x12_2 (wrap64 (x24_4 + 1)) true (wrap64 (x26_4 + 1)) x150000_17 x150001_17 x150002_17 x150003_17 x150004_17) else (milestonelaw14_LinkPlays.l5 k4 l1 x5_17 x7_17 x8_17 x9_17 x10_17 x11_17 x12_2 (wrap64 (x24_4 + 1)) bq100 (wrap64 (x26_4 + 1)) x150000_17 x150001_17 x150002_17 x150003_17 x150004_17)) else (if x25_4 = true then (milestonelaw14_LinkPlays.l5 k4 l1 x5_17 x7_17 x8_17 x9_17 x10_17 x11_17 x12_2 x24_4 true (wrap64 (x26_4 + 1)) x150000_17 x150001_17 x150002_17 x150003_17 x150004_17) else (milestonelaw14_LinkPlays.l5 k4 l1 x5_17 x7_17 x8_17 x9_17 x10_17 x11_17 x12_2 x24_4 bq100 (wrap64 (x26_4 + 1)) x150000_17 x150001_17 x150002_17 x150003_17 x150004_17))) else (if x25_4 = true then (milestonelaw14_LinkPlays.l5 k4 l1 x5_17 x7_17 x8_17 x9_17 x10_17 x11_17 x12_2 x24_4 true (wrap64 (x26_4 + 1)) x150000_17 x150001_17 x150002_17 x150003_17 x150004_17) else (milestonelaw14_LinkPlays.l5 k4 l1 x5_17 x7_17 x8_17 x9_17 x10_17 x11_17 x12_2 x24_4 bq100 (wrap64 (x26_4 + 1)) x150000_17 x150001_17 x150002_17 x150003_17 x150004_17))) = some r := by rw [← hbq100] at H; exact H
                                have Nbq100 := Aside0.mk hbq100
                                clear hbq100
                                by_cases c101 : bq100 = true
                                · subst c101
                                  have H1 : (if x26_4 < 3 then (if x25_4 = true then (milestonelaw14_LinkPlays.l5 k4 l1 x5_17 x7_17 x8_17 x9_17 x10_17 x11_17 x12_2 (wrap64 (x24_4 + 1)) true (wrap64 (x26_4 + 1)) x150000_17 x150001_17 x150002_17 x150003_17 x150004_17) else (milestonelaw14_LinkPlays.l5 k4 l1 x5_17 x7_17 x8_17 x9_17 x10_17 x11_17 x12_2 (wrap64 (x24_4 + 1)) true (wrap64 (x26_4 + 1)) x150000_17 x150001_17 x150002_17 x150003_17 x150004_17)) else (if x25_4 = true then (milestonelaw14_LinkPlays.l5 k4 l1 x5_17 x7_17 x8_17 x9_17 x10_17 x11_17 x12_2 x24_4 true (wrap64 (x26_4 + 1)) x150000_17 x150001_17 x150002_17 x150003_17 x150004_17) else (milestonelaw14_LinkPlays.l5 k4 l1 x5_17 x7_17 x8_17 x9_17 x10_17 x11_17 x12_2 x24_4 true (wrap64 (x26_4 + 1)) x150000_17 x150001_17 x150002_17 x150003_17 x150004_17))) = some r := by rw [if_pos rfl] at H; exact H
                                  clear H
                                  have H := H1
                                  clear H1
                                  by_cases c102 : x26_4 < 3
                                  · rw [if_pos c102] at H
                                    have c102b0 : decide (x26_4 < 3) = true := decide_eq_true c102
                                    clear c102
                                    by_cases c103 : x25_4 = true
                                    · subst c103
                                      have H1 : (milestonelaw14_LinkPlays.l5 k4 l1 x5_17 x7_17 x8_17 x9_17 x10_17 x11_17 x12_2 (wrap64 (x24_4 + 1)) true (wrap64 (x26_4 + 1)) x150000_17 x150001_17 x150002_17 x150003_17 x150004_17) = some r := by rw [if_pos rfl] at H; exact H
                                      clear H
                                      have H := H1
                                      clear H1
                                      as_aux_lemma =>
                                        have H' := Aside0.mk H
                                        clear H
                                        obtain ⟨Ao104, co104, eo104⟩ := Kd.R_slice HO_7.out
                                        subst eo104
                                        have p192 : 0 ≤ (x26_4 : Int) := of_decide_eq_true (by first | (with_reducible assumption) | assumption)
                                        have q192 : x26_4 < (x7_17.length : Int) := of_decide_eq_true (by first | (with_reducible assumption) | assumption)
                                        obtain ⟨ad192, e192, hx192_0⟩ := Kd.at_bool (Kd.R_reads' HO_7.out).2.2 x26_4 p192 q192
                                        (try rw [← Nbq100.out] at hx192_0)
                                        cases e192
                                        replace p192 := eq_true p192
                                        replace q192 := eq_true q192
                                        go_wp2
                                        go_roundg k4
                                        case measure => have := HJ2.out; have := HK2.out; have := HJ17.out; have := HK4.out; omega
                                        case rel => exact ⟨(wrap64 (x24_4 + 1)), (true), (wrap64 (x26_4 + 1)), (by first | rfl | (simp; done) | (simp [*]; done) | (refine qa_int ?_; omega) | (refine qa_int ?_; simp <;> omega)), (by first | rfl | (simp; done) | (simp [*]; done) | (refine qa_int ?_; omega) | (refine qa_int ?_; simp <;> omega)), (by first | rfl | (simp; done) | (simp [*]; done) | (refine qa_int ?_; omega) | (refine qa_int ?_; simp <;> omega)), H', ⟨by have := HJ2.out; have := HK2.out; have := HJ17.out; have := HK4.out; omega⟩, ⟨by (with_reducible repeat (first | apply Kd.R_alloc | apply Kd.R_drewN | apply Kd.R_drew)); exact HO_7.out⟩, ⟨by (with_reducible repeat (first | refine blk_drewN ?_ _ | refine blk_drew ?_ | refine blk_alloc ?_ _)); exact BK154.out⟩, ⟨by repeat (first | (with_reducible first | exact HI149.out | apply IsS41.alloc | apply IsS41.drewN | apply IsS41.drew | apply IsS41.set_0 | apply IsS41.set_1 | apply IsS41.set_2 | apply IsS41.set_3 | apply IsS41.set_4 | refine IsS41.far ?_ NB149_154.out _) | exact HI149.out)⟩, ⟨by repeat (first | (with_reducible first | exact HB.out | apply below_alloc | apply pw_below_drewN | apply below_drew1 | refine below_set ?_ (IsS41.ge HI149.out) | refine below_set ?_ GE154.out) | exact HB.out)⟩⟩
                                    · replace c103 := Bool.eq_false_iff.mpr c103
                                      subst c103
                                      have H1 : (milestonelaw14_LinkPlays.l5 k4 l1 x5_17 x7_17 x8_17 x9_17 x10_17 x11_17 x12_2 (wrap64 (x24_4 + 1)) true (wrap64 (x26_4 + 1)) x150000_17 x150001_17 x150002_17 x150003_17 x150004_17) = some r := by rw [if_neg (show ¬ (false = true) by decide)] at H; exact H
                                      clear H
                                      have H := H1
                                      clear H1
                                      as_aux_lemma =>
                                        have H' := Aside0.mk H
                                        clear H
                                        obtain ⟨Ao105, co105, eo105⟩ := Kd.R_slice HO_7.out
                                        subst eo105
                                        have p192 : 0 ≤ (x26_4 : Int) := of_decide_eq_true (by first | (with_reducible assumption) | assumption)
                                        have q192 : x26_4 < (x7_17.length : Int) := of_decide_eq_true (by first | (with_reducible assumption) | assumption)
                                        obtain ⟨ad192, e192, hx192_0⟩ := Kd.at_bool (Kd.R_reads' HO_7.out).2.2 x26_4 p192 q192
                                        (try rw [← Nbq100.out] at hx192_0)
                                        cases e192
                                        replace p192 := eq_true p192
                                        replace q192 := eq_true q192
                                        have p193 : 0 ≤ (x26_4 : Int) := of_decide_eq_true (by first | (with_reducible assumption) | assumption)
                                        have q193 : x26_4 < (x7_17.length : Int) := of_decide_eq_true (by first | (with_reducible assumption) | assumption)
                                        obtain ⟨ad193, e193, hx193_0⟩ := Kd.at_bool (Kd.R_reads' HO_7.out).2.2 x26_4 p193 q193
                                        (try rw [← Nbq100.out] at hx193_0)
                                        obtain rfl : ad192 = ad193 := (by injection e193)
                                        replace p193 := eq_true p193
                                        replace q193 := eq_true q193
                                        go_wp2
                                        go_roundg k4
                                        case measure => have := HJ2.out; have := HK2.out; have := HJ17.out; have := HK4.out; omega
                                        case rel => exact ⟨(wrap64 (x24_4 + 1)), (true), (wrap64 (x26_4 + 1)), (by first | rfl | (simp; done) | (simp [*]; done) | (refine qa_int ?_; omega) | (refine qa_int ?_; simp <;> omega)), (by first | rfl | (simp; done) | (simp [*]; done) | (refine qa_int ?_; omega) | (refine qa_int ?_; simp <;> omega)), (by first | rfl | (simp; done) | (simp [*]; done) | (refine qa_int ?_; omega) | (refine qa_int ?_; simp <;> omega)), H', ⟨by have := HJ2.out; have := HK2.out; have := HJ17.out; have := HK4.out; omega⟩, ⟨by (with_reducible repeat (first | apply Kd.R_alloc | apply Kd.R_drewN | apply Kd.R_drew)); exact HO_7.out⟩, ⟨by (with_reducible repeat (first | refine blk_drewN ?_ _ | refine blk_drew ?_ | refine blk_alloc ?_ _)); exact BK154.out⟩, ⟨by repeat (first | (with_reducible first | exact HI149.out | apply IsS41.alloc | apply IsS41.drewN | apply IsS41.drew | apply IsS41.set_0 | apply IsS41.set_1 | apply IsS41.set_2 | apply IsS41.set_3 | apply IsS41.set_4 | refine IsS41.far ?_ NB149_154.out _) | exact HI149.out)⟩, ⟨by repeat (first | (with_reducible first | exact HB.out | apply below_alloc | apply pw_below_drewN | apply below_drew1 | refine below_set ?_ (IsS41.ge HI149.out) | refine below_set ?_ GE154.out) | exact HB.out)⟩⟩
                                  · rw [if_neg c102] at H
                                    have c102b0 : decide (x26_4 < 3) = false := decide_eq_false c102
                                    clear c102
                                    by_cases c106 : x25_4 = true
                                    · subst c106
                                      have H1 : (milestonelaw14_LinkPlays.l5 k4 l1 x5_17 x7_17 x8_17 x9_17 x10_17 x11_17 x12_2 x24_4 true (wrap64 (x26_4 + 1)) x150000_17 x150001_17 x150002_17 x150003_17 x150004_17) = some r := by rw [if_pos rfl] at H; exact H
                                      clear H
                                      have H := H1
                                      clear H1
                                      as_aux_lemma =>
                                        have H' := Aside0.mk H
                                        clear H
                                        obtain ⟨Ao107, co107, eo107⟩ := Kd.R_slice HO_7.out
                                        subst eo107
                                        have p192 : 0 ≤ (x26_4 : Int) := of_decide_eq_true (by first | (with_reducible assumption) | assumption)
                                        have q192 : x26_4 < (x7_17.length : Int) := of_decide_eq_true (by first | (with_reducible assumption) | assumption)
                                        obtain ⟨ad192, e192, hx192_0⟩ := Kd.at_bool (Kd.R_reads' HO_7.out).2.2 x26_4 p192 q192
                                        (try rw [← Nbq100.out] at hx192_0)
                                        cases e192
                                        replace p192 := eq_true p192
                                        replace q192 := eq_true q192
                                        go_wp2
                                        go_roundg k4
                                        case measure => have := HJ2.out; have := HK2.out; have := HJ17.out; have := HK4.out; omega
                                        case rel => exact ⟨(x24_4), (true), (wrap64 (x26_4 + 1)), (by first | rfl | (simp; done) | (simp [*]; done) | (refine qa_int ?_; omega) | (refine qa_int ?_; simp <;> omega)), (by first | rfl | (simp; done) | (simp [*]; done) | (refine qa_int ?_; omega) | (refine qa_int ?_; simp <;> omega)), (by first | rfl | (simp; done) | (simp [*]; done) | (refine qa_int ?_; omega) | (refine qa_int ?_; simp <;> omega)), H', ⟨by have := HJ2.out; have := HK2.out; have := HJ17.out; have := HK4.out; omega⟩, ⟨by (with_reducible repeat (first | apply Kd.R_alloc | apply Kd.R_drewN | apply Kd.R_drew)); exact HO_7.out⟩, ⟨by (with_reducible repeat (first | refine blk_drewN ?_ _ | refine blk_drew ?_ | refine blk_alloc ?_ _)); exact BK154.out⟩, ⟨by repeat (first | (with_reducible first | exact HI149.out | apply IsS41.alloc | apply IsS41.drewN | apply IsS41.drew | apply IsS41.set_0 | apply IsS41.set_1 | apply IsS41.set_2 | apply IsS41.set_3 | apply IsS41.set_4 | refine IsS41.far ?_ NB149_154.out _) | exact HI149.out)⟩, ⟨by repeat (first | (with_reducible first | exact HB.out | apply below_alloc | apply pw_below_drewN | apply below_drew1 | refine below_set ?_ (IsS41.ge HI149.out) | refine below_set ?_ GE154.out) | exact HB.out)⟩⟩
                                    · replace c106 := Bool.eq_false_iff.mpr c106
                                      subst c106
                                      have H1 : (milestonelaw14_LinkPlays.l5 k4 l1 x5_17 x7_17 x8_17 x9_17 x10_17 x11_17 x12_2 x24_4 true (wrap64 (x26_4 + 1)) x150000_17 x150001_17 x150002_17 x150003_17 x150004_17) = some r := by rw [if_neg (show ¬ (false = true) by decide)] at H; exact H
                                      clear H
                                      have H := H1
                                      clear H1
                                      as_aux_lemma =>
                                        have H' := Aside0.mk H
                                        clear H
                                        obtain ⟨Ao108, co108, eo108⟩ := Kd.R_slice HO_7.out
                                        subst eo108
                                        have p192 : 0 ≤ (x26_4 : Int) := of_decide_eq_true (by first | (with_reducible assumption) | assumption)
                                        have q192 : x26_4 < (x7_17.length : Int) := of_decide_eq_true (by first | (with_reducible assumption) | assumption)
                                        obtain ⟨ad192, e192, hx192_0⟩ := Kd.at_bool (Kd.R_reads' HO_7.out).2.2 x26_4 p192 q192
                                        (try rw [← Nbq100.out] at hx192_0)
                                        cases e192
                                        replace p192 := eq_true p192
                                        replace q192 := eq_true q192
                                        have p194 : 0 ≤ (x26_4 : Int) := of_decide_eq_true (by first | (with_reducible assumption) | assumption)
                                        have q194 : x26_4 < (x7_17.length : Int) := of_decide_eq_true (by first | (with_reducible assumption) | assumption)
                                        obtain ⟨ad194, e194, hx194_0⟩ := Kd.at_bool (Kd.R_reads' HO_7.out).2.2 x26_4 p194 q194
                                        (try rw [← Nbq100.out] at hx194_0)
                                        obtain rfl : ad192 = ad194 := (by injection e194)
                                        replace p194 := eq_true p194
                                        replace q194 := eq_true q194
                                        go_wp2
                                        go_roundg k4
                                        case measure => have := HJ2.out; have := HK2.out; have := HJ17.out; have := HK4.out; omega
                                        case rel => exact ⟨(x24_4), (true), (wrap64 (x26_4 + 1)), (by first | rfl | (simp; done) | (simp [*]; done) | (refine qa_int ?_; omega) | (refine qa_int ?_; simp <;> omega)), (by first | rfl | (simp; done) | (simp [*]; done) | (refine qa_int ?_; omega) | (refine qa_int ?_; simp <;> omega)), (by first | rfl | (simp; done) | (simp [*]; done) | (refine qa_int ?_; omega) | (refine qa_int ?_; simp <;> omega)), H', ⟨by have := HJ2.out; have := HK2.out; have := HJ17.out; have := HK4.out; omega⟩, ⟨by (with_reducible repeat (first | apply Kd.R_alloc | apply Kd.R_drewN | apply Kd.R_drew)); exact HO_7.out⟩, ⟨by (with_reducible repeat (first | refine blk_drewN ?_ _ | refine blk_drew ?_ | refine blk_alloc ?_ _)); exact BK154.out⟩, ⟨by repeat (first | (with_reducible first | exact HI149.out | apply IsS41.alloc | apply IsS41.drewN | apply IsS41.drew | apply IsS41.set_0 | apply IsS41.set_1 | apply IsS41.set_2 | apply IsS41.set_3 | apply IsS41.set_4 | refine IsS41.far ?_ NB149_154.out _) | exact HI149.out)⟩, ⟨by repeat (first | (with_reducible first | exact HB.out | apply below_alloc | apply pw_below_drewN | apply below_drew1 | refine below_set ?_ (IsS41.ge HI149.out) | refine below_set ?_ GE154.out) | exact HB.out)⟩⟩
                                · replace c101 := Bool.eq_false_iff.mpr c101
                                  subst c101
                                  have H1 : (if x25_4 = true then (milestonelaw14_LinkPlays.l5 k4 l1 x5_17 x7_17 x8_17 x9_17 x10_17 x11_17 x12_2 x24_4 true (wrap64 (x26_4 + 1)) x150000_17 x150001_17 x150002_17 x150003_17 x150004_17) else (milestonelaw14_LinkPlays.l5 k4 l1 x5_17 x7_17 x8_17 x9_17 x10_17 x11_17 x12_2 x24_4 false (wrap64 (x26_4 + 1)) x150000_17 x150001_17 x150002_17 x150003_17 x150004_17)) = some r := by rw [if_neg (show ¬ (false = true) by decide)] at H; exact H
                                  clear H
                                  have H := H1
                                  clear H1
                                  by_cases c109 : x25_4 = true
                                  · subst c109
                                    have H1 : (milestonelaw14_LinkPlays.l5 k4 l1 x5_17 x7_17 x8_17 x9_17 x10_17 x11_17 x12_2 x24_4 true (wrap64 (x26_4 + 1)) x150000_17 x150001_17 x150002_17 x150003_17 x150004_17) = some r := by rw [if_pos rfl] at H; exact H
                                    clear H
                                    have H := H1
                                    clear H1
                                    as_aux_lemma =>
                                      have H' := Aside0.mk H
                                      clear H
                                      obtain ⟨Ao110, co110, eo110⟩ := Kd.R_slice HO_7.out
                                      subst eo110
                                      have p192 : 0 ≤ (x26_4 : Int) := of_decide_eq_true (by first | (with_reducible assumption) | assumption)
                                      have q192 : x26_4 < (x7_17.length : Int) := of_decide_eq_true (by first | (with_reducible assumption) | assumption)
                                      obtain ⟨ad192, e192, hx192_0⟩ := Kd.at_bool (Kd.R_reads' HO_7.out).2.2 x26_4 p192 q192
                                      (try rw [← Nbq100.out] at hx192_0)
                                      cases e192
                                      replace p192 := eq_true p192
                                      replace q192 := eq_true q192
                                      go_wp2
                                      go_roundg k4
                                      case measure => have := HJ2.out; have := HK2.out; have := HJ17.out; have := HK4.out; omega
                                      case rel => exact ⟨(x24_4), (true), (wrap64 (x26_4 + 1)), (by first | rfl | (simp; done) | (simp [*]; done) | (refine qa_int ?_; omega) | (refine qa_int ?_; simp <;> omega)), (by first | rfl | (simp; done) | (simp [*]; done) | (refine qa_int ?_; omega) | (refine qa_int ?_; simp <;> omega)), (by first | rfl | (simp; done) | (simp [*]; done) | (refine qa_int ?_; omega) | (refine qa_int ?_; simp <;> omega)), H', ⟨by have := HJ2.out; have := HK2.out; have := HJ17.out; have := HK4.out; omega⟩, ⟨by (with_reducible repeat (first | apply Kd.R_alloc | apply Kd.R_drewN | apply Kd.R_drew)); exact HO_7.out⟩, ⟨by (with_reducible repeat (first | refine blk_drewN ?_ _ | refine blk_drew ?_ | refine blk_alloc ?_ _)); exact BK154.out⟩, ⟨by repeat (first | (with_reducible first | exact HI149.out | apply IsS41.alloc | apply IsS41.drewN | apply IsS41.drew | apply IsS41.set_0 | apply IsS41.set_1 | apply IsS41.set_2 | apply IsS41.set_3 | apply IsS41.set_4 | refine IsS41.far ?_ NB149_154.out _) | exact HI149.out)⟩, ⟨by repeat (first | (with_reducible first | exact HB.out | apply below_alloc | apply pw_below_drewN | apply below_drew1 | refine below_set ?_ (IsS41.ge HI149.out) | refine below_set ?_ GE154.out) | exact HB.out)⟩⟩
                                  · replace c109 := Bool.eq_false_iff.mpr c109
                                    subst c109
                                    have H1 : (milestonelaw14_LinkPlays.l5 k4 l1 x5_17 x7_17 x8_17 x9_17 x10_17 x11_17 x12_2 x24_4 false (wrap64 (x26_4 + 1)) x150000_17 x150001_17 x150002_17 x150003_17 x150004_17) = some r := by rw [if_neg (show ¬ (false = true) by decide)] at H; exact H
                                    clear H
                                    have H := H1
                                    clear H1
                                    as_aux_lemma =>
                                      have H' := Aside0.mk H
                                      clear H
                                      obtain ⟨Ao111, co111, eo111⟩ := Kd.R_slice HO_7.out
                                      subst eo111
                                      have p192 : 0 ≤ (x26_4 : Int) := of_decide_eq_true (by first | (with_reducible assumption) | assumption)
                                      have q192 : x26_4 < (x7_17.length : Int) := of_decide_eq_true (by first | (with_reducible assumption) | assumption)
                                      obtain ⟨ad192, e192, hx192_0⟩ := Kd.at_bool (Kd.R_reads' HO_7.out).2.2 x26_4 p192 q192
                                      (try rw [← Nbq100.out] at hx192_0)
                                      cases e192
                                      replace p192 := eq_true p192
                                      replace q192 := eq_true q192
                                      have p195 : 0 ≤ (x26_4 : Int) := of_decide_eq_true (by first | (with_reducible assumption) | assumption)
                                      have q195 : x26_4 < (x7_17.length : Int) := of_decide_eq_true (by first | (with_reducible assumption) | assumption)
                                      obtain ⟨ad195, e195, hx195_0⟩ := Kd.at_bool (Kd.R_reads' HO_7.out).2.2 x26_4 p195 q195
                                      (try rw [← Nbq100.out] at hx195_0)
                                      obtain rfl : ad192 = ad195 := (by injection e195)
                                      replace p195 := eq_true p195
                                      replace q195 := eq_true q195
                                      go_wp2
                                      go_roundg k4
                                      case measure => have := HJ2.out; have := HK2.out; have := HJ17.out; have := HK4.out; omega
                                      case rel => exact ⟨(x24_4), (false), (wrap64 (x26_4 + 1)), (by first | rfl | (simp; done) | (simp [*]; done) | (refine qa_int ?_; omega) | (refine qa_int ?_; simp <;> omega)), (by first | rfl | (simp; done) | (simp [*]; done) | (refine qa_int ?_; omega) | (refine qa_int ?_; simp <;> omega)), (by first | rfl | (simp; done) | (simp [*]; done) | (refine qa_int ?_; omega) | (refine qa_int ?_; simp <;> omega)), H', ⟨by have := HJ2.out; have := HK2.out; have := HJ17.out; have := HK4.out; omega⟩, ⟨by (with_reducible repeat (first | apply Kd.R_alloc | apply Kd.R_drewN | apply Kd.R_drew)); exact HO_7.out⟩, ⟨by (with_reducible repeat (first | refine blk_drewN ?_ _ | refine blk_drew ?_ | refine blk_alloc ?_ _)); exact BK154.out⟩, ⟨by repeat (first | (with_reducible first | exact HI149.out | apply IsS41.alloc | apply IsS41.drewN | apply IsS41.drew | apply IsS41.set_0 | apply IsS41.set_1 | apply IsS41.set_2 | apply IsS41.set_3 | apply IsS41.set_4 | refine IsS41.far ?_ NB149_154.out _) | exact HI149.out)⟩, ⟨by repeat (first | (with_reducible first | exact HB.out | apply below_alloc | apply pw_below_drewN | apply below_drew1 | refine below_set ?_ (IsS41.ge HI149.out) | refine below_set ?_ GE154.out) | exact HB.out)⟩⟩
                              · rw [if_neg c99] at H
                                exact absurd H (by simp)
                            · rw [if_neg c98] at H
                              exact absurd H (by simp)
                          · rw [if_neg c97] at H
                            have c97b0 : decide (x26_4 < 16) = false := decide_eq_false c97
                            clear c97
                            have HC112 := Aside0.mk H
                            clear H
                            go_upto_if 207 with (fail)
                            go_cut [27] (fun v27 wc => ∃ (kq : Nat) (x27_111 : Int), v27 = .int .u16 x27_111 ∧ Aside0 (milestonelaw14_LinkPlays.j10 kq l1 x5_17 x7_17 x8_17 x9_17 x10_17 x11_17 x12_2 x24_4 x25_4 x27_111 x150000_17 x150001_17 x150002_17 x150003_17 x150004_17 = some r) ∧ Aside0 (kq ≤ k4) ∧ Aside0 (Kd.R Kd.bool 4 wc w.heap.size (fun _ => True) u7 x7_17) ∧ Aside0 (wc.heap[gb154]? = some (.cells #[.int .u8 ((rd_T33 l1 x12_2).f0), .int .u8 ((rd_T33 l1 x12_2).f1), .int .u16 ((rd_T33 l1 x12_2).f2)] 33 (0, 0))) ∧ Aside0 (IsS41 w wc g149 x150000_17 x150001_17 x150002_17 x150003_17 x150004_17) ∧ Aside0 (Below w.heap.size w wc))
                            case first =>
                              have H := HC112.out
                              clear HC112
                              by_cases c113 : x24_4 ≥ 2
                              · rw [if_pos c113] at H
                                have c113b0 : decide (2 ≤ x24_4) = true := decide_eq_true c113
                                clear c113
                                (first | rw [c113b0] | (simp only [i64_w, i32_w]; rw [c113b0]) | skip)
                                as_aux_lemma =>
                                  have H' := Aside0.mk H
                                  clear H
                                  go_wp2
                                  go_meet
                                  case rel => exact ⟨_, (96), (by first | rfl | (simp; done) | (simp [*]; done) | (refine qa_int ?_; omega) | (refine qa_int ?_; simp <;> omega)), H', ⟨by have := HJ2.out; have := HK2.out; have := HJ17.out; have := HK4.out; first | omega | exact Nat.le_refl _⟩, ⟨by (with_reducible repeat (first | apply Kd.R_alloc | apply Kd.R_drewN | apply Kd.R_drew)); exact HO_7.out⟩, ⟨by (with_reducible repeat (first | refine blk_drewN ?_ _ | refine blk_drew ?_ | refine blk_alloc ?_ _)); exact BK154.out⟩, ⟨by repeat (first | (with_reducible first | exact HI149.out | apply IsS41.alloc | apply IsS41.drewN | apply IsS41.drew | apply IsS41.set_0 | apply IsS41.set_1 | apply IsS41.set_2 | apply IsS41.set_3 | apply IsS41.set_4 | refine IsS41.far ?_ NB149_154.out _) | exact HI149.out)⟩, ⟨by repeat (first | (with_reducible first | exact HB.out | apply below_alloc | apply pw_below_drewN | apply below_drew1 | refine below_set ?_ (IsS41.ge HI149.out) | refine below_set ?_ GE154.out) | exact HB.out)⟩⟩
                              · rw [if_neg c113] at H
                                have c113b0 : decide (2 ≤ x24_4) = false := decide_eq_false c113
                                clear c113
                                (first | rw [c113b0] | (simp only [i64_w, i32_w]; rw [c113b0]) | skip)
                                as_aux_lemma =>
                                  have H' := Aside0.mk H
                                  clear H
                                  go_wp2
                                  go_meet
                                  case rel => exact ⟨_, (65535), (by first | rfl | (simp; done) | (simp [*]; done) | (refine qa_int ?_; omega) | (refine qa_int ?_; simp <;> omega)), H', ⟨by have := HJ2.out; have := HK2.out; have := HJ17.out; have := HK4.out; first | omega | exact Nat.le_refl _⟩, ⟨by (with_reducible repeat (first | apply Kd.R_alloc | apply Kd.R_drewN | apply Kd.R_drew)); exact HO_7.out⟩, ⟨by (with_reducible repeat (first | refine blk_drewN ?_ _ | refine blk_drew ?_ | refine blk_alloc ?_ _)); exact BK154.out⟩, ⟨by repeat (first | (with_reducible first | exact HI149.out | apply IsS41.alloc | apply IsS41.drewN | apply IsS41.drew | apply IsS41.set_0 | apply IsS41.set_1 | apply IsS41.set_2 | apply IsS41.set_3 | apply IsS41.set_4 | refine IsS41.far ?_ NB149_154.out _) | exact HI149.out)⟩, ⟨by repeat (first | (with_reducible first | exact HB.out | apply below_alloc | apply pw_below_drewN | apply below_drew1 | refine below_set ?_ (IsS41.ge HI149.out) | refine below_set ?_ GE154.out) | exact HB.out)⟩⟩
                            case rest =>
                              clear HC112
                              try clear c1
                              try clear p1
                              try clear q1
                              try clear hx1
                              try clear c2
                              try clear p2
                              try clear c3
                              try clear c4
                              try clear p4
                              try clear q4
                              try clear hx4
                              try clear qi4
                              try clear hf4
                              try clear c5
                              try clear p5
                              try clear q5
                              try clear hx5
                              try clear hf5
                              try clear c6
                              try clear p6
                              try clear q6
                              try clear hx6
                              try clear qi6
                              try clear hf6
                              try clear c7
                              try clear c8
                              try clear c9
                              try clear q9
                              try clear c10
                              try clear q10
                              try clear c11
                              try clear c12
                              try clear c12b0
                              try clear c12b1
                              try clear c13
                              try clear c14
                              try clear p15
                              try clear q15
                              try clear hx15
                              try clear c16
                              try clear c16b0
                              try clear p16
                              try clear q16
                              try clear hx16
                              try clear c17
                              try clear c17b0
                              try clear p18
                              try clear q18
                              try clear hx18
                              try clear p19
                              try clear q19
                              try clear hx19
                              try clear c20
                              try clear c22
                              try clear c22b0
                              try clear c24
                              try clear c26
                              try clear c26b0
                              try clear c26b1
                              try clear c27
                              try clear c31
                              try clear c31b0
                              try clear c32
                              try clear c33
                              try clear c33b0
                              try clear c34
                              try clear c34b0
                              try clear c37
                              try clear c37b0
                              try clear c38
                              try clear c38b0
                              try clear c39
                              try clear c40
                              try clear c40b0
                              try clear c40b1
                              try clear c41
                              try clear c41b0
                              try clear c41b1
                              try clear p42
                              try clear q42
                              try clear hx42
                              try clear qi42
                              try clear hf42
                              try clear c47
                              try clear c47b0
                              try clear c47b1
                              try clear c50
                              try clear c50b0
                              try clear c51
                              try clear c51b0
                              try clear c52
                              try clear c52b0
                              try clear c54
                              try clear c54b0
                              try clear c55
                              try clear c55b0
                              try clear p56
                              try clear q56
                              try clear hx56
                              try clear hf56
                              try clear c60
                              try clear c60b0
                              try clear c60b1
                              try clear p61
                              try clear q61
                              try clear hx61
                              try clear qi61
                              try clear hf61
                              try clear c64
                              try clear c64b0
                              try clear p64
                              try clear c66
                              try clear c66b0
                              try clear c66b1
                              try clear c67
                              try clear c71
                              try clear c76
                              try clear c79
                              try clear c79b0
                              try clear c80
                              try clear c80b0
                              try clear c81
                              try clear c82
                              try clear c82b0
                              try clear c83
                              try clear c83b0
                              try clear c85
                              try clear c86
                              try clear c86b0
                              try clear c87
                              try clear c87b0
                              try clear c88
                              try clear c88b0
                              try clear c88b1
                              try clear c89
                              try clear q92
                              try clear c95
                              try clear c95b0
                              try clear c96
                              try clear c96b0
                              try clear c97
                              try clear c97b0
                              try clear c98
                              try clear c98b0
                              try clear c99
                              try clear c99b0
                              try clear q100
                              try clear c101
                              try clear c102
                              try clear c102b0
                              try clear c103
                              try clear c106
                              try clear c109
                              try clear c113
                              try clear c113b0
                              try clear hcz21_0
                              try clear hcz21_1
                              try clear hcz21_2
                              try clear hcz25_0
                              try clear hcz25_1
                              try clear hcz25_2
                              try clear hcz28_0
                              try clear hcz28_1
                              try clear hcz28_2
                              try clear hcz68_0
                              try clear hcz68_1
                              try clear hcz68_2
                              try clear hcz70_0
                              try clear hcz70_1
                              try clear hcz70_2
                              try clear hcz72_0
                              try clear hcz72_1
                              try clear hcz72_2
                              try clear hcz74_0
                              try clear hcz74_1
                              try clear hcz74_2
                              try clear hcz77_0
                              try clear hcz77_1
                              try clear hcz77_2
                              try clear hfz21_0
                              try clear hfz21_1
                              try clear hfz21_2
                              try clear hfz25_0
                              try clear hfz25_1
                              try clear hfz25_2
                              try clear hfz28_0
                              try clear hfz28_1
                              try clear hfz28_2
                              try clear hfz68_0
                              try clear hfz68_1
                              try clear hfz68_2
                              try clear hfz70_0
                              try clear hfz70_1
                              try clear hfz70_2
                              try clear hfz72_0
                              try clear hfz72_1
                              try clear hfz72_2
                              try clear hfz74_0
                              try clear hfz74_1
                              try clear hfz74_2
                              try clear hfz77_0
                              try clear hfz77_1
                              try clear hfz77_2
                              try clear hx153_0
                              try clear hx153_1
                              try clear hx153_2
                              try clear hx160_0
                              try clear hx168_0
                              try clear hx181_0
                              try clear hx192_0
                              try clear hx193_0
                              try clear hx194_0
                              try clear hx195_0
                              try clear hx42_0
                              try clear hx56_0
                              try clear hx61_0
                              try clear p1
                              try clear p15
                              try clear p153
                              try clear p16
                              try clear p160
                              try clear p168
                              try clear p18
                              try clear p181
                              try clear p192
                              try clear p193
                              try clear p194
                              try clear p195
                              try clear p2
                              try clear p4
                              try clear p42
                              try clear p5
                              try clear p56
                              try clear p6
                              try clear p61
                              try clear p64
                              try clear q1
                              try clear q15
                              try clear q153
                              try clear q16
                              try clear q160
                              try clear q168
                              try clear q18
                              try clear q181
                              try clear q192
                              try clear q193
                              try clear q194
                              try clear q195
                              try clear q4
                              try clear q42
                              try clear q5
                              try clear q56
                              try clear q6
                              try clear q61
                              try clear q9
                              try clear q92
                              obtain ⟨kq, x27_111, rfl, HA, HJ111, HO_7, BK154, HI149, HB⟩ := hcut
                              cases kq with
                              | zero => exact absurd HA.out (by simp [milestonelaw14_LinkPlays.j10])
                              | succ kj111 =>
                                have H := HA.out
                                clear HA
                                simp only [milestonelaw14_LinkPlays.j10] at H
                                have HC114 := Aside0.mk H
                                clear H
                                go_upto_if 210 with (fail)
                                go_cut [28] (fun v28 wc => ∃ (kq : Nat) (x28_113 : Int), v28 = .int .u16 x28_113 ∧ Aside0 (milestonelaw14_LinkPlays.j11 kq l1 x5_17 x7_17 x8_17 x9_17 x10_17 x11_17 x12_2 x25_4 x27_111 x28_113 x150000_17 x150001_17 x150002_17 x150003_17 x150004_17 = some r) ∧ Aside0 (kq ≤ kj111) ∧ Aside0 (Kd.R Kd.bool 4 wc w.heap.size (fun _ => True) u7 x7_17) ∧ Aside0 (wc.heap[gb154]? = some (.cells #[.int .u8 ((rd_T33 l1 x12_2).f0), .int .u8 ((rd_T33 l1 x12_2).f1), .int .u16 ((rd_T33 l1 x12_2).f2)] 33 (0, 0))) ∧ Aside0 (IsS41 w wc g149 x150000_17 x150001_17 x150002_17 x150003_17 x150004_17) ∧ Aside0 (Below w.heap.size w wc))
                                case first =>
                                  have H := HC114.out
                                  clear HC114
                                  by_cases c115 : x24_4 < 2
                                  · rw [if_pos c115] at H
                                    have c115b0 : decide (x24_4 < 2) = true := decide_eq_true c115
                                    clear c115
                                    (first | rw [c115b0] | (simp only [i64_w, i32_w]; rw [c115b0]) | skip)
                                    as_aux_lemma =>
                                      have H' := Aside0.mk H
                                      clear H
                                      go_wp2
                                      go_meet
                                      case rel => exact ⟨_, (65535), (by first | rfl | (simp; done) | (simp [*]; done) | (refine qa_int ?_; omega) | (refine qa_int ?_; simp <;> omega)), H', ⟨by have := HJ2.out; have := HK2.out; have := HJ17.out; have := HK4.out; have := HJ111.out; first | omega | exact Nat.le_refl _⟩, ⟨by (with_reducible repeat (first | apply Kd.R_alloc | apply Kd.R_drewN | apply Kd.R_drew)); exact HO_7.out⟩, ⟨by (with_reducible repeat (first | refine blk_drewN ?_ _ | refine blk_drew ?_ | refine blk_alloc ?_ _)); exact BK154.out⟩, ⟨by repeat (first | (with_reducible first | exact HI149.out | apply IsS41.alloc | apply IsS41.drewN | apply IsS41.drew | apply IsS41.set_0 | apply IsS41.set_1 | apply IsS41.set_2 | apply IsS41.set_3 | apply IsS41.set_4 | refine IsS41.far ?_ NB149_154.out _) | exact HI149.out)⟩, ⟨by repeat (first | (with_reducible first | exact HB.out | apply below_alloc | apply pw_below_drewN | apply below_drew1 | refine below_set ?_ (IsS41.ge HI149.out) | refine below_set ?_ GE154.out) | exact HB.out)⟩⟩
                                  · rw [if_neg c115] at H
                                    have c115b0 : decide (x24_4 < 2) = false := decide_eq_false c115
                                    clear c115
                                    (first | rw [c115b0] | (simp only [i64_w, i32_w]; rw [c115b0]) | skip)
                                    as_aux_lemma =>
                                      have H' := Aside0.mk H
                                      clear H
                                      go_wp2
                                      go_meet
                                      case rel => exact ⟨_, (x10_17), (by first | rfl | (simp; done) | (simp [*]; done) | (refine qa_int ?_; omega) | (refine qa_int ?_; simp <;> omega)), H', ⟨by have := HJ2.out; have := HK2.out; have := HJ17.out; have := HK4.out; have := HJ111.out; first | omega | exact Nat.le_refl _⟩, ⟨by (with_reducible repeat (first | apply Kd.R_alloc | apply Kd.R_drewN | apply Kd.R_drew)); exact HO_7.out⟩, ⟨by (with_reducible repeat (first | refine blk_drewN ?_ _ | refine blk_drew ?_ | refine blk_alloc ?_ _)); exact BK154.out⟩, ⟨by repeat (first | (with_reducible first | exact HI149.out | apply IsS41.alloc | apply IsS41.drewN | apply IsS41.drew | apply IsS41.set_0 | apply IsS41.set_1 | apply IsS41.set_2 | apply IsS41.set_3 | apply IsS41.set_4 | refine IsS41.far ?_ NB149_154.out _) | exact HI149.out)⟩, ⟨by repeat (first | (with_reducible first | exact HB.out | apply below_alloc | apply pw_below_drewN | apply below_drew1 | refine below_set ?_ (IsS41.ge HI149.out) | refine below_set ?_ GE154.out) | exact HB.out)⟩⟩
                                case rest =>
                                  clear HC114
                                  try clear c1
                                  try clear p1
                                  try clear q1
                                  try clear hx1
                                  try clear c2
                                  try clear p2
                                  try clear c3
                                  try clear c4
                                  try clear p4
                                  try clear q4
                                  try clear hx4
                                  try clear qi4
                                  try clear hf4
                                  try clear c5
                                  try clear p5
                                  try clear q5
                                  try clear hx5
                                  try clear hf5
                                  try clear c6
                                  try clear p6
                                  try clear q6
                                  try clear hx6
                                  try clear qi6
                                  try clear hf6
                                  try clear c7
                                  try clear c8
                                  try clear c9
                                  try clear q9
                                  try clear c10
                                  try clear q10
                                  try clear c11
                                  try clear c12
                                  try clear c12b0
                                  try clear c12b1
                                  try clear c13
                                  try clear c14
                                  try clear p15
                                  try clear q15
                                  try clear hx15
                                  try clear c16
                                  try clear c16b0
                                  try clear p16
                                  try clear q16
                                  try clear hx16
                                  try clear c17
                                  try clear c17b0
                                  try clear p18
                                  try clear q18
                                  try clear hx18
                                  try clear p19
                                  try clear q19
                                  try clear hx19
                                  try clear c20
                                  try clear c22
                                  try clear c22b0
                                  try clear c24
                                  try clear c26
                                  try clear c26b0
                                  try clear c26b1
                                  try clear c27
                                  try clear c31
                                  try clear c31b0
                                  try clear c32
                                  try clear c33
                                  try clear c33b0
                                  try clear c34
                                  try clear c34b0
                                  try clear c37
                                  try clear c37b0
                                  try clear c38
                                  try clear c38b0
                                  try clear c39
                                  try clear c40
                                  try clear c40b0
                                  try clear c40b1
                                  try clear c41
                                  try clear c41b0
                                  try clear c41b1
                                  try clear p42
                                  try clear q42
                                  try clear hx42
                                  try clear qi42
                                  try clear hf42
                                  try clear c47
                                  try clear c47b0
                                  try clear c47b1
                                  try clear c50
                                  try clear c50b0
                                  try clear c51
                                  try clear c51b0
                                  try clear c52
                                  try clear c52b0
                                  try clear c54
                                  try clear c54b0
                                  try clear c55
                                  try clear c55b0
                                  try clear p56
                                  try clear q56
                                  try clear hx56
                                  try clear hf56
                                  try clear c60
                                  try clear c60b0
                                  try clear c60b1
                                  try clear p61
                                  try clear q61
                                  try clear hx61
                                  try clear qi61
                                  try clear hf61
                                  try clear c64
                                  try clear c64b0
                                  try clear p64
                                  try clear c66
                                  try clear c66b0
                                  try clear c66b1
                                  try clear c67
                                  try clear c71
                                  try clear c76
                                  try clear c79
                                  try clear c79b0
                                  try clear c80
                                  try clear c80b0
                                  try clear c81
                                  try clear c82
                                  try clear c82b0
                                  try clear c83
                                  try clear c83b0
                                  try clear c85
                                  try clear c86
                                  try clear c86b0
                                  try clear c87
                                  try clear c87b0
                                  try clear c88
                                  try clear c88b0
                                  try clear c88b1
                                  try clear c89
                                  try clear q92
                                  try clear c95
                                  try clear c95b0
                                  try clear c96
                                  try clear c96b0
                                  try clear c97
                                  try clear c97b0
                                  try clear c98
                                  try clear c98b0
                                  try clear c99
                                  try clear c99b0
                                  try clear q100
                                  try clear c101
                                  try clear c102
                                  try clear c102b0
                                  try clear c103
                                  try clear c106
                                  try clear c109
                                  try clear c113
                                  try clear c113b0
                                  try clear c115
                                  try clear c115b0
                                  try clear hcz21_0
                                  try clear hcz21_1
                                  try clear hcz21_2
                                  try clear hcz25_0
                                  try clear hcz25_1
                                  try clear hcz25_2
                                  try clear hcz28_0
                                  try clear hcz28_1
                                  try clear hcz28_2
                                  try clear hcz68_0
                                  try clear hcz68_1
                                  try clear hcz68_2
                                  try clear hcz70_0
                                  try clear hcz70_1
                                  try clear hcz70_2
                                  try clear hcz72_0
                                  try clear hcz72_1
                                  try clear hcz72_2
                                  try clear hcz74_0
                                  try clear hcz74_1
                                  try clear hcz74_2
                                  try clear hcz77_0
                                  try clear hcz77_1
                                  try clear hcz77_2
                                  try clear hfz21_0
                                  try clear hfz21_1
                                  try clear hfz21_2
                                  try clear hfz25_0
                                  try clear hfz25_1
                                  try clear hfz25_2
                                  try clear hfz28_0
                                  try clear hfz28_1
                                  try clear hfz28_2
                                  try clear hfz68_0
                                  try clear hfz68_1
                                  try clear hfz68_2
                                  try clear hfz70_0
                                  try clear hfz70_1
                                  try clear hfz70_2
                                  try clear hfz72_0
                                  try clear hfz72_1
                                  try clear hfz72_2
                                  try clear hfz74_0
                                  try clear hfz74_1
                                  try clear hfz74_2
                                  try clear hfz77_0
                                  try clear hfz77_1
                                  try clear hfz77_2
                                  try clear hx153_0
                                  try clear hx153_1
                                  try clear hx153_2
                                  try clear hx160_0
                                  try clear hx168_0
                                  try clear hx181_0
                                  try clear hx192_0
                                  try clear hx193_0
                                  try clear hx194_0
                                  try clear hx195_0
                                  try clear hx42_0
                                  try clear hx56_0
                                  try clear hx61_0
                                  try clear p1
                                  try clear p15
                                  try clear p153
                                  try clear p16
                                  try clear p160
                                  try clear p168
                                  try clear p18
                                  try clear p181
                                  try clear p19
                                  try clear p192
                                  try clear p193
                                  try clear p194
                                  try clear p195
                                  try clear p2
                                  try clear p4
                                  try clear p42
                                  try clear p5
                                  try clear p56
                                  try clear p6
                                  try clear p61
                                  try clear p64
                                  try clear q1
                                  try clear q10
                                  try clear q100
                                  try clear q15
                                  try clear q153
                                  try clear q16
                                  try clear q160
                                  try clear q168
                                  try clear q18
                                  try clear q181
                                  try clear q19
                                  try clear q192
                                  try clear q193
                                  try clear q194
                                  try clear q195
                                  try clear q4
                                  try clear q42
                                  try clear q5
                                  try clear q56
                                  try clear q6
                                  try clear q61
                                  try clear q9
                                  try clear q92
                                  obtain ⟨kq, x28_113, rfl, HA, HJ113, HO_7, BK154, HI149, HB⟩ := hcut
                                  cases kq with
                                  | zero => exact absurd HA.out (by simp [milestonelaw14_LinkPlays.j11])
                                  | succ kj113 =>
                                    have H := HA.out
                                    clear HA
                                    simp only [milestonelaw14_LinkPlays.j11] at H
                                    replace H := Option.bind_eq_some_iff.mp H
                                    obtain ⟨⟨t196, t197, t198, t199, t200, t201⟩, A1160, H⟩ := H
                                    replace H : (if t196 = x27_111 then ((link_Link_Cost.f t197 t198 t199 t200 t201).bind fun bt202 => (if bt202.1 = x28_113 then ((link_Link_Alive.f bt202.2.1 bt202.2.2.1 bt202.2.2.2.1 bt202.2.2.2.2.1 bt202.2.2.2.2.2).bind fun bt208 => (if (bt208.1 != x25_4) = true then (some false) else (milestonelaw14_LinkPlays.l0 kj113 l1 x5_17 x7_17 x8_17 x9_17 x10_17 x11_17 (wrap64 (x12_2 + 1)) bt208.2.1 bt208.2.2.1 bt208.2.2.2.1 bt208.2.2.2.2.1 bt208.2.2.2.2.2))) else (some false))) else (some false)) = some r := H
                                    have A116 := Aside0.mk A1160
                                    clear A1160
                                    by_cases c117 : t196 = x27_111
                                    · rw [if_pos c117] at H
                                      have c117b0 : (t196 == x27_111) = true := beq_iff_eq.mpr c117
                                      have c117b1 : (t196 != x27_111) = false := bne_eq_false_iff_eq.mpr c117
                                      clear c117
                                      replace H := Option.bind_eq_some_iff.mp H
                                      obtain ⟨⟨t202, t203, t204, t205, t206, t207⟩, A1180, H⟩ := H
                                      replace H : (if t202 = x28_113 then ((link_Link_Alive.f t203 t204 t205 t206 t207).bind fun bt208 => (if (bt208.1 != x25_4) = true then (some false) else (milestonelaw14_LinkPlays.l0 kj113 l1 x5_17 x7_17 x8_17 x9_17 x10_17 x11_17 (wrap64 (x12_2 + 1)) bt208.2.1 bt208.2.2.1 bt208.2.2.2.1 bt208.2.2.2.2.1 bt208.2.2.2.2.2))) else (some false)) = some r := H
                                      have A118 := Aside0.mk A1180
                                      clear A1180
                                      by_cases c119 : t202 = x28_113
                                      · rw [if_pos c119] at H
                                        have c119b0 : (t202 == x28_113) = true := beq_iff_eq.mpr c119
                                        have c119b1 : (t202 != x28_113) = false := bne_eq_false_iff_eq.mpr c119
                                        clear c119
                                        replace H := Option.bind_eq_some_iff.mp H
                                        obtain ⟨⟨t208, t209, t210, t211, t212, t213⟩, A1200, H⟩ := H
                                        replace H : (if (t208 != x25_4) = true then (some false) else (milestonelaw14_LinkPlays.l0 kj113 l1 x5_17 x7_17 x8_17 x9_17 x10_17 x11_17 (wrap64 (x12_2 + 1)) t209 t210 t211 t212 t213)) = some r := H
                                        have A120 := Aside0.mk A1200
                                        clear A1200
                                        by_cases c121 : (t208 != x25_4) = true
                                        · rw [if_pos c121] at H
                                          have c121b0 : (t208 != x25_4) = true := c121
                                          (try (have c121b1 : decide (t208 = x25_4) = false := by simpa using c121))
                                          (try (have c121b2 : (t208 == x25_4) = false := by simpa using c121))
                                          (try (have c121b3 : ¬ (t208 = x25_4) := by simpa using c121))
                                          clear c121
                                          as_aux_lemma =>
                                            obtain rfl := Option.some.inj H
                                            exact absurd HT.out (by decide)
                                        · rw [if_neg c121] at H
                                          have c121b0 : (t208 != x25_4) = false := by simpa using c121
                                          (try (have c121b1 : decide (t208 = x25_4) = true := by simpa using c121))
                                          (try (have c121b2 : (t208 == x25_4) = true := by simpa using c121))
                                          clear c121
                                          as_aux_lemma =>
                                            have H' := Aside0.mk H
                                            clear H
                                            go_wp2_with (first | ((with_reducible refine gate_callee (f := 11) rfl ?_); refine goesL_ (some 212) rfl rfl Try.func11 (by kernel_rfl) rfl #[.pointer (some ⟨g149, 0, none⟩)] rfl (by (try simp only [List.map_toArray, List.map_cons, List.map_nil]); first | done | rfl | (simp only [List.length_drop, List.length_take]; rfl) | (simp; done) | (refine qa_arr ?_; (repeat' (first | rfl | refine qa_cons ?_ ?_ | refine qa_int ?_ | refine qa_agg ?_ | refine qa_arr ?_ | omega)); done)) ?_; (with_reducible refine (link_Link_Receives.calls g149 x150000_17 x150001_17 x150002_17 x150003_17 x150004_17 t196 t197 t198 t199 t200 t201 w _ ?side1 ?side2 A116.out).mono ?_); (case side1 => repeat (first | (with_reducible first | exact HI149.out | apply IsS41.alloc | apply IsS41.drewN | apply IsS41.drew | apply IsS41.set_0 | apply IsS41.set_1 | apply IsS41.set_2 | apply IsS41.set_3 | apply IsS41.set_4 | refine IsS41.far ?_ NB149_154.out _) | exact HI149.out)); (case side2 => repeat (first | (with_reducible first | exact HB.out | apply below_alloc | apply pw_below_drewN | apply below_drew1 | refine below_set ?_ (IsS41.ge HI149.out) | refine below_set ?_ GE154.out) | exact HB.out)); rintro e w122 ⟨rfl, hi, hb, hk⟩; refine ⟨_, rfl, ?_⟩; have n0_ := Aside0.mk (Kd.R_mono (Kd.R_keep (IsS41.apart (show IsS41 w _ g149 x150000_17 x150001_17 x150002_17 x150003_17 x150004_17 from by repeat (first | (with_reducible first | exact HI149.out | apply IsS41.alloc | apply IsS41.drewN | apply IsS41.drew | apply IsS41.set_0 | apply IsS41.set_1 | apply IsS41.set_2 | apply IsS41.set_3 | apply IsS41.set_4 | refine IsS41.far ?_ NB149_154.out _) | exact HI149.out)) (by (with_reducible repeat (first | apply Kd.R_alloc | apply Kd.R_drewN | apply Kd.R_drew)); exact HO_7.out) (by decide)) hk (fun _ h => h.2)) (fun _ h => h.1)); have n1_ := Aside0.mk (KeepBut.blk hk (g' := gb154) (o := .cells #[.int .u8 ((rd_T33 l1 x12_2).f0), .int .u8 ((rd_T33 l1 x12_2).f1), .int .u16 ((rd_T33 l1 x12_2).f2)] 33 (0, 0)) (by (with_reducible repeat (first | refine blk_drewN ?_ _ | refine blk_drew ?_ | refine blk_alloc ?_ _)); exact BK154.out) NB154_149.out (by simp)); have n2_ := Aside0.mk (hb); have n3_ := Aside0.mk (hi); clear HO_7; clear BK154; clear HB; clear HI149; have HO_7 := n0_; have BK154 := n1_; have HB := n2_; have HI149 := n3_; clear n0_ n1_ n2_ n3_; (try clear hb); (try clear hb2); (try clear hk); (try clear hi)) | (go_at_call 15; (with_reducible refine (link_Link_Cost.calls g149 t197 t198 t199 t200 t201 t202 t203 t204 t205 t206 t207 w _ ?side1 ?side2 A118.out).mono ?_); (case side1 => repeat (first | (with_reducible first | exact HI149.out | apply IsS41.alloc | apply IsS41.drewN | apply IsS41.drew | apply IsS41.set_0 | apply IsS41.set_1 | apply IsS41.set_2 | apply IsS41.set_3 | apply IsS41.set_4 | refine IsS41.far ?_ NB149_154.out _) | exact HI149.out)); (case side2 => repeat (first | (with_reducible first | exact HB.out | apply below_alloc | apply pw_below_drewN | apply below_drew1 | refine below_set ?_ (IsS41.ge HI149.out) | refine below_set ?_ GE154.out) | exact HB.out)); rintro e w123 ⟨rfl, hi, hb, hk⟩; have n0_ := Aside0.mk (Kd.R_mono (Kd.R_keep (IsS41.apart (show IsS41 w _ g149 t197 t198 t199 t200 t201 from by repeat (first | (with_reducible first | exact HI149.out | apply IsS41.alloc | apply IsS41.drewN | apply IsS41.drew | apply IsS41.set_0 | apply IsS41.set_1 | apply IsS41.set_2 | apply IsS41.set_3 | apply IsS41.set_4 | refine IsS41.far ?_ NB149_154.out _) | exact HI149.out)) (by (with_reducible repeat (first | apply Kd.R_alloc | apply Kd.R_drewN | apply Kd.R_drew)); exact HO_7.out) (by decide)) hk (fun _ h => h.2)) (fun _ h => h.1)); have n1_ := Aside0.mk (KeepBut.blk hk (g' := gb154) (o := .cells #[.int .u8 ((rd_T33 l1 x12_2).f0), .int .u8 ((rd_T33 l1 x12_2).f1), .int .u16 ((rd_T33 l1 x12_2).f2)] 33 (0, 0)) (by (with_reducible repeat (first | refine blk_drewN ?_ _ | refine blk_drew ?_ | refine blk_alloc ?_ _)); exact BK154.out) NB154_149.out (by simp)); have n2_ := Aside0.mk (hb); have n3_ := Aside0.mk (hi); clear HO_7; clear BK154; clear HB; clear HI149; have HO_7 := n0_; have BK154 := n1_; have HB := n2_; have HI149 := n3_; clear n0_ n1_ n2_ n3_; (try clear hb); (try clear hb2); (try clear hk); (try clear hi)) | (go_at_call 12; (with_reducible refine (link_Link_Alive.calls g149 t203 t204 t205 t206 t207 t208 t209 t210 t211 t212 t213 w _ ?side1 ?side2 A120.out).mono ?_); (case side1 => repeat (first | (with_reducible first | exact HI149.out | apply IsS41.alloc | apply IsS41.drewN | apply IsS41.drew | apply IsS41.set_0 | apply IsS41.set_1 | apply IsS41.set_2 | apply IsS41.set_3 | apply IsS41.set_4 | refine IsS41.far ?_ NB149_154.out _) | exact HI149.out)); (case side2 => repeat (first | (with_reducible first | exact HB.out | apply below_alloc | apply pw_below_drewN | apply below_drew1 | refine below_set ?_ (IsS41.ge HI149.out) | refine below_set ?_ GE154.out) | exact HB.out)); rintro e w124 ⟨rfl, hi, hb, hk⟩; have n0_ := Aside0.mk (Kd.R_mono (Kd.R_keep (IsS41.apart (show IsS41 w _ g149 t203 t204 t205 t206 t207 from by repeat (first | (with_reducible first | exact HI149.out | apply IsS41.alloc | apply IsS41.drewN | apply IsS41.drew | apply IsS41.set_0 | apply IsS41.set_1 | apply IsS41.set_2 | apply IsS41.set_3 | apply IsS41.set_4 | refine IsS41.far ?_ NB149_154.out _) | exact HI149.out)) (by (with_reducible repeat (first | apply Kd.R_alloc | apply Kd.R_drewN | apply Kd.R_drew)); exact HO_7.out) (by decide)) hk (fun _ h => h.2)) (fun _ h => h.1)); have n1_ := Aside0.mk (KeepBut.blk hk (g' := gb154) (o := .cells #[.int .u8 ((rd_T33 l1 x12_2).f0), .int .u8 ((rd_T33 l1 x12_2).f1), .int .u16 ((rd_T33 l1 x12_2).f2)] 33 (0, 0)) (by (with_reducible repeat (first | refine blk_drewN ?_ _ | refine blk_drew ?_ | refine blk_alloc ?_ _)); exact BK154.out) NB154_149.out (by simp)); have n2_ := Aside0.mk (hb); have n3_ := Aside0.mk (hi); clear HO_7; clear BK154; clear HB; clear HI149; have HO_7 := n0_; have BK154 := n1_; have HB := n2_; have HI149 := n3_; clear n0_ n1_ n2_ n3_; (try clear hb); (try clear hb2); (try clear hk); (try clear hi)) | (go_at_call 15; (refine calls_of_args (args' := #[.pointer (some ⟨g149, 0, none⟩)]) ?_ ?_; focus (first | rfl | (simp; done) | (refine qa_arr ?_; (repeat' (first | rfl | refine qa_cons ?_ ?_ | refine qa_int ?_ | refine qa_agg ?_ | refine qa_arr ?_ | omega)); done)); (with_reducible refine (link_Link_Cost.calls g149 t197 t198 t199 t200 t201 t202 t203 t204 t205 t206 t207 w _ ?side1 ?side2 A118.out).mono ?_)); (case side1 => repeat (first | (with_reducible first | exact HI149.out | apply IsS41.alloc | apply IsS41.drewN | apply IsS41.drew | apply IsS41.set_0 | apply IsS41.set_1 | apply IsS41.set_2 | apply IsS41.set_3 | apply IsS41.set_4 | refine IsS41.far ?_ NB149_154.out _) | exact HI149.out)); (case side2 => repeat (first | (with_reducible first | exact HB.out | apply below_alloc | apply pw_below_drewN | apply below_drew1 | refine below_set ?_ (IsS41.ge HI149.out) | refine below_set ?_ GE154.out) | exact HB.out)); rintro e w123 ⟨rfl, hi, hb, hk⟩; have n0_ := Aside0.mk (Kd.R_mono (Kd.R_keep (IsS41.apart (show IsS41 w _ g149 t197 t198 t199 t200 t201 from by repeat (first | (with_reducible first | exact HI149.out | apply IsS41.alloc | apply IsS41.drewN | apply IsS41.drew | apply IsS41.set_0 | apply IsS41.set_1 | apply IsS41.set_2 | apply IsS41.set_3 | apply IsS41.set_4 | refine IsS41.far ?_ NB149_154.out _) | exact HI149.out)) (by (with_reducible repeat (first | apply Kd.R_alloc | apply Kd.R_drewN | apply Kd.R_drew)); exact HO_7.out) (by decide)) hk (fun _ h => h.2)) (fun _ h => h.1)); have n1_ := Aside0.mk (KeepBut.blk hk (g' := gb154) (o := .cells #[.int .u8 ((rd_T33 l1 x12_2).f0), .int .u8 ((rd_T33 l1 x12_2).f1), .int .u16 ((rd_T33 l1 x12_2).f2)] 33 (0, 0)) (by (with_reducible repeat (first | refine blk_drewN ?_ _ | refine blk_drew ?_ | refine blk_alloc ?_ _)); exact BK154.out) NB154_149.out (by simp)); have n2_ := Aside0.mk (hb); have n3_ := Aside0.mk (hi); clear HO_7; clear BK154; clear HB; clear HI149; have HO_7 := n0_; have BK154 := n1_; have HB := n2_; have HI149 := n3_; clear n0_ n1_ n2_ n3_; (try clear hb); (try clear hb2); (try clear hk); (try clear hi)) | (go_at_call 12; (refine calls_of_args (args' := #[.pointer (some ⟨g149, 0, none⟩)]) ?_ ?_; focus (first | rfl | (simp; done) | (refine qa_arr ?_; (repeat' (first | rfl | refine qa_cons ?_ ?_ | refine qa_int ?_ | refine qa_agg ?_ | refine qa_arr ?_ | omega)); done)); (with_reducible refine (link_Link_Alive.calls g149 t203 t204 t205 t206 t207 t208 t209 t210 t211 t212 t213 w _ ?side1 ?side2 A120.out).mono ?_)); (case side1 => repeat (first | (with_reducible first | exact HI149.out | apply IsS41.alloc | apply IsS41.drewN | apply IsS41.drew | apply IsS41.set_0 | apply IsS41.set_1 | apply IsS41.set_2 | apply IsS41.set_3 | apply IsS41.set_4 | refine IsS41.far ?_ NB149_154.out _) | exact HI149.out)); (case side2 => repeat (first | (with_reducible first | exact HB.out | apply below_alloc | apply pw_below_drewN | apply below_drew1 | refine below_set ?_ (IsS41.ge HI149.out) | refine below_set ?_ GE154.out) | exact HB.out)); rintro e w124 ⟨rfl, hi, hb, hk⟩; have n0_ := Aside0.mk (Kd.R_mono (Kd.R_keep (IsS41.apart (show IsS41 w _ g149 t203 t204 t205 t206 t207 from by repeat (first | (with_reducible first | exact HI149.out | apply IsS41.alloc | apply IsS41.drewN | apply IsS41.drew | apply IsS41.set_0 | apply IsS41.set_1 | apply IsS41.set_2 | apply IsS41.set_3 | apply IsS41.set_4 | refine IsS41.far ?_ NB149_154.out _) | exact HI149.out)) (by (with_reducible repeat (first | apply Kd.R_alloc | apply Kd.R_drewN | apply Kd.R_drew)); exact HO_7.out) (by decide)) hk (fun _ h => h.2)) (fun _ h => h.1)); have n1_ := Aside0.mk (KeepBut.blk hk (g' := gb154) (o := .cells #[.int .u8 ((rd_T33 l1 x12_2).f0), .int .u8 ((rd_T33 l1 x12_2).f1), .int .u16 ((rd_T33 l1 x12_2).f2)] 33 (0, 0)) (by (with_reducible repeat (first | refine blk_drewN ?_ _ | refine blk_drew ?_ | refine blk_alloc ?_ _)); exact BK154.out) NB154_149.out (by simp)); have n2_ := Aside0.mk (hb); have n3_ := Aside0.mk (hi); clear HO_7; clear BK154; clear HB; clear HI149; have HO_7 := n0_; have BK154 := n1_; have HB := n2_; have HI149 := n3_; clear n0_ n1_ n2_ n3_; (try clear hb); (try clear hb2); (try clear hk); (try clear hi)))
                                            go_roundg kj113
                                            case measure => have := HJ2.out; have := HK2.out; have := HJ17.out; have := HK4.out; have := HJ111.out; have := HJ113.out; omega
                                            case rel => exact ⟨(x5_17), (x7_17), (x8_17), (x9_17), (x10_17), (x11_17), (wrap64 (x12_2 + 1)), (t209), (t210), (t211), (t212), (t213), (by first | rfl | (simp; done) | (simp [*]; done) | (refine qa_int ?_; omega) | (refine qa_int ?_; simp <;> omega)), (by first | rfl | (simp; done) | (simp [*]; done) | (refine qa_int ?_; omega) | (refine qa_int ?_; simp <;> omega)), (by first | rfl | (simp; done) | (simp [*]; done) | (refine qa_int ?_; omega) | (refine qa_int ?_; simp <;> omega)), (by first | rfl | (simp; done) | (simp [*]; done) | (refine qa_int ?_; omega) | (refine qa_int ?_; simp <;> omega)), (by first | rfl | (simp; done) | (simp [*]; done) | (refine qa_int ?_; omega) | (refine qa_int ?_; simp <;> omega)), (by first | rfl | (simp; done) | (simp [*]; done) | (refine qa_int ?_; omega) | (refine qa_int ?_; simp <;> omega)), H', ⟨by have := HJ2.out; have := HK2.out; have := HJ17.out; have := HK4.out; have := HJ111.out; have := HJ113.out; omega⟩, ⟨by (with_reducible repeat (first | apply Kd.R_alloc | apply Kd.R_drewN | apply Kd.R_drew)); exact HO_7.out⟩, ⟨by repeat (first | (with_reducible first | exact HI149.out | apply IsS41.alloc | apply IsS41.drewN | apply IsS41.drew | apply IsS41.set_0 | apply IsS41.set_1 | apply IsS41.set_2 | apply IsS41.set_3 | apply IsS41.set_4 | refine IsS41.far ?_ NB149_154.out _) | exact HI149.out)⟩, ⟨by repeat (first | (with_reducible first | exact HB.out | apply below_alloc | apply pw_below_drewN | apply below_drew1 | refine below_set ?_ (IsS41.ge HI149.out) | refine below_set ?_ GE154.out) | exact HB.out)⟩⟩
                                      · rw [if_neg c119] at H
                                        have c119b0 : (t202 == x28_113) = false := beq_eq_false_iff_ne.mpr c119
                                        have c119b1 : (t202 != x28_113) = true := bne_iff_ne.mpr c119
                                        as_aux_lemma =>
                                          obtain rfl := Option.some.inj H
                                          exact absurd HT.out (by decide)
                                    · rw [if_neg c117] at H
                                      have c117b0 : (t196 == x27_111) = false := beq_eq_false_iff_ne.mpr c117
                                      have c117b1 : (t196 != x27_111) = true := bne_iff_ne.mpr c117
                                      as_aux_lemma =>
                                        obtain rfl := Option.some.inj H
                                        exact absurd HT.out (by decide)
                · rw [if_neg c17] at H
                  exact absurd H (by simp)
              · rw [if_neg c16] at H
                have c16b0 : decide (x12_2 < (l1.length : Int)) = false := decide_eq_false c16
                clear c16
                as_aux_lemma =>
                  obtain rfl := Option.some.inj H
                  simp only [Option.some.injEq, Prod.mk.injEq] at H
                  obtain ⟨rfl⟩ := H
                  go_wp2
                  go_ret
                  exact ⟨by first | rfl | (simp [errW_none, errW_some] <;> rfl) | (simp [*, errW_none, errW_some] <;> rfl), by repeat (first | (with_reducible first | exact HB.out | apply below_alloc | apply pw_below_drewN | apply below_drew1 | refine below_set ?_ (IsS41.ge HI149.out)) | exact HB.out)⟩
        · rw [if_neg c12] at H
          exact absurd H (by simp)


end Go.Proofs.Ytkdjpkgaknfdeaa.QLinkPlays
