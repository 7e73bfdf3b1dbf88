-- Lines by a program of this session, for this claim.
import Derived.Test.YtllcighpfikpkaaQFrameScansx0
import Derived.Test.YtllcighpfikpkaaQFrameScansx4
import Derived.Test.YtllcighpfikpkaaQFrameScansx5
namespace Go.Proofs.Ytllcighpfikpkaa.QFrameScans
open Go.RowKit Go.Proofs.YtllcighpfikpkaaW.PrintWords Go.Proofs.YtllcighpfikpkaaW.PrintLast Go.Proofs.YtllcighpfikpkaaW.PrintMore
attribute [local go_sem] max2_int min2_int max_two min_two max_three min_three max_four min_four   -- for this text's walks alone
set_option linter.unusedVariables false
set_option linter.unusedSimpArgs false

/-! ### milestoneref05_One: function 19 -/
def milestoneref05_One.f (k : Nat) (l0 : List Int) (a1 : Int) : Option (Int × Int × Int) := if 0 ≤ a1 then (if a1 ≤ (l0.length : Int) then ((milestoneref01_Take.f k (l0.drop (a1 : Int).toNat)).bind fun bt201 => (if bt201.2.2 = 0 then (if bt201.1 > 1048576 then (some (0, 0, 6)) else (if (wrap64 ((wrap64 ((wrap64 ((wrap64 (a1 + bt201.2.1)) + 1)) + (wrap64 (bt201.1)))) + 4)) > (l0.length : Int) then (some (0, 0, 5)) else (if a1 ≤ (wrap64 ((wrap64 ((wrap64 (a1 + bt201.2.1)) + 1)) + (wrap64 (bt201.1)))) then (if (wrap64 ((wrap64 ((wrap64 (a1 + bt201.2.1)) + 1)) + (wrap64 (bt201.1)))) ≤ (l0.length : Int) then ((milestoneref01_Tail.f k ((l0.take ((wrap64 ((wrap64 ((wrap64 (a1 + bt201.2.1)) + 1)) + (wrap64 (bt201.1)))) : Int).toNat).drop (a1 : Int).toNat)).bind fun t205 => (if 0 ≤ (wrap64 ((wrap64 ((wrap64 (a1 + bt201.2.1)) + 1)) + (wrap64 (bt201.1)))) then (if (wrap64 ((wrap64 ((wrap64 (a1 + bt201.2.1)) + 1)) + (wrap64 (bt201.1)))) ≤ (wrap64 ((wrap64 ((wrap64 ((wrap64 (a1 + bt201.2.1)) + 1)) + (wrap64 (bt201.1)))) + 4)) then (if (wrap64 ((wrap64 ((wrap64 ((wrap64 (a1 + bt201.2.1)) + 1)) + (wrap64 (bt201.1)))) + 4)) ≤ (l0.length : Int) then (if (strOfNums t205).toList = (strOfNums ((l0.take ((wrap64 ((wrap64 ((wrap64 ((wrap64 (a1 + bt201.2.1)) + 1)) + (wrap64 (bt201.1)))) + 4)) : Int).toNat).drop ((wrap64 ((wrap64 ((wrap64 (a1 + bt201.2.1)) + 1)) + (wrap64 (bt201.1)))) : Int).toNat)).toList then (some (wrap64 ((wrap64 (a1 + bt201.2.1)) + 1), wrap64 ((wrap64 ((wrap64 (a1 + bt201.2.1)) + 1)) + (wrap64 (bt201.1))), 0)) else (some (0, 0, 4))) else (none)) else (none)) else (none))) else (none)) else (none)))) else (some (0, 0, bt201.2.2)))) else (none)) else (none)
theorem milestoneref05_One.mono : ∀ a0 a1 k, LeO (milestoneref05_One.f k a0 a1) (milestoneref05_One.f (k + 1) a0 a1) := by
  intro a0 a1 k
  unfold milestoneref05_One.f
  repeat' first
      | (with_reducible exact milestoneref01_Tail.mono _ _)
      | (with_reducible exact milestoneref01_Take.mono _ _)
      | (with_reducible exact LeO.refl _)
      | (with_reducible exact LeO.none _)
      | (with_reducible refine LeO.ite ?_ ?_)
      | (with_reducible refine LeO.bind ?_ (fun _ => ?_))
      | exact milestoneref01_Tail.mono _ _
      | exact milestoneref01_Take.mono _ _
      | exact LeO.none _
      | refine LeO.ite ?_ ?_
      | refine LeO.bind ?_ (fun _ => ?_)
def milestoneref05_One.T10 : Bool × List (List Nat × List Nat) := (true, [([], []), ([], []), ([], []), ([0, 1, 2], [0, 1, 2]), ([3], [3]), ([4], [4]), ([], []), ([], []), ([], []), ([8], [8]), ([6, 7, 9], [6, 7, 9]), ([10], [10]), ([5, 11], [5, 11])])
def milestoneref05_One.B10 : List Nat := [0, 0, 0, 7, 15, 31, 0, 0, 0, 256, 960, 1984, 4095]
theorem milestoneref05_One.tab10 : rtab .any (opsOf Try.f19 10) = milestoneref05_One.T10 := by kernel_rfl
theorem milestoneref05_One.bits10 : waitsOk milestoneref05_One.T10.2 milestoneref05_One.B10 = true := by kernel_rfl
set_option maxHeartbeats 8000000 in
set_option maxRecDepth 100000 in
theorem milestoneref05_One.calls (k : Nat) (A0 : Option Addr) (c0 : Nat) (l0 : List Int) (a1 : Int) (r1 : Int) (r2 : Int) (r3 : Int) (w : World) (hr0 : Kd.C (Kd.int .u8) w A0 l0.length l0) (hc0 : l0.length ≤ c0) (h : milestoneref05_One.f k l0 a1 = some (r1, r2, r3)) :
    Calls Try.prog 19 #[.slice A0 l0.length c0, .int .i64 a1] w fun e w' => e = .returned (.tuple #[.int .i64 r1, .int .i64 r2, .int .i64 r3]) ∧ Below w.heap.size w w' := by
  have HR0 := Aside0.mk hr0
  have HC0 := Aside0.mk hc0
  clear hr0 hc0
  have HB := Aside0.mk (Below.refl w.heap.size w)
  have H : (if 0 ≤ a1 then (if a1 ≤ (l0.length : Int) then ((milestoneref01_Take.f k (l0.drop (a1 : Int).toNat)).bind fun bt201 => (if bt201.2.2 = 0 then (if bt201.1 > 1048576 then (some (0, 0, 6)) else (if (wrap64 ((wrap64 ((wrap64 ((wrap64 (a1 + bt201.2.1)) + 1)) + (wrap64 (bt201.1)))) + 4)) > (l0.length : Int) then (some (0, 0, 5)) else (if a1 ≤ (wrap64 ((wrap64 ((wrap64 (a1 + bt201.2.1)) + 1)) + (wrap64 (bt201.1)))) then (if (wrap64 ((wrap64 ((wrap64 (a1 + bt201.2.1)) + 1)) + (wrap64 (bt201.1)))) ≤ (l0.length : Int) then ((milestoneref01_Tail.f k ((l0.take ((wrap64 ((wrap64 ((wrap64 (a1 + bt201.2.1)) + 1)) + (wrap64 (bt201.1)))) : Int).toNat).drop (a1 : Int).toNat)).bind fun t205 => (if 0 ≤ (wrap64 ((wrap64 ((wrap64 (a1 + bt201.2.1)) + 1)) + (wrap64 (bt201.1)))) then (if (wrap64 ((wrap64 ((wrap64 (a1 + bt201.2.1)) + 1)) + (wrap64 (bt201.1)))) ≤ (wrap64 ((wrap64 ((wrap64 ((wrap64 (a1 + bt201.2.1)) + 1)) + (wrap64 (bt201.1)))) + 4)) then (if (wrap64 ((wrap64 ((wrap64 ((wrap64 (a1 + bt201.2.1)) + 1)) + (wrap64 (bt201.1)))) + 4)) ≤ (l0.length : Int) then (if (strOfNums t205).toList = (strOfNums ((l0.take ((wrap64 ((wrap64 ((wrap64 ((wrap64 (a1 + bt201.2.1)) + 1)) + (wrap64 (bt201.1)))) + 4)) : Int).toNat).drop ((wrap64 ((wrap64 ((wrap64 (a1 + bt201.2.1)) + 1)) + (wrap64 (bt201.1)))) : Int).toNat)).toList then (some (wrap64 ((wrap64 (a1 + bt201.2.1)) + 1), wrap64 ((wrap64 ((wrap64 (a1 + bt201.2.1)) + 1)) + (wrap64 (bt201.1))), 0)) else (some (0, 0, 4))) else (none)) else (none)) else (none))) else (none)) else (none)))) else (some (0, 0, bt201.2.2)))) else (none)) else (none)) = some (r1, r2, r3) := h
  clear h
  by_cases c3 : 0 ≤ a1
  · rw [if_pos c3] at H
    have c3b0 := eq_true c3
    have c3b1 : decide (0 ≤ a1) = true := decide_eq_true c3
    clear c3
    by_cases c4 : a1 ≤ (l0.length : Int)
    · rw [if_pos c4] at H
      have c4b0 := eq_true c4
      have c4b1 : decide (a1 ≤ (l0.length : Int)) = true := decide_eq_true c4
      clear c4
      replace H := Option.bind_eq_some_iff.mp H
      obtain ⟨⟨t201, t202, t203⟩, A50, H⟩ := H
      replace H : (if t203 = 0 then (if t201 > 1048576 then (some (0, 0, 6)) else (if (wrap64 ((wrap64 ((wrap64 ((wrap64 (a1 + t202)) + 1)) + (wrap64 (t201)))) + 4)) > (l0.length : Int) then (some (0, 0, 5)) else (if a1 ≤ (wrap64 ((wrap64 ((wrap64 (a1 + t202)) + 1)) + (wrap64 (t201)))) then (if (wrap64 ((wrap64 ((wrap64 (a1 + t202)) + 1)) + (wrap64 (t201)))) ≤ (l0.length : Int) then ((milestoneref01_Tail.f k ((l0.take ((wrap64 ((wrap64 ((wrap64 (a1 + t202)) + 1)) + (wrap64 (t201)))) : Int).toNat).drop (a1 : Int).toNat)).bind fun t205 => (if 0 ≤ (wrap64 ((wrap64 ((wrap64 (a1 + t202)) + 1)) + (wrap64 (t201)))) then (if (wrap64 ((wrap64 ((wrap64 (a1 + t202)) + 1)) + (wrap64 (t201)))) ≤ (wrap64 ((wrap64 ((wrap64 ((wrap64 (a1 + t202)) + 1)) + (wrap64 (t201)))) + 4)) then (if (wrap64 ((wrap64 ((wrap64 ((wrap64 (a1 + t202)) + 1)) + (wrap64 (t201)))) + 4)) ≤ (l0.length : Int) then (if (strOfNums t205).toList = (strOfNums ((l0.take ((wrap64 ((wrap64 ((wrap64 ((wrap64 (a1 + t202)) + 1)) + (wrap64 (t201)))) + 4)) : Int).toNat).drop ((wrap64 ((wrap64 ((wrap64 (a1 + t202)) + 1)) + (wrap64 (t201)))) : Int).toNat)).toList then (some (wrap64 ((wrap64 (a1 + t202)) + 1), wrap64 ((wrap64 ((wrap64 (a1 + t202)) + 1)) + (wrap64 (t201))), 0)) else (some (0, 0, 4))) else (none)) else (none)) else (none))) else (none)) else (none)))) else (some (0, 0, t203))) = some (r1, r2, r3) := H
      have A5 := Aside0.mk A50
      clear A50
      by_cases c6 : t203 = 0
      · rw [if_pos c6] at H
        have c6b0 : (t203 == 0) = true := beq_iff_eq.mpr c6
        have c6b1 : (t203 != 0) = false := bne_eq_false_iff_eq.mpr c6
        clear c6
        by_cases c7 : t201 > 1048576
        · rw [if_pos c7] at H
          have c7b0 : decide (1048576 < t201) = true := decide_eq_true c7
          clear c7
          simp only [Option.some.injEq, Prod.mk.injEq] at H
          obtain ⟨rfl, rfl, rfl⟩ := H
          obtain ⟨i08, hi08, _, hsz8, _⟩ := info_parts info5
          obtain ⟨A8, hcut8, hA8, hC8⟩ := print_drop_of (P := Try.prog) (Value.int .u8) 0 33 5 .i64 Try.underlying33 hi08 hsz8 A0 c0 l0 a1 (of_decide_eq_true (by first | (with_reducible assumption) | assumption)) (of_decide_eq_true (by first | (with_reducible assumption) | assumption)) HC0.out
          have HR200 := Aside0.mk (Kd.C_of_reads (h1 := fun _ => rfl) (hA8 _ (Kd.reads_of_C HR0.out)))
          have HC200 := Aside0.mk hC8
          clear hA8 hC8 hi08 hsz8
          go_enter Try.func19, Try.ntmps19
          go_wp2_with (first | ((with_reducible refine gate_callee (f := 34) rfl ?_); refine goesL_ (some 16) rfl rfl Try.func34 (by kernel_rfl) rfl #[.slice A8 (l0.drop (a1 : Int).toNat).length (c0 - a1.toNat)] rfl (by (try simp only [List.map_toArray, List.map_cons, List.map_nil]); first | done | (rw [show (l0.drop (a1 : Int).toNat).length = (l0.length - a1.toNat) from List.length_drop] <;> rfl) | rfl | (simp only [List.length_drop, List.length_take]; rfl) | (simp; done) | (refine qa_arr ?_; (repeat' (first | rfl | refine qa_cons ?_ ?_ | refine qa_int ?_ | refine qa_agg ?_ | refine qa_arr ?_ | omega)); done)) ?_; (with_reducible refine (milestoneref01_Take.calls k _ _ (l0.drop (a1 : Int).toNat) t201 t202 t203 _ ?side1 ?side2 A5.out).mono ?_); (case side1 => repeat (first | exact HR200.out | (with_reducible refine Kd.C_alloc ?_ _) | (with_reducible refine Kd.C_drewN ?_ _) | (with_reducible refine Kd.C_drew ?_))); (case side2 => exact HC200.out); rintro e w9 ⟨rfl, hb⟩; refine ⟨_, rfl, ?_⟩; have n0_ := Aside0.mk (below_step (by repeat (first | (with_reducible first | exact HB.out | apply below_alloc | apply pw_below_drewN | apply below_drew1) | exact HB.out)) hb); clear HB; have HB := n0_; clear n0_; (try clear hb); (try clear hb2); (try clear hk); (try clear hi)))
          go_ret3
          exact ⟨by first | rfl | (simp [errW_none, errW_some] <;> rfl) | (simp [*, errW_none, errW_some] <;> rfl), by repeat (first | (with_reducible first | exact HB.out | apply below_alloc | apply pw_below_drewN | apply below_drew1) | exact HB.out)⟩
        · rw [if_neg c7] at H
          have c7b0 : decide (1048576 < t201) = false := decide_eq_false c7
          clear c7
          by_cases c10 : (wrap64 ((wrap64 ((wrap64 ((wrap64 (a1 + t202)) + 1)) + (wrap64 (t201)))) + 4)) > (l0.length : Int)
          · rw [if_pos c10] at H
            have c10b0 : decide ((l0.length : Int) < (wrap64 ((wrap64 ((wrap64 ((wrap64 (a1 + t202)) + 1)) + (wrap64 (t201)))) + 4))) = true := decide_eq_true c10
            clear c10
            simp only [Option.some.injEq, Prod.mk.injEq] at H
            obtain ⟨rfl, rfl, rfl⟩ := H
            obtain ⟨i011, hi011, _, hsz11, _⟩ := info_parts info5
            obtain ⟨A11, hcut11, hA11, hC11⟩ := print_drop_of (P := Try.prog) (Value.int .u8) 0 33 5 .i64 Try.underlying33 hi011 hsz11 A0 c0 l0 a1 (of_decide_eq_true (by first | (with_reducible assumption) | assumption)) (of_decide_eq_true (by first | (with_reducible assumption) | assumption)) HC0.out
            have HR200 := Aside0.mk (Kd.C_of_reads (h1 := fun _ => rfl) (hA11 _ (Kd.reads_of_C HR0.out)))
            have HC200 := Aside0.mk hC11
            clear hA11 hC11 hi011 hsz11
            go_enter Try.func19, Try.ntmps19
            go_wp2_with (first | ((with_reducible refine gate_callee (f := 34) rfl ?_); refine goesL_ (some 16) rfl rfl Try.func34 (by kernel_rfl) rfl #[.slice A11 (l0.drop (a1 : Int).toNat).length (c0 - a1.toNat)] rfl (by (try simp only [List.map_toArray, List.map_cons, List.map_nil]); first | done | (rw [show (l0.drop (a1 : Int).toNat).length = (l0.length - a1.toNat) from List.length_drop] <;> rfl) | rfl | (simp only [List.length_drop, List.length_take]; rfl) | (simp; done) | (refine qa_arr ?_; (repeat' (first | rfl | refine qa_cons ?_ ?_ | refine qa_int ?_ | refine qa_agg ?_ | refine qa_arr ?_ | omega)); done)) ?_; (with_reducible refine (milestoneref01_Take.calls k _ _ (l0.drop (a1 : Int).toNat) t201 t202 t203 _ ?side1 ?side2 A5.out).mono ?_); (case side1 => repeat (first | exact HR200.out | (with_reducible refine Kd.C_alloc ?_ _) | (with_reducible refine Kd.C_drewN ?_ _) | (with_reducible refine Kd.C_drew ?_))); (case side2 => exact HC200.out); rintro e w12 ⟨rfl, hb⟩; refine ⟨_, rfl, ?_⟩; have n0_ := Aside0.mk (below_step (by repeat (first | (with_reducible first | exact HB.out | apply below_alloc | apply pw_below_drewN | apply below_drew1) | exact HB.out)) hb); clear HB; have HB := n0_; clear n0_; (try clear hb); (try clear hb2); (try clear hk); (try clear hi)))
            go_ret3
            exact ⟨by first | rfl | (simp [errW_none, errW_some] <;> rfl) | (simp [*, errW_none, errW_some] <;> rfl), by repeat (first | (with_reducible first | exact HB.out | apply below_alloc | apply pw_below_drewN | apply below_drew1) | exact HB.out)⟩
          · rw [if_neg c10] at H
            have c10b0 : decide ((l0.length : Int) < (wrap64 ((wrap64 ((wrap64 ((wrap64 (a1 + t202)) + 1)) + (wrap64 (t201)))) + 4))) = false := decide_eq_false c10
            clear c10
            have c13b0 := eq_true (of_decide_eq_true (by first | (with_reducible assumption) | assumption) : 0 ≤ a1)
            by_cases c14 : a1 ≤ (wrap64 ((wrap64 ((wrap64 (a1 + t202)) + 1)) + (wrap64 (t201))))
            · rw [if_pos c14] at H
              have c14b0 := eq_true c14
              have c14b1 : decide (a1 ≤ (wrap64 ((wrap64 ((wrap64 (a1 + t202)) + 1)) + (wrap64 (t201))))) = true := decide_eq_true c14
              by_cases c15 : (wrap64 ((wrap64 ((wrap64 (a1 + t202)) + 1)) + (wrap64 (t201)))) ≤ (l0.length : Int)
              · rw [if_pos c15] at H
                have c15b0 := eq_true c15
                have c15b1 : decide ((wrap64 ((wrap64 ((wrap64 (a1 + t202)) + 1)) + (wrap64 (t201)))) ≤ (l0.length : Int)) = true := decide_eq_true c15
                replace H := Option.bind_eq_some_iff.mp H
                obtain ⟨t205, A160, H⟩ := H
                replace H : (if 0 ≤ (wrap64 ((wrap64 ((wrap64 (a1 + t202)) + 1)) + (wrap64 (t201)))) then (if (wrap64 ((wrap64 ((wrap64 (a1 + t202)) + 1)) + (wrap64 (t201)))) ≤ (wrap64 ((wrap64 ((wrap64 ((wrap64 (a1 + t202)) + 1)) + (wrap64 (t201)))) + 4)) then (if (wrap64 ((wrap64 ((wrap64 ((wrap64 (a1 + t202)) + 1)) + (wrap64 (t201)))) + 4)) ≤ (l0.length : Int) then (if (strOfNums t205).toList = (strOfNums ((l0.take ((wrap64 ((wrap64 ((wrap64 ((wrap64 (a1 + t202)) + 1)) + (wrap64 (t201)))) + 4)) : Int).toNat).drop ((wrap64 ((wrap64 ((wrap64 (a1 + t202)) + 1)) + (wrap64 (t201)))) : Int).toNat)).toList then (some (wrap64 ((wrap64 (a1 + t202)) + 1), wrap64 ((wrap64 ((wrap64 (a1 + t202)) + 1)) + (wrap64 (t201))), 0)) else (some (0, 0, 4))) else (none)) else (none)) else (none)) = some (r1, r2, r3) := H
                have A16 := Aside0.mk A160
                clear A160
                obtain ⟨ji17, hji17⟩ : ∃ j_ : Int, (wrap64 ((wrap64 ((wrap64 (a1 + t202)) + 1)) + (wrap64 (t201)))) = j_ := ⟨_, rfl⟩
                replace H : (if 0 ≤ (ji17) then (if (ji17) ≤ (wrap64 ((ji17) + 4)) then (if (wrap64 ((ji17) + 4)) ≤ (l0.length : Int) then (if (strOfNums t205).toList = (strOfNums ((l0.take ((wrap64 ((ji17) + 4)) : Int).toNat).drop ((ji17) : Int).toNat)).toList then (some (wrap64 ((wrap64 (a1 + t202)) + 1), ji17, 0)) else (some (0, 0, 4))) else (none)) else (none)) else (none)) = some (r1, r2, r3) := by first | (rw [hji17] at H; exact H) | (simp only [hji17] at H ⊢; exact H)
                (try rw [hji17] at c10b0)
                (try rw [hji17] at c14b0)
                (try rw [hji17] at c14b1)
                (try rw [hji17] at c14)
                (try rw [hji17] at c15b0)
                (try rw [hji17] at c15b1)
                (try rw [hji17] at c15)
                (try rw [hji17] at A5)
                (try rw [hji17] at A16)
                have hji17w : (IntKind.i64.wrap ((wrap64 ((wrap64 (a1 + t202)) + 1)) + (wrap64 (t201)))) = ji17 := (i64_w _).trans hji17
                by_cases c18 : 0 ≤ (ji17)
                · rw [if_pos c18] at H
                  have c18b0 := eq_true c18
                  have c18b1 : decide (0 ≤ (ji17)) = true := decide_eq_true c18
                  clear c18
                  by_cases c19 : (ji17) ≤ (wrap64 ((ji17) + 4))
                  · rw [if_pos c19] at H
                    have c19b0 := eq_true c19
                    have c19b1 : decide ((ji17) ≤ (wrap64 ((ji17) + 4))) = true := decide_eq_true c19
                    by_cases c20 : (wrap64 ((ji17) + 4)) ≤ (l0.length : Int)
                    · rw [if_pos c20] at H
                      have c20b0 := eq_true c20
                      have c20b1 : decide ((wrap64 ((ji17) + 4)) ≤ (l0.length : Int)) = true := decide_eq_true c20
                      by_cases c21 : (strOfNums t205).toList = (strOfNums ((l0.take ((wrap64 ((ji17) + 4)) : Int).toNat).drop ((ji17) : Int).toNat)).toList
                      · rw [if_pos c21] at H
                        have c21b0 : ((strOfNums t205).toList == (strOfNums ((l0.take ((wrap64 ((ji17) + 4)) : Int).toNat).drop ((ji17) : Int).toNat)).toList) = true := beq_iff_eq.mpr c21
                        have c21b1 : ((strOfNums t205).toList != (strOfNums ((l0.take ((wrap64 ((ji17) + 4)) : Int).toNat).drop ((ji17) : Int).toNat)).toList) = false := bne_eq_false_iff_eq.mpr c21
                        clear c21
                        simp only [Option.some.injEq, Prod.mk.injEq] at H
                        obtain ⟨rfl, rfl, rfl⟩ := H
                        obtain ⟨i022, hi022, _, hsz22, _⟩ := info_parts info5
                        obtain ⟨A22, hcut22, hA22, hC22⟩ := print_drop_of (P := Try.prog) (Value.int .u8) 0 33 5 .i64 Try.underlying33 hi022 hsz22 A0 c0 l0 a1 (of_decide_eq_true (by first | (with_reducible assumption) | assumption)) (of_decide_eq_true (by first | (with_reducible assumption) | assumption)) HC0.out
                        have HR200 := Aside0.mk (Kd.C_of_reads (h1 := fun _ => rfl) (hA22 _ (Kd.reads_of_C HR0.out)))
                        have HC200 := Aside0.mk hC22
                        clear hA22 hC22 hi022 hsz22
                        go_enter Try.func19, Try.ntmps19
                        try go_wp2_with (first | ((with_reducible refine gate_callee (f := 34) rfl ?_); refine goesL_ (some 16) rfl rfl Try.func34 (by kernel_rfl) rfl #[.slice A22 (l0.drop (a1 : Int).toNat).length (c0 - a1.toNat)] rfl (by (try simp only [List.map_toArray, List.map_cons, List.map_nil]); first | done | (rw [show (l0.drop (a1 : Int).toNat).length = (l0.length - a1.toNat) from List.length_drop] <;> rfl) | rfl | (simp only [List.length_drop, List.length_take]; rfl) | (simp; done) | (refine qa_arr ?_; (repeat' (first | rfl | refine qa_cons ?_ ?_ | refine qa_int ?_ | refine qa_agg ?_ | refine qa_arr ?_ | omega)); done)) ?_; (with_reducible refine (milestoneref01_Take.calls k _ _ (l0.drop (a1 : Int).toNat) t201 t202 t203 _ ?side1 ?side2 A5.out).mono ?_); (case side1 => repeat (first | exact HR200.out | (with_reducible refine Kd.C_alloc ?_ _) | (with_reducible refine Kd.C_drewN ?_ _) | (with_reducible refine Kd.C_drew ?_))); (case side2 => exact HC200.out); rintro e w23 ⟨rfl, hb⟩; refine ⟨_, rfl, ?_⟩; have n0_ := Aside0.mk (below_step (by repeat (first | (with_reducible first | exact HB.out | apply below_alloc | apply pw_below_drewN | apply below_drew1) | exact HB.out)) hb); clear HB; have HB := n0_; clear n0_; (try clear hb); (try clear hb2); (try clear hk); (try clear hi)))
                        have n0_ := Aside0.mk (below_drew1 HB.out)
                        clear HB
                        have HB := n0_
                        clear n0_
                        obtain ⟨i025, hi025, _, hsz25, _⟩ := info_parts info5
                        obtain ⟨A25, hcut25, hA25, hC25⟩ := print_mid_of (P := Try.prog) (Value.int .u8) 0 33 5 .i64 .i64 Try.underlying33 hi025 hsz25 A0 c0 l0 a1 (ji17) (of_decide_eq_true (by first | (with_reducible assumption) | assumption)) (by first | omega | exact of_decide_eq_true (by first | (with_reducible assumption) | assumption)) (of_decide_eq_true (by first | (with_reducible assumption) | assumption)) HC0.out
                        have HR204 := Aside0.mk (Kd.C_of_reads (h1 := fun _ => rfl) (hA25 _ (Kd.reads_of_C HR0.out)))
                        have HC204 := Aside0.mk hC25
                        clear hA25 hC25 hi025 hsz25
                        have hSL25 := Aside0.mk (show ((l0.take ((ji17) : Int).toNat).drop (a1 : Int).toNat).length = ((ji17).toNat - a1.toNat) from (by rw [List.length_drop, List.length_take]; have h_ : ((ji17) : Int) ≤ (l0.length : Int) := of_decide_eq_true (by first | (with_reducible assumption) | assumption); omega))
                        obtain ⟨i026, hi026, _, hsz26, _⟩ := info_parts info5
                        obtain ⟨A26, hcut26, hA26, hC26⟩ := print_mid_of (P := Try.prog) (Value.int .u8) 0 33 5 .i64 .i64 Try.underlying33 hi026 hsz26 A0 c0 l0 (ji17) (wrap64 ((ji17) + 4)) (of_decide_eq_true (by first | (with_reducible assumption) | assumption)) (by first | omega | exact of_decide_eq_true (by first | (with_reducible assumption) | assumption)) (of_decide_eq_true (by first | (with_reducible assumption) | assumption)) HC0.out
                        have HR208 := Aside0.mk (Kd.C_of_reads (h1 := fun _ => rfl) (hA26 _ (Kd.reads_of_C HR0.out)))
                        have HC208 := Aside0.mk hC26
                        clear hA26 hC26 hi026 hsz26
                        have hSL26 := Aside0.mk (show ((l0.take ((wrap64 ((ji17) + 4)) : Int).toNat).drop ((ji17) : Int).toNat).length = ((wrap64 ((ji17) + 4)).toNat - (ji17).toNat) from (by rw [List.length_drop, List.length_take]; have h_ : ((wrap64 ((ji17) + 4)) : Int) ≤ (l0.length : Int) := of_decide_eq_true (by first | (with_reducible assumption) | assumption); omega))
                        refine start_ (n := 13) (S := fun w' => (convert 33 9 (.slice A26 ((wrap64 ((ji17) + 4)).toNat - (ji17).toNat) (c0 - (ji17).toNat))).run Try.prog w' = .ok (.string (strOfNums ((l0.take ((wrap64 ((ji17) + 4)) : Int).toNat).drop ((ji17) : Int).toNat))) w') (ds := []) #[false, false, false, false, false, false, false, false, false, false, false, false, false] (by kernel_rfl) rfl rfl ((by have h_ := Kd.C_string (P := Try.prog) (A := A26) (c := (c0 - (ji17).toNat)) Try.underlying33 Try.underlying5 Try.underlying9 (Kd.C_below HR208.out HB.out); rw [show ((l0.take ((wrap64 ((ji17) + 4)) : Int).toNat).drop ((ji17) : Int).toNat).length = ((wrap64 ((ji17) + 4)).toNat - (ji17).toNat) from hSL26.out] at h_; exact h_)) (fun hHeld => ?_); refine with_tabW milestoneref05_One.tab10 milestoneref05_One.bits10 (fun HT_ HW_ => ?_)
                        generalize w23.drew = w24 at HB HR204 HR208 hHeld ⊢
                        refine pure_ (i := 0) (N := some 38) (v := ?_) (a' := ?_) #[true, false, false, false, false, false, false, false, false, false, false, false, false] rfl rfl (any_of HT_.out (by kernel_rfl)) (fun _ _ _ h => h) (Or.inl ⟨by rfl, ?_⟩) ?_ ?_
                        rotate_left
                        · intro w'
                          go_simp
                          with_reducible rfl
                        rotate_left
                        · simp only [Act.put, List.setIfInBounds_toArray, List.set_cons_zero, List.set_cons_succ, i64_w, i32_w]
                          rfl
                        refine pure_ (i := 1) (N := some 39) (v := ?_) (a' := ?_) #[true, true, false, false, false, false, false, false, false, false, false, false, false] rfl rfl (any_of HT_.out (by kernel_rfl)) (fun _ _ _ h => h) (Or.inl ⟨by rfl, ?_⟩) ?_ ?_
                        rotate_left
                        · intro w'
                          go_simp
                          with_reducible rfl
                        rotate_left
                        · simp only [Act.put, List.setIfInBounds_toArray, List.set_cons_zero, List.set_cons_succ, i64_w, i32_w]
                          rfl
                        refine pure_ (i := 2) (N := some 40) (v := ?_) (a' := ?_) #[true, true, true, false, false, false, false, false, false, false, false, false, false] rfl rfl (any_of HT_.out (by kernel_rfl)) (fun _ _ _ h => h) (Or.inl ⟨by rfl, ?_⟩) ?_ ?_
                        rotate_left
                        · intro w'
                          go_simp
                          with_reducible rfl
                        rotate_left
                        · simp only [Act.put, List.setIfInBounds_toArray, List.set_cons_zero, List.set_cons_succ, i64_w, i32_w]
                          rfl
                        refine pure_ (i := 3) (N := some 41) (v := ?_) (a' := ?_) #[true, true, true, true, false, false, false, false, false, false, false, false, false] rfl rfl (any_of HT_.out (by kernel_rfl)) (fun _ _ _ h => h) (Or.inl ⟨by rfl, ?_⟩) ?_ ?_
                        rotate_left
                        · intro w'
                          go_simp
                          with_reducible rfl
                        rotate_left
                        · simp only [Act.put, List.setIfInBounds_toArray, List.set_cons_zero, List.set_cons_succ, i64_w, i32_w]
                          rfl
                        refine pure_ (i := 6) (N := some 44) (v := ?_) (a' := ?_) #[true, true, true, true, false, false, true, false, false, false, false, false, false] rfl rfl (any_of HT_.out (by kernel_rfl)) (fun _ _ _ h => h) (Or.inl ⟨by rfl, ?_⟩) ?_ ?_
                        rotate_left
                        · intro w'
                          go_simp
                          with_reducible rfl
                        rotate_left
                        · simp only [Act.put, List.setIfInBounds_toArray, List.set_cons_zero, List.set_cons_succ, i64_w, i32_w]
                          rfl
                        refine pure_ (i := 7) (N := some 45) (v := ?_) (a' := ?_) #[true, true, true, true, false, false, true, true, false, false, false, false, false] rfl rfl (any_of HT_.out (by kernel_rfl)) (fun _ _ _ h => h) (Or.inl ⟨by rfl, ?_⟩) ?_ ?_
                        rotate_left
                        · intro w'
                          go_simp
                          with_reducible rfl
                        rotate_left
                        · simp only [Act.put, List.setIfInBounds_toArray, List.set_cons_zero, List.set_cons_succ, i64_w, i32_w]
                          rfl
                        refine pure_ (i := 8) (N := some 46) (v := ?_) (a' := ?_) #[true, true, true, true, false, false, true, true, true, false, false, false, false] rfl rfl (any_of HT_.out (by kernel_rfl)) (fun _ _ _ h => h) (Or.inl ⟨by rfl, ?_⟩) ?_ ?_
                        rotate_left
                        · intro w'
                          go_simp
                          with_reducible rfl
                        rotate_left
                        · simp only [Act.put, List.setIfInBounds_toArray, List.set_cons_zero, List.set_cons_succ, i64_w, i32_w]
                          rfl
                        refine pure_ (i := 9) (N := some 47) (v := ?_) (a' := ?_) #[true, true, true, true, false, false, true, true, true, true, false, false, false] rfl rfl (any_of HT_.out (by kernel_rfl)) (fun _ _ _ h => h) (Or.inl ⟨by rfl, ?_⟩) ?_ ?_
                        rotate_left
                        · intro w'
                          go_simp
                          with_reducible rfl
                        rotate_left
                        · simp only [Act.put, List.setIfInBounds_toArray, List.set_cons_zero, List.set_cons_succ, i64_w, i32_w]
                          rfl
                        refine pure_ (i := 10) (N := some 48) (v := ?_) (a' := ?_) #[true, true, true, true, false, false, true, true, true, true, true, false, false] rfl rfl (any_of HT_.out (by kernel_rfl)) (fun _ _ _ h => h) (Or.inl ⟨by rfl, ?_⟩) ?_ ?_
                        rotate_left
                        · intro w'
                          go_simp
                          with_reducible rfl
                        rotate_left
                        · simp only [Act.put, List.setIfInBounds_toArray, List.set_cons_zero, List.set_cons_succ, i64_w, i32_w]
                          rfl
                        refine take_ (i := 11) (N := some 49) (v := ?_) (a' := ?_) #[true, true, true, true, false, false, true, true, true, true, true, true, false] rfl rfl (take_ofW HT_.out HW_.out (by kernel_rfl)) (fun _ _ _ h => h) (Or.inl ⟨by rfl, ?_⟩) hHeld ?_ ?_
                        rotate_left
                        · intro w' s0
                          go_simp
                          with_reducible rfl
                        rotate_left
                        · simp only [Act.put, List.setIfInBounds_toArray, List.set_cons_zero, List.set_cons_succ, i64_w, i32_w]
                          rfl
                        refine one_ (i := 4) (N := some 42) #[true, true, true, true, true, false, true, true, true, true, true, true, false] rfl rfl (one_of HT_.out (by kernel_rfl)) (by decide) (fun K hK => ?_)
                        refine goes_ Try.func33 (by kernel_rfl) rfl #[.slice A25 ((l0.take ((ji17) : Int).toNat).drop (a1 : Int).toNat).length (c0 - a1.toNat)] (by rfl) rfl rfl (by (try simp only [List.map_toArray, List.map_cons, List.map_nil]); first | done | (rw [show ((l0.take ((ji17) : Int).toNat).drop (a1 : Int).toNat).length = ((ji17).toNat - a1.toNat) from hSL25.out] <;> rfl) | (simp only [hji17]; rfl) | rfl | (simp only [List.length_drop, List.length_take]; rfl)) ?_
                        with_reducible refine (milestoneref01_Tail.calls k _ _ ((l0.take ((ji17) : Int).toNat).drop (a1 : Int).toNat) t205 _ ?side1 ?side2 A16.out).mono ?_
                        (case side1 => repeat (first | exact (Kd.C_below HR204.out HB.out) | (with_reducible refine Kd.C_alloc ?_ _) | (with_reducible refine Kd.C_drewN ?_ _) | (with_reducible refine Kd.C_drew ?_)))
                        (case side2 => exact HC204.out)
                        rintro e w27 ⟨v206, rfl, ho0, hb⟩
                        refine ⟨_, rfl, ?_⟩
                        have n0_ := Aside0.mk (Kd.R_lower ho0 (below_size (by repeat (first | (with_reducible first | exact HB.out | apply below_alloc | apply pw_below_drewN | apply below_drew1) | exact HB.out))))
                        have n1_ := Aside0.mk (below_step (by repeat (first | (with_reducible first | exact HB.out | apply below_alloc | apply pw_below_drewN | apply below_drew1) | exact HB.out)) hb)
                        clear HB
                        have HO207 := n0_
                        have HB := n1_
                        clear n0_ n1_
                        (try clear hb)
                        (try clear hb2)
                        (try clear hk)
                        (try clear hi)
                        (try clear ho0)
                        refine hK.out _ _ ((by have h_ := Kd.C_string (P := Try.prog) (A := A26) (c := (c0 - (ji17).toNat)) Try.underlying33 Try.underlying5 Try.underlying9 (Kd.C_below HR208.out HB.out); rw [show ((l0.take ((wrap64 ((ji17) + 4)) : Int).toNat).drop ((ji17) : Int).toNat).length = ((wrap64 ((ji17) + 4)).toNat - (ji17).toNat) from hSL26.out] at h_; exact h_)) (fun hHeld => ?_)
                        clear hK K
                        refine norm_ (a' := ?_) ?_ ?_
                        rotate_left
                        · show Act.put _ (some 42) _ = _
                          simp only [Act.put, List.setIfInBounds_toArray, List.set_cons_zero, List.set_cons_succ, i64_w, i32_w]
                          rfl
                        refine one_ (i := 5) (N := some 43) #[true, true, true, true, true, true, true, true, true, true, true, true, false] rfl rfl (one_of HT_.out (by kernel_rfl)) (by decide) (fun K hK => ?_)
                        have hcv28 := own_string (P := Try.prog) Try.underlying33 Try.underlying5 Try.underlying9 (Kd.own_of_R HO207.out)
                        refine value_ (w1 := ?_) (v := ?_) (by rfl) rfl ?_ ?_
                        rotate_left 2
                        · go_simp
                          constructor
                          · rfl
                          · rfl
                        clear hcv28
                        refine hK.out _ _ ((by have h_ := Kd.C_string (P := Try.prog) (A := A26) (c := (c0 - (ji17).toNat)) Try.underlying33 Try.underlying5 Try.underlying9 (Kd.C_below HR208.out HB.out); rw [show ((l0.take ((wrap64 ((ji17) + 4)) : Int).toNat).drop ((ji17) : Int).toNat).length = ((wrap64 ((ji17) + 4)).toNat - (ji17).toNat) from hSL26.out] at h_; exact h_)) (fun hHeld => ?_)
                        clear hK K
                        refine norm_ (a' := ?_) ?_ ?_
                        rotate_left
                        · show Act.put _ (some 43) _ = _
                          simp only [Act.put, List.setIfInBounds_toArray, List.set_cons_zero, List.set_cons_succ, i64_w, i32_w]
                          rfl
                        refine pure_ (i := 12) (N := some 50) (v := ?_) (a' := ?_) #[true, true, true, true, true, true, true, true, true, true, true, true, true] rfl rfl (any_of HT_.out (by kernel_rfl)) (fun _ _ _ h => h) (Or.inl ⟨by rfl, ?_⟩) ?_ ?_
                        rotate_left
                        · intro w'
                          go_simp
                          with_reducible rfl
                        rotate_left
                        · simp only [Act.put, List.setIfInBounds_toArray, List.set_cons_zero, List.set_cons_succ, i64_w, i32_w]
                          rfl
                        refine done_ (done_of HT_.out (by kernel_rfl)) ?_
                        try go_wp2
                        go_ret3
                        exact ⟨by first | rfl | (simp [errW_none, errW_some] <;> rfl) | (simp only [← hji17]; first | rfl | (simp [errW_none, errW_some] <;> rfl)) | (simp [*, errW_none, errW_some] <;> rfl), by repeat (first | (with_reducible first | exact HB.out | apply below_alloc | apply pw_below_drewN | apply below_drew1) | exact HB.out)⟩
                      · rw [if_neg c21] at H
                        have c21b0 : ((strOfNums t205).toList == (strOfNums ((l0.take ((wrap64 ((ji17) + 4)) : Int).toNat).drop ((ji17) : Int).toNat)).toList) = false := beq_eq_false_iff_ne.mpr c21
                        have c21b1 : ((strOfNums t205).toList != (strOfNums ((l0.take ((wrap64 ((ji17) + 4)) : Int).toNat).drop ((ji17) : Int).toNat)).toList) = true := bne_iff_ne.mpr c21
                        simp only [Option.some.injEq, Prod.mk.injEq] at H
                        obtain ⟨rfl, rfl, rfl⟩ := H
                        obtain ⟨i029, hi029, _, hsz29, _⟩ := info_parts info5
                        obtain ⟨A29, hcut29, hA29, hC29⟩ := print_drop_of (P := Try.prog) (Value.int .u8) 0 33 5 .i64 Try.underlying33 hi029 hsz29 A0 c0 l0 a1 (of_decide_eq_true (by first | (with_reducible assumption) | assumption)) (of_decide_eq_true (by first | (with_reducible assumption) | assumption)) HC0.out
                        have HR200 := Aside0.mk (Kd.C_of_reads (h1 := fun _ => rfl) (hA29 _ (Kd.reads_of_C HR0.out)))
                        have HC200 := Aside0.mk hC29
                        clear hA29 hC29 hi029 hsz29
                        go_enter Try.func19, Try.ntmps19
                        try go_wp2_with (first | ((with_reducible refine gate_callee (f := 34) rfl ?_); refine goesL_ (some 16) rfl rfl Try.func34 (by kernel_rfl) rfl #[.slice A29 (l0.drop (a1 : Int).toNat).length (c0 - a1.toNat)] rfl (by (try simp only [List.map_toArray, List.map_cons, List.map_nil]); first | done | (rw [show (l0.drop (a1 : Int).toNat).length = (l0.length - a1.toNat) from List.length_drop] <;> rfl) | rfl | (simp only [List.length_drop, List.length_take]; rfl) | (simp; done) | (refine qa_arr ?_; (repeat' (first | rfl | refine qa_cons ?_ ?_ | refine qa_int ?_ | refine qa_agg ?_ | refine qa_arr ?_ | omega)); done)) ?_; (with_reducible refine (milestoneref01_Take.calls k _ _ (l0.drop (a1 : Int).toNat) t201 t202 t203 _ ?side1 ?side2 A5.out).mono ?_); (case side1 => repeat (first | exact HR200.out | (with_reducible refine Kd.C_alloc ?_ _) | (with_reducible refine Kd.C_drewN ?_ _) | (with_reducible refine Kd.C_drew ?_))); (case side2 => exact HC200.out); rintro e w30 ⟨rfl, hb⟩; refine ⟨_, rfl, ?_⟩; have n0_ := Aside0.mk (below_step (by repeat (first | (with_reducible first | exact HB.out | apply below_alloc | apply pw_below_drewN | apply below_drew1) | exact HB.out)) hb); clear HB; have HB := n0_; clear n0_; (try clear hb); (try clear hb2); (try clear hk); (try clear hi)))
                        have n0_ := Aside0.mk (below_drew1 HB.out)
                        clear HB
                        have HB := n0_
                        clear n0_
                        obtain ⟨i032, hi032, _, hsz32, _⟩ := info_parts info5
                        obtain ⟨A32, hcut32, hA32, hC32⟩ := print_mid_of (P := Try.prog) (Value.int .u8) 0 33 5 .i64 .i64 Try.underlying33 hi032 hsz32 A0 c0 l0 a1 (ji17) (of_decide_eq_true (by first | (with_reducible assumption) | assumption)) (by first | omega | exact of_decide_eq_true (by first | (with_reducible assumption) | assumption)) (of_decide_eq_true (by first | (with_reducible assumption) | assumption)) HC0.out
                        have HR204 := Aside0.mk (Kd.C_of_reads (h1 := fun _ => rfl) (hA32 _ (Kd.reads_of_C HR0.out)))
                        have HC204 := Aside0.mk hC32
                        clear hA32 hC32 hi032 hsz32
                        have hSL32 := Aside0.mk (show ((l0.take ((ji17) : Int).toNat).drop (a1 : Int).toNat).length = ((ji17).toNat - a1.toNat) from (by rw [List.length_drop, List.length_take]; have h_ : ((ji17) : Int) ≤ (l0.length : Int) := of_decide_eq_true (by first | (with_reducible assumption) | assumption); omega))
                        obtain ⟨i033, hi033, _, hsz33, _⟩ := info_parts info5
                        obtain ⟨A33, hcut33, hA33, hC33⟩ := print_mid_of (P := Try.prog) (Value.int .u8) 0 33 5 .i64 .i64 Try.underlying33 hi033 hsz33 A0 c0 l0 (ji17) (wrap64 ((ji17) + 4)) (of_decide_eq_true (by first | (with_reducible assumption) | assumption)) (by first | omega | exact of_decide_eq_true (by first | (with_reducible assumption) | assumption)) (of_decide_eq_true (by first | (with_reducible assumption) | assumption)) HC0.out
                        have HR208 := Aside0.mk (Kd.C_of_reads (h1 := fun _ => rfl) (hA33 _ (Kd.reads_of_C HR0.out)))
                        have HC208 := Aside0.mk hC33
                        clear hA33 hC33 hi033 hsz33
                        have hSL33 := Aside0.mk (show ((l0.take ((wrap64 ((ji17) + 4)) : Int).toNat).drop ((ji17) : Int).toNat).length = ((wrap64 ((ji17) + 4)).toNat - (ji17).toNat) from (by rw [List.length_drop, List.length_take]; have h_ : ((wrap64 ((ji17) + 4)) : Int) ≤ (l0.length : Int) := of_decide_eq_true (by first | (with_reducible assumption) | assumption); omega))
                        refine start_ (n := 13) (S := fun w' => (convert 33 9 (.slice A33 ((wrap64 ((ji17) + 4)).toNat - (ji17).toNat) (c0 - (ji17).toNat))).run Try.prog w' = .ok (.string (strOfNums ((l0.take ((wrap64 ((ji17) + 4)) : Int).toNat).drop ((ji17) : Int).toNat))) w') (ds := []) #[false, false, false, false, false, false, false, false, false, false, false, false, false] (by kernel_rfl) rfl rfl ((by have h_ := Kd.C_string (P := Try.prog) (A := A33) (c := (c0 - (ji17).toNat)) Try.underlying33 Try.underlying5 Try.underlying9 (Kd.C_below HR208.out HB.out); rw [show ((l0.take ((wrap64 ((ji17) + 4)) : Int).toNat).drop ((ji17) : Int).toNat).length = ((wrap64 ((ji17) + 4)).toNat - (ji17).toNat) from hSL33.out] at h_; exact h_)) (fun hHeld => ?_); refine with_tabW milestoneref05_One.tab10 milestoneref05_One.bits10 (fun HT_ HW_ => ?_)
                        generalize w30.drew = w31 at HB HR204 HR208 hHeld ⊢
                        refine pure_ (i := 0) (N := some 38) (v := ?_) (a' := ?_) #[true, false, false, false, false, false, false, false, false, false, false, false, false] rfl rfl (any_of HT_.out (by kernel_rfl)) (fun _ _ _ h => h) (Or.inl ⟨by rfl, ?_⟩) ?_ ?_
                        rotate_left
                        · intro w'
                          go_simp
                          with_reducible rfl
                        rotate_left
                        · simp only [Act.put, List.setIfInBounds_toArray, List.set_cons_zero, List.set_cons_succ, i64_w, i32_w]
                          rfl
                        refine pure_ (i := 1) (N := some 39) (v := ?_) (a' := ?_) #[true, true, false, false, false, false, false, false, false, false, false, false, false] rfl rfl (any_of HT_.out (by kernel_rfl)) (fun _ _ _ h => h) (Or.inl ⟨by rfl, ?_⟩) ?_ ?_
                        rotate_left
                        · intro w'
                          go_simp
                          with_reducible rfl
                        rotate_left
                        · simp only [Act.put, List.setIfInBounds_toArray, List.set_cons_zero, List.set_cons_succ, i64_w, i32_w]
                          rfl
                        refine pure_ (i := 2) (N := some 40) (v := ?_) (a' := ?_) #[true, true, true, false, false, false, false, false, false, false, false, false, false] rfl rfl (any_of HT_.out (by kernel_rfl)) (fun _ _ _ h => h) (Or.inl ⟨by rfl, ?_⟩) ?_ ?_
                        rotate_left
                        · intro w'
                          go_simp
                          with_reducible rfl
                        rotate_left
                        · simp only [Act.put, List.setIfInBounds_toArray, List.set_cons_zero, List.set_cons_succ, i64_w, i32_w]
                          rfl
                        refine pure_ (i := 3) (N := some 41) (v := ?_) (a' := ?_) #[true, true, true, true, false, false, false, false, false, false, false, false, false] rfl rfl (any_of HT_.out (by kernel_rfl)) (fun _ _ _ h => h) (Or.inl ⟨by rfl, ?_⟩) ?_ ?_
                        rotate_left
                        · intro w'
                          go_simp
                          with_reducible rfl
                        rotate_left
                        · simp only [Act.put, List.setIfInBounds_toArray, List.set_cons_zero, List.set_cons_succ, i64_w, i32_w]
                          rfl
                        refine pure_ (i := 6) (N := some 44) (v := ?_) (a' := ?_) #[true, true, true, true, false, false, true, false, false, false, false, false, false] rfl rfl (any_of HT_.out (by kernel_rfl)) (fun _ _ _ h => h) (Or.inl ⟨by rfl, ?_⟩) ?_ ?_
                        rotate_left
                        · intro w'
                          go_simp
                          with_reducible rfl
                        rotate_left
                        · simp only [Act.put, List.setIfInBounds_toArray, List.set_cons_zero, List.set_cons_succ, i64_w, i32_w]
                          rfl
                        refine pure_ (i := 7) (N := some 45) (v := ?_) (a' := ?_) #[true, true, true, true, false, false, true, true, false, false, false, false, false] rfl rfl (any_of HT_.out (by kernel_rfl)) (fun _ _ _ h => h) (Or.inl ⟨by rfl, ?_⟩) ?_ ?_
                        rotate_left
                        · intro w'
                          go_simp
                          with_reducible rfl
                        rotate_left
                        · simp only [Act.put, List.setIfInBounds_toArray, List.set_cons_zero, List.set_cons_succ, i64_w, i32_w]
                          rfl
                        refine pure_ (i := 8) (N := some 46) (v := ?_) (a' := ?_) #[true, true, true, true, false, false, true, true, true, false, false, false, false] rfl rfl (any_of HT_.out (by kernel_rfl)) (fun _ _ _ h => h) (Or.inl ⟨by rfl, ?_⟩) ?_ ?_
                        rotate_left
                        · intro w'
                          go_simp
                          with_reducible rfl
                        rotate_left
                        · simp only [Act.put, List.setIfInBounds_toArray, List.set_cons_zero, List.set_cons_succ, i64_w, i32_w]
                          rfl
                        refine pure_ (i := 9) (N := some 47) (v := ?_) (a' := ?_) #[true, true, true, true, false, false, true, true, true, true, false, false, false] rfl rfl (any_of HT_.out (by kernel_rfl)) (fun _ _ _ h => h) (Or.inl ⟨by rfl, ?_⟩) ?_ ?_
                        rotate_left
                        · intro w'
                          go_simp
                          with_reducible rfl
                        rotate_left
                        · simp only [Act.put, List.setIfInBounds_toArray, List.set_cons_zero, List.set_cons_succ, i64_w, i32_w]
                          rfl
                        refine pure_ (i := 10) (N := some 48) (v := ?_) (a' := ?_) #[true, true, true, true, false, false, true, true, true, true, true, false, false] rfl rfl (any_of HT_.out (by kernel_rfl)) (fun _ _ _ h => h) (Or.inl ⟨by rfl, ?_⟩) ?_ ?_
                        rotate_left
                        · intro w'
                          go_simp
                          with_reducible rfl
                        rotate_left
                        · simp only [Act.put, List.setIfInBounds_toArray, List.set_cons_zero, List.set_cons_succ, i64_w, i32_w]
                          rfl
                        refine take_ (i := 11) (N := some 49) (v := ?_) (a' := ?_) #[true, true, true, true, false, false, true, true, true, true, true, true, false] rfl rfl (take_ofW HT_.out HW_.out (by kernel_rfl)) (fun _ _ _ h => h) (Or.inl ⟨by rfl, ?_⟩) hHeld ?_ ?_
                        rotate_left
                        · intro w' s0
                          go_simp
                          with_reducible rfl
                        rotate_left
                        · simp only [Act.put, List.setIfInBounds_toArray, List.set_cons_zero, List.set_cons_succ, i64_w, i32_w]
                          rfl
                        refine one_ (i := 4) (N := some 42) #[true, true, true, true, true, false, true, true, true, true, true, true, false] rfl rfl (one_of HT_.out (by kernel_rfl)) (by decide) (fun K hK => ?_)
                        refine goes_ Try.func33 (by kernel_rfl) rfl #[.slice A32 ((l0.take ((ji17) : Int).toNat).drop (a1 : Int).toNat).length (c0 - a1.toNat)] (by rfl) rfl rfl (by (try simp only [List.map_toArray, List.map_cons, List.map_nil]); first | done | (rw [show ((l0.take ((ji17) : Int).toNat).drop (a1 : Int).toNat).length = ((ji17).toNat - a1.toNat) from hSL32.out] <;> rfl) | (simp only [hji17]; rfl) | rfl | (simp only [List.length_drop, List.length_take]; rfl)) ?_
                        with_reducible refine (milestoneref01_Tail.calls k _ _ ((l0.take ((ji17) : Int).toNat).drop (a1 : Int).toNat) t205 _ ?side1 ?side2 A16.out).mono ?_
                        (case side1 => repeat (first | exact (Kd.C_below HR204.out HB.out) | (with_reducible refine Kd.C_alloc ?_ _) | (with_reducible refine Kd.C_drewN ?_ _) | (with_reducible refine Kd.C_drew ?_)))
                        (case side2 => exact HC204.out)
                        rintro e w34 ⟨v206, rfl, ho0, hb⟩
                        refine ⟨_, rfl, ?_⟩
                        have n0_ := Aside0.mk (Kd.R_lower ho0 (below_size (by repeat (first | (with_reducible first | exact HB.out | apply below_alloc | apply pw_below_drewN | apply below_drew1) | exact HB.out))))
                        have n1_ := Aside0.mk (below_step (by repeat (first | (with_reducible first | exact HB.out | apply below_alloc | apply pw_below_drewN | apply below_drew1) | exact HB.out)) hb)
                        clear HB
                        have HO207 := n0_
                        have HB := n1_
                        clear n0_ n1_
                        (try clear hb)
                        (try clear hb2)
                        (try clear hk)
                        (try clear hi)
                        (try clear ho0)
                        refine hK.out _ _ ((by have h_ := Kd.C_string (P := Try.prog) (A := A33) (c := (c0 - (ji17).toNat)) Try.underlying33 Try.underlying5 Try.underlying9 (Kd.C_below HR208.out HB.out); rw [show ((l0.take ((wrap64 ((ji17) + 4)) : Int).toNat).drop ((ji17) : Int).toNat).length = ((wrap64 ((ji17) + 4)).toNat - (ji17).toNat) from hSL33.out] at h_; exact h_)) (fun hHeld => ?_)
                        clear hK K
                        refine norm_ (a' := ?_) ?_ ?_
                        rotate_left
                        · show Act.put _ (some 42) _ = _
                          simp only [Act.put, List.setIfInBounds_toArray, List.set_cons_zero, List.set_cons_succ, i64_w, i32_w]
                          rfl
                        refine one_ (i := 5) (N := some 43) #[true, true, true, true, true, true, true, true, true, true, true, true, false] rfl rfl (one_of HT_.out (by kernel_rfl)) (by decide) (fun K hK => ?_)
                        have hcv35 := own_string (P := Try.prog) Try.underlying33 Try.underlying5 Try.underlying9 (Kd.own_of_R HO207.out)
                        refine value_ (w1 := ?_) (v := ?_) (by rfl) rfl ?_ ?_
                        rotate_left 2
                        · go_simp
                          constructor
                          · rfl
                          · rfl
                        clear hcv35
                        refine hK.out _ _ ((by have h_ := Kd.C_string (P := Try.prog) (A := A33) (c := (c0 - (ji17).toNat)) Try.underlying33 Try.underlying5 Try.underlying9 (Kd.C_below HR208.out HB.out); rw [show ((l0.take ((wrap64 ((ji17) + 4)) : Int).toNat).drop ((ji17) : Int).toNat).length = ((wrap64 ((ji17) + 4)).toNat - (ji17).toNat) from hSL33.out] at h_; exact h_)) (fun hHeld => ?_)
                        clear hK K
                        refine norm_ (a' := ?_) ?_ ?_
                        rotate_left
                        · show Act.put _ (some 43) _ = _
                          simp only [Act.put, List.setIfInBounds_toArray, List.set_cons_zero, List.set_cons_succ, i64_w, i32_w]
                          rfl
                        refine pure_ (i := 12) (N := some 50) (v := ?_) (a' := ?_) #[true, true, true, true, true, true, true, true, true, true, true, true, true] rfl rfl (any_of HT_.out (by kernel_rfl)) (fun _ _ _ h => h) (Or.inl ⟨by rfl, ?_⟩) ?_ ?_
                        rotate_left
                        · intro w'
                          go_simp
                          with_reducible rfl
                        rotate_left
                        · simp only [Act.put, List.setIfInBounds_toArray, List.set_cons_zero, List.set_cons_succ, i64_w, i32_w]
                          rfl
                        refine done_ (done_of HT_.out (by kernel_rfl)) ?_
                        try go_wp2
                        go_ret3
                        exact ⟨by first | rfl | (simp [errW_none, errW_some] <;> rfl) | (simp only [← hji17]; first | rfl | (simp [errW_none, errW_some] <;> rfl)) | (simp [*, errW_none, errW_some] <;> rfl), by repeat (first | (with_reducible first | exact HB.out | apply below_alloc | apply pw_below_drewN | apply below_drew1) | exact HB.out)⟩
                    · rw [if_neg c20] at H
                      exact absurd H (by simp)
                  · rw [if_neg c19] at H
                    exact absurd H (by simp)
                · rw [if_neg c18] at H
                  exact absurd H (by simp)
              · rw [if_neg c15] at H
                exact absurd H (by simp)
            · rw [if_neg c14] at H
              exact absurd H (by simp)
      · rw [if_neg c6] at H
        have c6b0 : (t203 == 0) = false := beq_eq_false_iff_ne.mpr c6
        have c6b1 : (t203 != 0) = true := bne_iff_ne.mpr c6
        simp only [Option.some.injEq, Prod.mk.injEq] at H
        obtain ⟨rfl, rfl, rfl⟩ := H
        obtain ⟨i036, hi036, _, hsz36, _⟩ := info_parts info5
        obtain ⟨A36, hcut36, hA36, hC36⟩ := print_drop_of (P := Try.prog) (Value.int .u8) 0 33 5 .i64 Try.underlying33 hi036 hsz36 A0 c0 l0 a1 (of_decide_eq_true (by first | (with_reducible assumption) | assumption)) (of_decide_eq_true (by first | (with_reducible assumption) | assumption)) HC0.out
        have HR200 := Aside0.mk (Kd.C_of_reads (h1 := fun _ => rfl) (hA36 _ (Kd.reads_of_C HR0.out)))
        have HC200 := Aside0.mk hC36
        clear hA36 hC36 hi036 hsz36
        go_enter Try.func19, Try.ntmps19
        go_wp2_with (first | ((with_reducible refine gate_callee (f := 34) rfl ?_); refine goesL_ (some 16) rfl rfl Try.func34 (by kernel_rfl) rfl #[.slice A36 (l0.drop (a1 : Int).toNat).length (c0 - a1.toNat)] rfl (by (try simp only [List.map_toArray, List.map_cons, List.map_nil]); first | done | (rw [show (l0.drop (a1 : Int).toNat).length = (l0.length - a1.toNat) from List.length_drop] <;> rfl) | rfl | (simp only [List.length_drop, List.length_take]; rfl) | (simp; done) | (refine qa_arr ?_; (repeat' (first | rfl | refine qa_cons ?_ ?_ | refine qa_int ?_ | refine qa_agg ?_ | refine qa_arr ?_ | omega)); done)) ?_; (with_reducible refine (milestoneref01_Take.calls k _ _ (l0.drop (a1 : Int).toNat) t201 t202 t203 _ ?side1 ?side2 A5.out).mono ?_); (case side1 => repeat (first | exact HR200.out | (with_reducible refine Kd.C_alloc ?_ _) | (with_reducible refine Kd.C_drewN ?_ _) | (with_reducible refine Kd.C_drew ?_))); (case side2 => exact HC200.out); rintro e w37 ⟨rfl, hb⟩; refine ⟨_, rfl, ?_⟩; have n0_ := Aside0.mk (below_step (by repeat (first | (with_reducible first | exact HB.out | apply below_alloc | apply pw_below_drewN | apply below_drew1) | exact HB.out)) hb); clear HB; have HB := n0_; clear n0_; (try clear hb); (try clear hb2); (try clear hk); (try clear hi)))
        go_ret3
        exact ⟨by first | rfl | (simp [errW_none, errW_some] <;> rfl) | (simp [*, errW_none, errW_some] <;> rfl), by repeat (first | (with_reducible first | exact HB.out | apply below_alloc | apply pw_below_drewN | apply below_drew1) | exact HB.out)⟩
    · rw [if_neg c4] at H
      exact absurd H (by simp)
  · rw [if_neg c3] at H
    exact absurd H (by simp)

end Go.Proofs.Ytllcighpfikpkaa.QFrameScans
