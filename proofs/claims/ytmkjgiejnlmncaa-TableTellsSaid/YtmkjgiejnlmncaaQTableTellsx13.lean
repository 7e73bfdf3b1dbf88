-- Lines by a program of this session, for this claim.
import Derived.Test.YtmkjgiejnlmncaaQTableTellsx0
import Derived.Test.YtmkjgiejnlmncaaQTableTellsx3
import Derived.Test.YtmkjgiejnlmncaaQTableTellsx4
import Derived.Test.YtmkjgiejnlmncaaQTableTellsx9
import Derived.Test.YtmkjgiejnlmncaaQTableTellsx10
import Derived.Test.YtmkjgiejnlmncaaQTableTellsx12
namespace Go.Proofs.Ytmkjgiejnlmncaa.QTableTells
open Go.RowKit Go.Proofs.YtmkjgiejnlmncaaW.PrintWords Go.Proofs.YtmkjgiejnlmncaaW.PrintLast Go.Proofs.YtmkjgiejnlmncaaW.PrintMore
attribute [local go_sem] max2_int min2_int max_two min_two max_three min_three max_four min_four   -- for this text's walks alone
set_option linter.unusedVariables false
set_option linter.unusedSimpArgs false

attribute [local go_sem high] eqA43
theorem IsS70.self_ {w0 W : World} {g : Nat} {T : (List S43 × Int × Int)} (_h : IsS70 w0 W g T) : Below W.heap.size W W := Below.refl _ _
theorem IsS70.ge_of {W W' : World} {gb : Nat} (h : Below W.heap.size W W') (hg : gb = W'.heap.size) : W.heap.size ≤ gb := by rw [hg]; exact h.size
/-! ### milestonelaw08_TableTells: function 3 -/
mutual
def milestonelaw08_TableTells.j0 : Nat → List (S68) → Bool → Option (Bool)
 | 0, _, _ => none
 | k + 1, x0, x19 => if x19 = true then ((milestonelaw08_awake.f).bind fun t274 => (some t274)) else ((milestoneref07_History.f k x0).bind fun t275 => ((milestonelaw08_of.f t275).bind fun t278 => ((table_Table_Last.f t278).bind fun bt280 => (if (wrap64 (bt280.1)) = (t275.length : Int) then (if (t275.length : Int) > 0 then (if 0 ≤ (wrap64 ((t275.length : Int) - 1)) then (if (wrap64 ((t275.length : Int) - 1)) < (t275.length : Int) then (milestonelaw08_TableTells.j1 k t275 (bt280.2.1 != ((rd_T38 t275 (wrap64 ((t275.length : Int) - 1))).f1)) bt280.2.2) else (none)) else (none)) else (milestonelaw08_TableTells.j1 k t275 false bt280.2.2)) else (milestonelaw08_TableTells.j1 k t275 true bt280.2.2)))))
def milestonelaw08_TableTells.j1 : Nat → List (S38) → Bool → (List S43 × Int × Int) → Option (Bool)
 | 0, _, _, _ => none
 | k + 1, x3, x52, x280000 => if x52 = true then (some false) else (milestonelaw08_TableTells.l0 k x3 0 x280000)
def milestonelaw08_TableTells.l0 : Nat → List (S38) → Int → (List S43 × Int × Int) → Option (Bool)
 | 0, _, _, _ => none
 | k + 1, x3, x7, x280000 => if x7 < 18 then ((milestoneref07_Prefix.f k ((x7) % 256)).bind fun bt284 => ((table_Table_Row.f x280000 bt284.1 bt284.2).bind fun bt287 => ((milestoneref07_Row.f k x3 bt284.1 bt284.2).bind fun bt300 => (if (bt287.2.2.2.2.2.2.2.2.2.2.1 != bt300.2.2.2.2.2.2.2.2.2.2) = true then (some false) else (if bt287.2.2.2.2.2.2.2.2.2.2.1 = true then (if ((!(bt287.1 == bt300.1) || (!(bt287.2.1 == bt300.2.1))) || (!(bt287.2.2.1 == bt300.2.2.1) || (((!(bt287.2.2.2.1 == bt300.2.2.2.1) || (!(bt287.2.2.2.2.1 == bt300.2.2.2.2.1))) || (!(bt287.2.2.2.2.2.1 == bt300.2.2.2.2.2.1) || (!(bt287.2.2.2.2.2.2.1 == bt300.2.2.2.2.2.2.1) || (!(bt287.2.2.2.2.2.2.2.1 == bt300.2.2.2.2.2.2.2.1))))) || ((!(bt287.2.2.2.2.2.2.2.2.1 == bt300.2.2.2.2.2.2.2.2.1) || (!(bt287.2.2.2.2.2.2.2.2.2.1 == bt300.2.2.2.2.2.2.2.2.2.1))))))) = true then (some false) else (milestonelaw08_TableTells.l0 k x3 (wrap64 (x7 + 1)) bt287.2.2.2.2.2.2.2.2.2.2.2)) else (milestonelaw08_TableTells.l0 k x3 (wrap64 (x7 + 1)) bt287.2.2.2.2.2.2.2.2.2.2.2)))))) else ((table_Table_Rows.f x280000).bind fun bt312 => ((milestoneref07_Rows.f k x3).bind fun t316 => ((milestoneref07_SameRows.f k bt312.1 t316).bind fun t319 => (if t319 = true then ((table_Table_Routes.f bt312.2).bind fun bt320 => ((milestoneref07_Routes.f k x3).bind fun t324 => ((milestoneref07_SameRoutes.f k bt320.1 t324).bind fun t327 => (some t327)))) else (some false)))))
end
def milestonelaw08_TableTells.f (k : Nat) (l0 : List (S68)) : Option (Bool) := (milestonelaw08_awake.f).bind fun t273 => (if t273 = true then (milestonelaw08_TableTells.j0 k l0 (decide ((l0.length : Int) > 60))) else (milestonelaw08_TableTells.j0 k l0 true))
theorem milestonelaw08_TableTells.mono_l : ∀ k, (∀ y0 y1, LeO (milestonelaw08_TableTells.j0 k y0 y1) (milestonelaw08_TableTells.j0 (k + 1) y0 y1)) ∧ (∀ y0 y1 y2, LeO (milestonelaw08_TableTells.j1 k y0 y1 y2) (milestonelaw08_TableTells.j1 (k + 1) y0 y1 y2)) ∧ (∀ y0 y1 y2, LeO (milestonelaw08_TableTells.l0 k y0 y1 y2) (milestonelaw08_TableTells.l0 (k + 1) y0 y1 y2))
 | 0 => ⟨fun _ _ r h => by simp [milestonelaw08_TableTells.j0] at h, fun _ _ _ r h => by simp [milestonelaw08_TableTells.j1] at h, fun _ _ _ r h => by simp [milestonelaw08_TableTells.l0] at h⟩
 | k + 1 => by
  obtain ⟨ih0, ih1, ih2⟩ := milestonelaw08_TableTells.mono_l k
  refine ⟨?_, ?_, ?_⟩
  · intro y0 y1
    unfold milestonelaw08_TableTells.j0
    repeat' first
    | (with_reducible exact ih0 _ _)
    | (with_reducible exact ih1 _ _ _)
    | (with_reducible exact ih2 _ _ _)
    | (with_reducible exact milestoneref07_History.mono _ _)
    | (with_reducible exact milestoneref07_Prefix.mono _ _)
    | (with_reducible exact milestoneref07_Routes.mono _ _)
    | (with_reducible exact milestoneref07_Row.mono _ _ _ _)
    | (with_reducible exact milestoneref07_Rows.mono _ _)
    | (with_reducible exact milestoneref07_SameRoutes.mono _ _ _)
    | (with_reducible exact milestoneref07_SameRows.mono _ _ _)
    | (with_reducible exact LeO.refl _)
    | (with_reducible exact LeO.none _)
    | (with_reducible refine LeO.ite ?_ ?_)
    | (with_reducible refine LeO.bind ?_ (fun _ => ?_))
    | exact ih0 _ _
    | exact ih1 _ _ _
    | exact ih2 _ _ _
    | exact milestoneref07_History.mono _ _
    | exact milestoneref07_Prefix.mono _ _
    | exact milestoneref07_Routes.mono _ _
    | exact milestoneref07_Row.mono _ _ _ _
    | exact milestoneref07_Rows.mono _ _
    | exact milestoneref07_SameRoutes.mono _ _ _
    | exact milestoneref07_SameRows.mono _ _ _
    | exact LeO.none _
    | refine LeO.ite ?_ ?_
    | refine LeO.bind ?_ (fun _ => ?_)
  · intro y0 y1 y2
    unfold milestonelaw08_TableTells.j1
    repeat' first
    | (with_reducible exact ih0 _ _)
    | (with_reducible exact ih1 _ _ _)
    | (with_reducible exact ih2 _ _ _)
    | (with_reducible exact milestoneref07_History.mono _ _)
    | (with_reducible exact milestoneref07_Prefix.mono _ _)
    | (with_reducible exact milestoneref07_Routes.mono _ _)
    | (with_reducible exact milestoneref07_Row.mono _ _ _ _)
    | (with_reducible exact milestoneref07_Rows.mono _ _)
    | (with_reducible exact milestoneref07_SameRoutes.mono _ _ _)
    | (with_reducible exact milestoneref07_SameRows.mono _ _ _)
    | (with_reducible exact LeO.refl _)
    | (with_reducible exact LeO.none _)
    | (with_reducible refine LeO.ite ?_ ?_)
    | (with_reducible refine LeO.bind ?_ (fun _ => ?_))
    | exact ih0 _ _
    | exact ih1 _ _ _
    | exact ih2 _ _ _
    | exact milestoneref07_History.mono _ _
    | exact milestoneref07_Prefix.mono _ _
    | exact milestoneref07_Routes.mono _ _
    | exact milestoneref07_Row.mono _ _ _ _
    | exact milestoneref07_Rows.mono _ _
    | exact milestoneref07_SameRoutes.mono _ _ _
    | exact milestoneref07_SameRows.mono _ _ _
    | exact LeO.none _
    | refine LeO.ite ?_ ?_
    | refine LeO.bind ?_ (fun _ => ?_)
  · intro y0 y1 y2
    unfold milestonelaw08_TableTells.l0
    repeat' first
    | (with_reducible exact ih0 _ _)
    | (with_reducible exact ih1 _ _ _)
    | (with_reducible exact ih2 _ _ _)
    | (with_reducible exact milestoneref07_History.mono _ _)
    | (with_reducible exact milestoneref07_Prefix.mono _ _)
    | (with_reducible exact milestoneref07_Routes.mono _ _)
    | (with_reducible exact milestoneref07_Row.mono _ _ _ _)
    | (with_reducible exact milestoneref07_Rows.mono _ _)
    | (with_reducible exact milestoneref07_SameRoutes.mono _ _ _)
    | (with_reducible exact milestoneref07_SameRows.mono _ _ _)
    | (with_reducible exact LeO.refl _)
    | (with_reducible exact LeO.none _)
    | (with_reducible refine LeO.ite ?_ ?_)
    | (with_reducible refine LeO.bind ?_ (fun _ => ?_))
    | exact ih0 _ _
    | exact ih1 _ _ _
    | exact ih2 _ _ _
    | exact milestoneref07_History.mono _ _
    | exact milestoneref07_Prefix.mono _ _
    | exact milestoneref07_Routes.mono _ _
    | exact milestoneref07_Row.mono _ _ _ _
    | exact milestoneref07_Rows.mono _ _
    | exact milestoneref07_SameRoutes.mono _ _ _
    | exact milestoneref07_SameRows.mono _ _ _
    | exact LeO.none _
    | refine LeO.ite ?_ ?_
    | refine LeO.bind ?_ (fun _ => ?_)
theorem milestonelaw08_TableTells.mono : ∀ a0 k, LeO (milestonelaw08_TableTells.f k a0) (milestonelaw08_TableTells.f (k + 1) a0) := by
 intro a0 k
 obtain ⟨ih0, ih1, ih2⟩ := milestonelaw08_TableTells.mono_l k
 unfold milestonelaw08_TableTells.f
 repeat' first
  | (with_reducible exact ih0 _ _)
  | (with_reducible exact ih1 _ _ _)
  | (with_reducible exact ih2 _ _ _)
  | (with_reducible exact milestoneref07_History.mono _ _)
  | (with_reducible exact milestoneref07_Prefix.mono _ _)
  | (with_reducible exact milestoneref07_Routes.mono _ _)
  | (with_reducible exact milestoneref07_Row.mono _ _ _ _)
  | (with_reducible exact milestoneref07_Rows.mono _ _)
  | (with_reducible exact milestoneref07_SameRoutes.mono _ _ _)
  | (with_reducible exact milestoneref07_SameRows.mono _ _ _)
  | (with_reducible exact LeO.refl _)
  | (with_reducible exact LeO.none _)
  | (with_reducible refine LeO.ite ?_ ?_)
  | (with_reducible refine LeO.bind ?_ (fun _ => ?_))
  | exact ih0 _ _
  | exact ih1 _ _ _
  | exact ih2 _ _ _
  | exact milestoneref07_History.mono _ _
  | exact milestoneref07_Prefix.mono _ _
  | exact milestoneref07_Routes.mono _ _
  | exact milestoneref07_Row.mono _ _ _ _
  | exact milestoneref07_Rows.mono _ _
  | exact milestoneref07_SameRoutes.mono _ _ _
  | exact milestoneref07_SameRows.mono _ _ _
  | exact LeO.none _
  | refine LeO.ite ?_ ?_
  | refine LeO.bind ?_ (fun _ => ?_)
set_option maxHeartbeats 8000000 in
set_option maxRecDepth 100000 in
theorem milestonelaw08_TableTells.calls (k : Nat) (A0 : Option Addr) (c0 : Nat) (l0 : List (S68)) (r : Bool) (w : World) (hr0 : Kd.C k68 w A0 l0.length l0) (hc0 : l0.length ≤ c0) (h : milestonelaw08_TableTells.f k l0 = some r) (hT : r = true) :
 Calls Try.prog 3 #[.slice A0 l0.length c0] w fun e w' => e = .returned (.bool r) ∧ Below w.heap.size w w' := by
 have HT := Aside0.mk hT
 clear hT
 have hu33 := Try.underlying33
 have hu43 := Try.underlying43
 have HR0 := Aside0.mk hr0
 have HC0 := Aside0.mk hc0
 clear hr0 hc0
 have HB := Aside0.mk (Below.refl w.heap.size w)
 have H : ((milestonelaw08_awake.f).bind fun t273 => (if t273 = true then (milestonelaw08_TableTells.j0 k l0 (decide ((l0.length : Int) > 60))) else (milestonelaw08_TableTells.j0 k l0 true))) = some r := h
 clear h
 have HC2 := Aside0.mk H
 clear H
 go_enter Try.func3, Try.ntmps3
 go_upto_region 1 with (fail)
 go_cut [19] (fun v19 wc => ∃ (kq : Nat) (x19_1 : Bool), v19 = .bool x19_1 ∧ Aside0 (milestonelaw08_TableTells.j0 kq l0 x19_1 = some r) ∧ Aside0 (kq ≤ k) ∧ Aside0 (Below w.heap.size w wc))
 case first =>
  have H := HC2.out
  clear HC2
  replace H := Option.bind_eq_some_iff.mp H
  obtain ⟨t273, A30, H⟩ := H
  replace H : (if t273 = true then (milestonelaw08_TableTells.j0 k l0 (decide ((l0.length : Int) > 60))) else (milestonelaw08_TableTells.j0 k l0 true)) = some r := H
  have A3 := Aside0.mk A30
  clear A30
  by_cases c4 : t273 = true
  · subst c4
    have H1 : (milestonelaw08_TableTells.j0 k l0 (decide ((l0.length : Int) > 60))) = some r := by rw [if_pos rfl] at H; exact H
    clear H
    have H := H1
    clear H1
    have H' := Aside0.mk H
    clear H
    go_wp2_with (first | ((with_reducible refine gate_callee (f := 6) rfl ?_); refine goesL_ (some 13) rfl rfl Try.func6 (by kernel_rfl) rfl #[] rfl (by (try simp only [List.map_toArray, List.map_cons, List.map_nil]); first | done | (refine qa_arr ?_; (repeat' (first | rfl | refine qa_cons ?_ ?_ | refine qa_int ?_ | refine qa_agg ?_ | refine qa_arr ?_ | omega)); done)) ?_; (with_reducible refine (milestonelaw08_awake.calls  true _ A3.out).mono ?_); rintro e w5 ⟨rfl, hb⟩; refine ⟨_, rfl, ?_⟩; have n0_ := Aside0.mk (below_step (by repeat (first | (with_reducible first | exact HB.out | apply below_drew1))) hb); clear HB; have HB := n0_; clear n0_; (try clear hb); (try clear hb2); (try clear hk); (try clear hi)))
    go_meet
    case rel => exact ⟨_, (decide ((l0.length : Int) > 60)), (by first | rfl | (refine qa_int ?_; simp <;> omega)), H', ⟨by first | omega⟩, ⟨by repeat (first | (with_reducible first | exact HB.out | apply below_drew1))⟩⟩
  · replace c4 := Bool.eq_false_iff.mpr c4
    subst c4
    have H1 : (milestonelaw08_TableTells.j0 k l0 true) = some r := by rw [if_neg (show ¬ (false = true) by decide)] at H; exact H
    clear H
    have H := H1
    clear H1
    have H' := Aside0.mk H
    clear H
    go_wp2_with (first | ((with_reducible refine gate_callee (f := 6) rfl ?_); refine goesL_ (some 13) rfl rfl Try.func6 (by kernel_rfl) rfl #[] rfl (by (try simp only [List.map_toArray, List.map_cons, List.map_nil]); first | done | (refine qa_arr ?_; (repeat' (first | rfl | refine qa_cons ?_ ?_ | refine qa_int ?_ | refine qa_agg ?_ | refine qa_arr ?_ | omega)); done)) ?_; (with_reducible refine (milestonelaw08_awake.calls  false _ A3.out).mono ?_); rintro e w6 ⟨rfl, hb⟩; refine ⟨_, rfl, ?_⟩; have n0_ := Aside0.mk (below_step (by repeat (first | (with_reducible first | exact HB.out | apply below_drew1))) hb); clear HB; have HB := n0_; clear n0_; (try clear hb); (try clear hb2); (try clear hk); (try clear hi)))
    go_meet
    case rel => exact ⟨_, (true), (by first | rfl | (refine qa_int ?_; simp <;> omega)), H', ⟨by first | omega⟩, ⟨by repeat (first | (with_reducible first | exact HB.out | apply below_drew1))⟩⟩
 case rest =>
  clear HC2
  try clear p2
  try clear c3
  try clear c4
  try clear c6
  obtain ⟨kq, x19_1, rfl, HA, HJ1, HB⟩ := hcut
  cases kq with
  | zero => exact absurd HA.out (by simp [milestonelaw08_TableTells.j0])
  | succ kj1 =>
   have H := HA.out
   clear HA
   simp only [milestonelaw08_TableTells.j0] at H
   by_cases c7 : x19_1 = true
   · subst c7
     have H1 : ((milestonelaw08_awake.f).bind fun t274 => (some t274)) = some r := by rw [if_pos rfl] at H; exact H
     clear H
     have H := H1
     clear H1
     replace H := Option.bind_eq_some_iff.mp H
     obtain ⟨t274, A80, H⟩ := H
     replace H : (some t274) = some r := H
     have A8 := Aside0.mk A80
     clear A80
     obtain rfl := Option.some.inj H
     simp only [Option.some.injEq, Prod.mk.injEq] at H
     obtain ⟨rfl⟩ := H
     go_wp2_with (first | ((with_reducible refine gate_callee (f := 6) rfl ?_); refine goesL_ (some 20) rfl rfl Try.func6 (by kernel_rfl) rfl #[] rfl (by (try simp only [List.map_toArray, List.map_cons, List.map_nil]); first | done | (refine qa_arr ?_; (repeat' (first | rfl | refine qa_cons ?_ ?_ | refine qa_int ?_ | refine qa_agg ?_ | refine qa_arr ?_ | omega)); done)) ?_; (with_reducible refine (milestonelaw08_awake.calls  t274 _ A8.out).mono ?_); rintro e w9 ⟨rfl, hb⟩; refine ⟨_, rfl, ?_⟩; have n0_ := Aside0.mk (below_step (by repeat (first | (with_reducible first | exact HB.out | apply below_drew1))) hb); clear HB; have HB := n0_; clear n0_; (try clear hb); (try clear hb2); (try clear hk); (try clear hi)))
     go_ret
     exact ⟨by first | rfl | (simp [*, errW_none, errW_some] <;> rfl), by repeat (first | (with_reducible first | exact HB.out | apply below_drew1))⟩
   · replace c7 := Bool.eq_false_iff.mpr c7
     subst c7
     have H1 : ((milestoneref07_History.f kj1 l0).bind fun t275 => ((milestonelaw08_of.f t275).bind fun t278 => ((table_Table_Last.f t278).bind fun bt280 => (if (wrap64 (bt280.1)) = (t275.length : Int) then (if (t275.length : Int) > 0 then (if 0 ≤ (wrap64 ((t275.length : Int) - 1)) then (if (wrap64 ((t275.length : Int) - 1)) < (t275.length : Int) then (milestonelaw08_TableTells.j1 kj1 t275 (bt280.2.1 != ((rd_T38 t275 (wrap64 ((t275.length : Int) - 1))).f1)) bt280.2.2) else (none)) else (none)) else (milestonelaw08_TableTells.j1 kj1 t275 false bt280.2.2)) else (milestonelaw08_TableTells.j1 kj1 t275 true bt280.2.2))))) = some r := by rw [if_neg (show ¬ (false = true) by decide)] at H; exact H
     clear H
     have H := H1
     clear H1
     replace H := Option.bind_eq_some_iff.mp H
     obtain ⟨t275, A100, H⟩ := H
     replace H : ((milestonelaw08_of.f t275).bind fun t278 => ((table_Table_Last.f t278).bind fun bt280 => (if (wrap64 (bt280.1)) = (t275.length : Int) then (if (t275.length : Int) > 0 then (if 0 ≤ (wrap64 ((t275.length : Int) - 1)) then (if (wrap64 ((t275.length : Int) - 1)) < (t275.length : Int) then (milestonelaw08_TableTells.j1 kj1 t275 (bt280.2.1 != ((rd_T38 t275 (wrap64 ((t275.length : Int) - 1))).f1)) bt280.2.2) else (none)) else (none)) else (milestonelaw08_TableTells.j1 kj1 t275 false bt280.2.2)) else (milestonelaw08_TableTells.j1 kj1 t275 true bt280.2.2)))) = some r := H
     have A10 := Aside0.mk A100
     clear A100
     replace H := Option.bind_eq_some_iff.mp H
     obtain ⟨t278, A110, H⟩ := H
     replace H : ((table_Table_Last.f t278).bind fun bt280 => (if (wrap64 (bt280.1)) = (t275.length : Int) then (if (t275.length : Int) > 0 then (if 0 ≤ (wrap64 ((t275.length : Int) - 1)) then (if (wrap64 ((t275.length : Int) - 1)) < (t275.length : Int) then (milestonelaw08_TableTells.j1 kj1 t275 (bt280.2.1 != ((rd_T38 t275 (wrap64 ((t275.length : Int) - 1))).f1)) bt280.2.2) else (none)) else (none)) else (milestonelaw08_TableTells.j1 kj1 t275 false bt280.2.2)) else (milestonelaw08_TableTells.j1 kj1 t275 true bt280.2.2))) = some r := H
     have A11 := Aside0.mk A110
     clear A110
     replace H := Option.bind_eq_some_iff.mp H
     obtain ⟨⟨t280, t281, t282⟩, A120, H⟩ := H
     replace H : (if (wrap64 (t280)) = (t275.length : Int) then (if (t275.length : Int) > 0 then (if 0 ≤ (wrap64 ((t275.length : Int) - 1)) then (if (wrap64 ((t275.length : Int) - 1)) < (t275.length : Int) then (milestonelaw08_TableTells.j1 kj1 t275 (t281 != ((rd_T38 t275 (wrap64 ((t275.length : Int) - 1))).f1)) t282) else (none)) else (none)) else (milestonelaw08_TableTells.j1 kj1 t275 false t282)) else (milestonelaw08_TableTells.j1 kj1 t275 true t282)) = some r := H
     have A12 := Aside0.mk A120
     clear A120
     have HC13 := Aside0.mk H
     clear H
     go_upto_region 8 with (first | ((with_reducible refine gate_callee (f := 7) rfl ?_); refine goesL_ (some 22) rfl rfl Try.func7 (by kernel_rfl) rfl #[.slice A0 l0.length c0] rfl (by (try simp only [List.map_toArray, List.map_cons, List.map_nil]); first | rfl | (refine qa_arr ?_; (repeat' (first | rfl | refine qa_cons ?_ ?_ | refine qa_int ?_ | refine qa_agg ?_ | refine qa_arr ?_ | omega)); done)) ?_; (with_reducible refine (milestoneref07_History.calls kj1 _ _ l0 t275 _ ?side1 ?side2 A10.out).mono ?_); (case side1 => repeat (first | exact (Kd.C_below HR0.out HB.out) | (with_reducible refine Kd.C_drew ?_))); (case side2 => exact HC0.out); rintro e w14 ⟨v276, rfl, ho0, hb⟩; refine ⟨_, rfl, ?_⟩; have n0_ := Aside0.mk (Kd.R_lower ho0 (below_size (by repeat (first | (with_reducible first | exact HB.out | apply below_drew1))))); have n1_ := Aside0.mk (below_step (by repeat (first | (with_reducible first | exact HB.out | apply below_drew1))) hb); clear HB; have HO277 := n0_; have HB := n1_; clear n0_ n1_; (try clear hb); (try clear hb2); (try clear hk); (try clear hi); (try clear ho0); obtain ⟨Ao15, co15, eo15⟩ := Kd.R_slice HO277.out; subst eo15) | ((with_reducible refine gate_callee (f := 8) rfl ?_); refine goesL_ (some 24) rfl rfl Try.func8 (by kernel_rfl) rfl #[.slice Ao15 t275.length co15] rfl (by (try simp only [List.map_toArray, List.map_cons, List.map_nil]); first | rfl | (refine qa_arr ?_; (repeat' (first | rfl | refine qa_cons ?_ ?_ | refine qa_int ?_ | refine qa_agg ?_ | refine qa_arr ?_ | omega)); done)) ?_; (with_reducible refine (milestonelaw08_of.calls _ _ t275 t278 w _ ?side1 ?side2 ?side3 A11.out).mono ?_); (case side1 => repeat (first | (with_reducible first | exact HB.out | apply below_drew1))); (case side2 => repeat (first | exact (Kd.R_reads' HO277.out).2.2 | (with_reducible refine Kd.C_drew ?_))); (case side3 => exact (Kd.R_reads' HO277.out).2.1); rintro e w16 ⟨g279, rfl, hi, hb, hb2⟩; refine ⟨_, rfl, ?_⟩; have n0_ := Aside0.mk (Kd.R_below (by exact HO277.out) hb2); have n1_ := Aside0.mk (hb); have n2_ := Aside0.mk (hi); clear HO277; clear HB; have HO277 := n0_; have HB := n1_; have HI279 := n2_; clear n0_ n1_ n2_; (try clear hb); (try clear hb2); (try clear hk); (try clear hi)) | ((with_reducible refine gate_callee (f := 9) rfl ?_); refine goesL_ (some 29) rfl rfl Try.func9 (by kernel_rfl) rfl #[.pointer (some ⟨g279, 0, none⟩)] rfl (by (try simp only [List.map_toArray, List.map_cons, List.map_nil]); first | rfl | (refine qa_arr ?_; (repeat' (first | rfl | refine qa_cons ?_ ?_ | refine qa_int ?_ | refine qa_agg ?_ | refine qa_arr ?_ | omega)); done)) ?_; (with_reducible refine (table_Table_Last.calls g279 t278 t280 t281 t282 w _ ?side1 ?side2 A12.out).mono ?_); (case side1 => repeat (first | (with_reducible first | exact HI279.out | apply IsS70.set_0))); (case side2 => repeat (first | (with_reducible first | exact HB.out | refine below_set ?_ (IsS70.ge HI279.out)))); rintro e w17 ⟨rfl, hi, hb, hk⟩; refine ⟨_, rfl, ?_⟩; have n0_ := Aside0.mk (Kd.R_below (by exact HO277.out) hk); have n1_ := Aside0.mk (hb); have n2_ := Aside0.mk (hi); clear HO277; clear HB; clear HI279; have HO277 := n0_; have HB := n1_; have HI279 := n2_; clear n0_ n1_ n2_; (try clear hb); (try clear hb2); (try clear hk); (try clear hi)))
     (try simp only [Act.put, List.setIfInBounds_toArray, List.set_cons_zero, List.set_cons_succ])
     go_cut [52] (fun v52 wc => ∃ (kq : Nat) (x52_12 : Bool), v52 = .bool x52_12 ∧ Aside0 (milestonelaw08_TableTells.j1 kq t275 x52_12 t282 = some r) ∧ Aside0 (kq ≤ kj1) ∧ Aside0 (Kd.R k38 38 wc w.heap.size (fun _ => True) (.slice Ao15 t275.length co15) t275) ∧ Aside0 (IsS70 w wc g279 t282) ∧ Aside0 (Below w.heap.size w wc))
     case first =>
      have H := HC13.out
      clear HC13
      by_cases c18 : (wrap64 (t280)) = (t275.length : Int)
      · rw [if_pos c18] at H
        have c18b0 : ((wrap64 (t280)) == (t275.length : Int)) = true := beq_iff_eq.mpr c18
        have c18b1 : ((wrap64 (t280)) != (t275.length : Int)) = false := bne_eq_false_iff_eq.mpr c18
        clear c18
        (first | skip)
        by_cases c19 : (t275.length : Int) > 0
        · rw [if_pos c19] at H
          have c19b0 : decide (0 < (t275.length : Int)) = true := decide_eq_true c19
          have c19b1 : decide (0 < t275.length) = true := decide_eq_true (by omega)
          clear c19
          obtain ⟨ji20, hji20⟩ : ∃ j_ : Int, (wrap64 ((t275.length : Int) - 1)) = j_ := ⟨_, rfl⟩
          replace H : (if 0 ≤ (ji20) then (if (ji20) < (t275.length : Int) then (milestonelaw08_TableTells.j1 kj1 t275 (t281 != ((rd_T38 t275 (ji20)).f1)) t282) else (none)) else (none)) = some r := by first | (rw [hji20] at H; exact H)
          have hji20w : (IntKind.i64.wrap ((t275.length : Int) - 1)) = ji20 := (i64_w _).trans hji20
          by_cases c21 : 0 ≤ (ji20)
          · rw [if_pos c21] at H
            have c21b0 : decide (0 ≤ (ji20)) = true := decide_eq_true c21
            clear c21
            by_cases c22 : (ji20) < (t275.length : Int)
            · rw [if_pos c22] at H
              have c22b0 : decide ((ji20) < (t275.length : Int)) = true := decide_eq_true c22
              clear c22
              have H' := Aside0.mk H
              clear H
              have p283 : 0 ≤ ((ji20) : Int) := of_decide_eq_true (by first | (with_reducible assumption))
              have q283 : (ji20) < (t275.length : Int) := of_decide_eq_true (by first | (with_reducible assumption))
              obtain ⟨ad283, e283, hx283_0, hx283_1, hx283_2, hx283_3, hx283_4, hx283_5, hx283_6, hx283_7⟩ := at_T38 (Kd.R_reads' HO277.out).2.2 (ji20) p283 q283
              cases e283
              replace p283 := eq_true p283
              replace q283 := eq_true q283
              go_wp2
              (try simp only [← hji20] at H' ⊢)
              go_meet
              case rel => exact ⟨_, ((t281 != ((rd_T38 t275 (ji20)).f1))), (by first | (simp only [← hji20] <;> (first | rfl | simp)) | (refine qa_int ?_; simp <;> omega)), ⟨by have h_ := H'.out; rw [hji20] at h_; exact h_⟩, ⟨by have := HJ1.out; first | omega⟩, ⟨by exact HO277.out⟩, ⟨by repeat (first | (with_reducible first | exact HI279.out | apply IsS70.set_0))⟩, ⟨by repeat (first | (with_reducible first | exact HB.out | refine below_set ?_ (IsS70.ge HI279.out)))⟩⟩
            · rw [if_neg c22] at H
              exact absurd H (by simp)
          · rw [if_neg c21] at H
            exact absurd H (by simp)
        · rw [if_neg c19] at H
          have c19b0 : decide (0 < (t275.length : Int)) = false := decide_eq_false c19
          have c19b1 : decide (0 < t275.length) = false := decide_eq_false (by omega)
          clear c19
          have H' := Aside0.mk H
          clear H
          go_wp2
          go_meet
          case rel => exact ⟨_, (false), (by first | rfl | (refine qa_int ?_; simp <;> omega)), H', ⟨by have := HJ1.out; first | omega⟩, ⟨by exact HO277.out⟩, ⟨by repeat (first | (with_reducible first | exact HI279.out | apply IsS70.set_0))⟩, ⟨by repeat (first | (with_reducible first | exact HB.out | refine below_set ?_ (IsS70.ge HI279.out)))⟩⟩
      · rw [if_neg c18] at H
        have c18b0 : ((wrap64 (t280)) == (t275.length : Int)) = false := beq_eq_false_iff_ne.mpr c18
        have c18b1 : ((wrap64 (t280)) != (t275.length : Int)) = true := bne_iff_ne.mpr c18
        (first | skip)
        have H' := Aside0.mk H
        clear H
        go_wp2
        go_meet
        case rel => exact ⟨_, (true), (by first | rfl | (refine qa_int ?_; simp <;> omega)), H', ⟨by have := HJ1.out; first | omega⟩, ⟨by exact HO277.out⟩, ⟨by repeat (first | (with_reducible first | exact HI279.out | apply IsS70.set_0))⟩, ⟨by repeat (first | (with_reducible first | exact HB.out | refine below_set ?_ (IsS70.ge HI279.out)))⟩⟩
     case rest =>
      clear HC13
      try clear c1
      try clear c2
      try clear p2
      try clear q2
      try clear hx2
      try clear c3
      try clear c4
      try clear c6
      try clear p6
      try clear c7
      try clear c8
      try clear c9
      try clear c18
      try clear c18b0
      try clear c18b1
      try clear c19
      try clear c19b0
      try clear c19b1
      try clear c21
      try clear c21b0
      try clear c22
      try clear c22b0
      try clear hx283_0
      try clear hx283_1
      try clear hx283_2
      try clear hx283_3
      try clear hx283_4
      try clear hx283_5
      try clear hx283_6
      try clear hx283_7
      try clear p2
      try clear p283
      try clear q283
      obtain ⟨kq, x52_12, rfl, HA, HJ12, HO_3, HI279, HB⟩ := hcut
      cases kq with
      | zero => exact absurd HA.out (by simp [milestonelaw08_TableTells.j1])
      | succ kj12 =>
       have H := HA.out
       clear HA
       simp only [milestonelaw08_TableTells.j1] at H
       by_cases c23 : x52_12 = true
       · subst c23
         have H1 : (some false) = some r := by rw [if_pos rfl] at H; exact H
         clear H
         have H := H1
         clear H1
         obtain rfl := Option.some.inj H
         exact absurd HT.out (by decide)
       · replace c23 := Bool.eq_false_iff.mpr c23
         subst c23
         have H1 : (milestonelaw08_TableTells.l0 kj12 t275 0 t282) = some r := by rw [if_neg (show ¬ (false = true) by decide)] at H; exact H
         clear H
         have H := H1
         clear H1
         have H' := Aside0.mk H
         clear H
         go_wp2
         go_loopg [7] kj12 (fun kq v7 w' => ∃ (x7_3 : Int) (x280000_3 : (List S43 × Int × Int)), v7 = .int .i64 x7_3 ∧ Aside0 (milestonelaw08_TableTells.l0 kq t275 x7_3 x280000_3 = some r) ∧ Aside0 (kq ≤ kj12) ∧ Aside0 (Kd.R k38 38 w' w.heap.size (fun _ => True) (.slice Ao15 t275.length co15) t275) ∧ Aside0 (IsS70 w w' g279 x280000_3) ∧ Aside0 (Below w.heap.size w w'))
         case atStart => exact ⟨(0), (t282), (by first | rfl | (refine qa_int ?_; simp <;> omega)), H', ⟨Nat.le_refl _⟩, ⟨by exact HO_3.out⟩, ⟨by repeat (first | (with_reducible first | exact HI279.out | apply IsS70.set_0))⟩, ⟨by repeat (first | (with_reducible first | exact HB.out | refine below_set ?_ (IsS70.ge HI279.out)))⟩⟩
         case round =>
          clear H'
          try clear c1
          try clear c2
          try clear p2
          try clear q2
          try clear hx2
          try clear c3
          try clear c4
          try clear c6
          try clear p6
          try clear c7
          try clear c8
          try clear c9
          try clear c18
          try clear c18b0
          try clear c18b1
          try clear c19
          try clear c19b0
          try clear c19b1
          try clear c21
          try clear c21b0
          try clear c22
          try clear c22b0
          try clear c23
          try clear hx283_0
          try clear hx283_1
          try clear hx283_2
          try clear hx283_3
          try clear hx283_4
          try clear hx283_5
          try clear hx283_6
          try clear hx283_7
          try clear p2
          try clear p283
          try clear p6
          try clear q2
          try clear q283
          obtain ⟨x7_3, x280000_3, rfl, HA, HK3, HO_3, HI279, HB⟩ := hrel
          cases gk with
          | zero => exact absurd HA.out (by simp [milestonelaw08_TableTells.l0])
          | succ k3 =>
           have H := HA.out
           clear HA
           simp only [milestonelaw08_TableTells.l0] at H
           by_cases c24 : x7_3 < 18
           · rw [if_pos c24] at H
             have c24b0 : decide (x7_3 < 18) = true := decide_eq_true c24
             clear c24
             replace H := Option.bind_eq_some_iff.mp H
             obtain ⟨⟨t284, t285⟩, A250, H⟩ := H
             replace H : ((table_Table_Row.f x280000_3 t284 t285).bind fun bt287 => ((milestoneref07_Row.f k3 t275 t284 t285).bind fun bt300 => (if (bt287.2.2.2.2.2.2.2.2.2.2.1 != bt300.2.2.2.2.2.2.2.2.2.2) = true then (some false) else (if bt287.2.2.2.2.2.2.2.2.2.2.1 = true then (if ((!(bt287.1 == bt300.1) || (!(bt287.2.1 == bt300.2.1))) || (!(bt287.2.2.1 == bt300.2.2.1) || (((!(bt287.2.2.2.1 == bt300.2.2.2.1) || (!(bt287.2.2.2.2.1 == bt300.2.2.2.2.1))) || (!(bt287.2.2.2.2.2.1 == bt300.2.2.2.2.2.1) || (!(bt287.2.2.2.2.2.2.1 == bt300.2.2.2.2.2.2.1) || (!(bt287.2.2.2.2.2.2.2.1 == bt300.2.2.2.2.2.2.2.1))))) || ((!(bt287.2.2.2.2.2.2.2.2.1 == bt300.2.2.2.2.2.2.2.2.1) || (!(bt287.2.2.2.2.2.2.2.2.2.1 == bt300.2.2.2.2.2.2.2.2.2.1))))))) = true then (some false) else (milestonelaw08_TableTells.l0 k3 t275 (wrap64 (x7_3 + 1)) bt287.2.2.2.2.2.2.2.2.2.2.2)) else (milestonelaw08_TableTells.l0 k3 t275 (wrap64 (x7_3 + 1)) bt287.2.2.2.2.2.2.2.2.2.2.2))))) = some r := H
             have A25 := Aside0.mk A250
             clear A250
             replace H := Option.bind_eq_some_iff.mp H
             obtain ⟨⟨t287, t288, t289, t290, t291, t292, t293, t294, t295, t296, t297, t298⟩, A260, H⟩ := H
             replace H : ((milestoneref07_Row.f k3 t275 t284 t285).bind fun bt300 => (if (t297 != bt300.2.2.2.2.2.2.2.2.2.2) = true then (some false) else (if t297 = true then (if ((!(t287 == bt300.1) || (!(t288 == bt300.2.1))) || (!(t289 == bt300.2.2.1) || (((!(t290 == bt300.2.2.2.1) || (!(t291 == bt300.2.2.2.2.1))) || (!(t292 == bt300.2.2.2.2.2.1) || (!(t293 == bt300.2.2.2.2.2.2.1) || (!(t294 == bt300.2.2.2.2.2.2.2.1))))) || ((!(t295 == bt300.2.2.2.2.2.2.2.2.1) || (!(t296 == bt300.2.2.2.2.2.2.2.2.2.1))))))) = true then (some false) else (milestonelaw08_TableTells.l0 k3 t275 (wrap64 (x7_3 + 1)) t298)) else (milestonelaw08_TableTells.l0 k3 t275 (wrap64 (x7_3 + 1)) t298)))) = some r := H
             have A26 := Aside0.mk A260
             clear A260
             replace H := Option.bind_eq_some_iff.mp H
             obtain ⟨⟨t300, t301, t302, t303, t304, t305, t306, t307, t308, t309, t310⟩, A270, H⟩ := H
             replace H : (if (t297 != t310) = true then (some false) else (if t297 = true then (if ((!(t287 == t300) || (!(t288 == t301))) || (!(t289 == t302) || (((!(t290 == t303) || (!(t291 == t304))) || (!(t292 == t305) || (!(t293 == t306) || (!(t294 == t307))))) || ((!(t295 == t308) || (!(t296 == t309))))))) = true then (some false) else (milestonelaw08_TableTells.l0 k3 t275 (wrap64 (x7_3 + 1)) t298)) else (milestonelaw08_TableTells.l0 k3 t275 (wrap64 (x7_3 + 1)) t298))) = some r := H
             have A27 := Aside0.mk A270
             clear A270
             by_cases c28 : (t297 != t310) = true
             · rw [if_pos c28] at H
               have c28b0 : (t297 != t310) = true := c28
               (try (have c28b1 : decide (t297 = t310) = false := by simpa using c28))
               (try (have c28b2 : (t297 == t310) = false := by simpa using c28))
               (try (have c28b3 : ¬ (t297 = t310) := by simpa using c28))
               clear c28
               obtain rfl := Option.some.inj H
               exact absurd HT.out (by decide)
             · rw [if_neg c28] at H
               have c28b0 : (t297 != t310) = false := by simpa using c28
               (try (have c28b1 : decide (t297 = t310) = true := by simpa using c28))
               (try (have c28b2 : (t297 == t310) = true := by simpa using c28))
               clear c28
               by_cases c29 : t297 = true
               · subst c29
                 have H1 : (if ((!(t287 == t300) || (!(t288 == t301))) || (!(t289 == t302) || (((!(t290 == t303) || (!(t291 == t304))) || (!(t292 == t305) || (!(t293 == t306) || (!(t294 == t307))))) || ((!(t295 == t308) || (!(t296 == t309))))))) = true then (some false) else (milestonelaw08_TableTells.l0 k3 t275 (wrap64 (x7_3 + 1)) t298)) = some r := by rw [if_pos rfl] at H; exact H
                 clear H
                 have H := H1
                 clear H1
                 by_cases c30 : ((!(t287 == t300) || (!(t288 == t301))) || (!(t289 == t302) || (((!(t290 == t303) || (!(t291 == t304))) || (!(t292 == t305) || (!(t293 == t306) || (!(t294 == t307))))) || ((!(t295 == t308) || (!(t296 == t309))))))) = true
                 · rw [if_pos c30] at H
                   have c30b0 : ((!(t287 == t300) || (!(t288 == t301))) || (!(t289 == t302) || (((!(t290 == t303) || (!(t291 == t304))) || (!(t292 == t305) || (!(t293 == t306) || (!(t294 == t307))))) || ((!(t295 == t308) || (!(t296 == t309))))))) = true := c30
                   clear c30
                   obtain rfl := Option.some.inj H
                   exact absurd HT.out (by decide)
                 · rw [if_neg c30] at H
                   have c30b0 : ((!(t287 == t300) || (!(t288 == t301))) || (!(t289 == t302) || (((!(t290 == t303) || (!(t291 == t304))) || (!(t292 == t305) || (!(t293 == t306) || (!(t294 == t307))))) || ((!(t295 == t308) || (!(t296 == t309))))))) = false := by simpa using c30
                   clear c30
                   have H' := Aside0.mk H
                   clear H
                   go_wp2_with (first | ((with_reducible refine gate_callee (f := 10) rfl ?_); refine goesL_ (some 59) rfl rfl Try.func10 (by kernel_rfl) rfl #[.int .u8 ((x7_3) % 256)] rfl (by (try simp only [List.map_toArray, List.map_cons, List.map_nil]); first | rfl | (refine qa_arr ?_; (repeat' (first | rfl | refine qa_cons ?_ ?_ | refine qa_int ?_ | refine qa_agg ?_ | refine qa_arr ?_ | omega)); done)) ?_; (with_reducible refine (milestoneref07_Prefix.calls k3 ((x7_3) % 256) t284 t285 _ A25.out).mono ?_); rintro e w31 ⟨rfl, hb⟩; refine ⟨_, rfl, ?_⟩; have n0_ := Aside0.mk (Kd.R_below (by exact HO_3.out) hb); have n1_ := Aside0.mk (IsS70.below (by repeat (first | (with_reducible first | exact HI279.out | apply IsS70.set_0))) hb); have n2_ := Aside0.mk (below_step (by repeat (first | (with_reducible first | exact HB.out | refine below_set ?_ (IsS70.ge HI279.out)))) hb); clear HO_3; clear HI279; clear HB; have HO_3 := n0_; have HI279 := n1_; have HB := n2_; clear n0_ n1_ n2_; (try clear hb); (try clear hb2); (try clear hk); (try clear hi)) | ((with_reducible refine gate_dst (N := 8) rfl ?_); (try (refine gate_guard (by rfl) ?_; dsimp only)); refine box_event ?hg (N := 8) ?hd (cs := #[.int .u32 0, .int .u8 0]) (t := 33) ?hr ?_; (case hd => rfl); (case hg => rfl); (case hr => first | (go_simp; done)); intro gb286 hg w32 hbox hb; have n0_ := Aside0.mk (Kd.R_below (by exact HO_3.out) hb); have n1_ := Aside0.mk (IsS70.below (by repeat (first | (with_reducible first | exact HI279.out | apply IsS70.set_0))) hb); have n2_ := Aside0.mk (below_step (by repeat (first | (with_reducible first | exact HB.out | refine below_set ?_ (IsS70.ge HI279.out)))) hb); have n3_ := Aside0.mk (hbox); have n4_ := Aside0.mk ((by rw [hg]; exact (below_size (by repeat (first | (with_reducible first | exact HB.out | refine below_set ?_ (IsS70.ge HI279.out))))) : w.heap.size ≤ gb286)); have n5_ := Aside0.mk ((by rw [hg]; exact (below_size (by repeat (first | (with_reducible first | exact HB.out | refine below_set ?_ (IsS70.ge HI279.out))))) : w.heap.size ≤ gb286)); have n6_ := Aside0.mk ((by rw [hg]; exact Nat.ne_of_lt (IsS70.lt (show IsS70 w _ g279 x280000_3 from by repeat (first | (with_reducible first | exact HI279.out | apply IsS70.set_0)))) : g279 ≠ gb286)); have n7_ := Aside0.mk ((by rw [hg]; exact Nat.ne_of_gt (IsS70.lt (show IsS70 w _ g279 x280000_3 from by repeat (first | (with_reducible first | exact HI279.out | apply IsS70.set_0)))) : gb286 ≠ g279)); clear HO_3; clear HI279; clear HB; have HO_3 := n0_; have HI279 := n1_; have HB := n2_; have BK286 := n3_; have GW286 := n4_; have GE286 := n5_; have NB279_286 := n6_; have NB286_279 := n7_; clear n0_ n1_ n2_ n3_ n4_ n5_ n6_ n7_; clear hb hbox hg; have hnb33 := NB286_279.out; have hnc33 := NB279_286.out; have hcz34_0 : w32.cell? ⟨gb286, 0, none⟩ = some (.int .u32 0) := (blk_cell BK286.out 0).trans rfl; have hcz34_1 : w32.cell? ⟨gb286, 1, none⟩ = some (.int .u8 0) := (blk_cell BK286.out 1).trans rfl; have hfz34_0 := blk_frozen BK286.out 0; have hfz34_1 := blk_frozen BK286.out 1) | ((with_reducible refine gate_callee (f := 11) rfl ?_); refine goesL_ (some 63) rfl rfl Try.func11 (by kernel_rfl) rfl #[.pointer (some ⟨g279, 0, none⟩), .agg #[.int .u32 t284, .int .u8 t285]] rfl (by (try simp only [List.map_toArray, List.map_cons, List.map_nil]); first | rfl | (refine qa_arr ?_; (repeat' (first | rfl | refine qa_cons ?_ ?_ | refine qa_int ?_ | refine qa_agg ?_ | refine qa_arr ?_ | omega)); done)) ?_; (with_reducible refine (table_Table_Row.calls g279 x280000_3 t284 t285 t287 t288 t289 t290 t291 t292 t293 t294 t295 t296 true t298 w _ ?side1 ?side2 A26.out).mono ?_); (case side1 => repeat (first | (with_reducible first | exact HI279.out | (refine IsS70.far ?_ ?_ _; rotate_left; focus ((repeat (first | exact Oth.of_blk BK286.out (by decide) (by decide) | apply Oth.set | apply Oth.drew)); done))))); (case side2 => repeat (first | (with_reducible first | exact HB.out | refine below_set ?_ GE286.out))); rintro e w35 ⟨rfl, hi, hb, hk⟩; refine ⟨_, rfl, ?_⟩; have n0_ := Aside0.mk (Kd.R_below (by exact (Kd.R_mono (Kd.R_far (p := ⟨gb286, 1, none⟩) (Kd.R_far (p := ⟨gb286, 0, none⟩) (Kd.R_types HO_3.out BK286.out (by decide)) (fun _ hk => hk.2) (.int .u32 t284)) (fun _ hk => hk.2) (.int .u8 t285)) (fun _ h_ => h_.1))) hk); have n1_ := Aside0.mk (blk_below (g := gb286) (o := .cells #[.int .u32 t284, .int .u8 t285] 33 (0, 0)) (by refine blk_put (cs := #[.int .u32 t284, .int .u8 0]) ?_ 1 _ rfl; refine blk_put (cs := #[.int .u32 0, .int .u8 0]) ?_ 0 _ rfl; exact BK286.out) hk); have n2_ := Aside0.mk (hb); have n3_ := Aside0.mk (hi); clear HO_3; clear BK286; clear HB; clear HI279; have HO_3 := n0_; have BK286 := n1_; have HB := n2_; have HI279 := n3_; clear n0_ n1_ n2_ n3_; (try clear hb); (try clear hb2); (try clear hk); (try clear hi); have HIr := HI279; have HBr := Aside0.mk (IsS70.self_ HIr.out)) | ((with_reducible refine gate_dst (N := 9) rfl ?_); (try (refine gate_guard (by rfl) ?_; dsimp only)); refine box_event ?hg (N := 9) ?hd (cs := #[.int .u32 0, .int .u8 0, .bool false, .int .u32 0, .int .u8 0, .int .i64 0, .int .u16 0, .int .u16 0, .int .u16 0, .int .u16 0]) (t := 43) ?hr ?_; (case hd => rfl); (case hg => rfl); (case hr => first | (go_simp; done)); intro gb299 hg w36 hbox hb; have ger_ := Aside0.mk (IsS70.ge_of (by repeat (first | (with_reducible first | exact HBr.out | apply below_drew1))) hg); have n0_ := Aside0.mk (Kd.R_below (by exact HO_3.out) hb); have n1_ := Aside0.mk (IsS70.below (by exact IsS70.below HIr.out (by repeat (first | (with_reducible first | exact HBr.out | apply below_drew1)))) hb); have n2_ := Aside0.mk (blk_below (g := gb286) (o := .cells #[.int .u32 t284, .int .u8 t285] 33 (0, 0)) (by exact BK286.out) hb); have nbr_ := Aside0.mk (below_step (by repeat (first | (with_reducible first | exact HBr.out | apply below_drew1))) hb); have n3_ := Aside0.mk (below_step (by repeat (first | (with_reducible first | exact HB.out | refine below_set ?_ GE286.out))) hb); have n4_ := Aside0.mk (hbox); have n5_ := Aside0.mk ((by rw [hg]; exact (below_size (by repeat (first | (with_reducible first | exact HB.out | refine below_set ?_ GE286.out)))) : w.heap.size ≤ gb299)); have n6_ := Aside0.mk ((by rw [hg]; exact (below_size (by repeat (first | (with_reducible first | exact HB.out | refine below_set ?_ GE286.out)))) : w.heap.size ≤ gb299)); have n7_ := Aside0.mk ((by rw [hg]; exact Nat.ne_of_lt (blk_lt (g := gb286) (o := .cells #[.int .u32 t284, .int .u8 t285] 33 (0, 0)) (by exact BK286.out)) : gb286 ≠ gb299)); have n8_ := Aside0.mk ((by rw [hg]; exact Nat.ne_of_gt (blk_lt (g := gb286) (o := .cells #[.int .u32 t284, .int .u8 t285] 33 (0, 0)) (by exact BK286.out)) : gb299 ≠ gb286)); have n9_ := Aside0.mk ((by rw [hg]; exact Nat.ne_of_lt (IsS70.lt (show IsS70 w _ g279 t298 from by exact IsS70.below HIr.out (by repeat (first | (with_reducible first | exact HBr.out | apply below_drew1))))) : g279 ≠ gb299)); have n10_ := Aside0.mk ((by rw [hg]; exact Nat.ne_of_gt (IsS70.lt (show IsS70 w _ g279 t298 from by exact IsS70.below HIr.out (by repeat (first | (with_reducible first | exact HBr.out | apply below_drew1))))) : gb299 ≠ g279)); clear HO_3; clear HI279; clear BK286; clear HB; have HO_3 := n0_; have HI279 := n1_; have BK286 := n2_; have HB := n3_; clear HBr; have GEr299 := ger_; clear ger_; have HBr := nbr_; clear nbr_; have BK299 := n4_; have GW299 := n5_; have GE299 := n6_; have NB286_299 := n7_; have NB299_286 := n8_; have NB279_299 := n9_; have NB299_279 := n10_; clear n0_ n1_ n2_ n3_ n4_ n5_ n6_ n7_ n8_ n9_ n10_; clear hb hbox hg; have hnb37 := NB299_286.out; have hnc37 := NB286_299.out; have hnb38 := NB299_279.out; have hnc38 := NB279_299.out; have hcz39_0 : w36.cell? ⟨gb299, 0, none⟩ = some (.int .u32 0) := (blk_cell BK299.out 0).trans rfl; have hcz39_1 : w36.cell? ⟨gb299, 1, none⟩ = some (.int .u8 0) := (blk_cell BK299.out 1).trans rfl; have hcz39_2 : w36.cell? ⟨gb299, 2, none⟩ = some (.bool false) := (blk_cell BK299.out 2).trans rfl; have hcz39_3 : w36.cell? ⟨gb299, 3, none⟩ = some (.int .u32 0) := (blk_cell BK299.out 3).trans rfl; have hcz39_4 : w36.cell? ⟨gb299, 4, none⟩ = some (.int .u8 0) := (blk_cell BK299.out 4).trans rfl; have hcz39_5 : w36.cell? ⟨gb299, 5, none⟩ = some (.int .i64 0) := (blk_cell BK299.out 5).trans rfl; have hcz39_6 : w36.cell? ⟨gb299, 6, none⟩ = some (.int .u16 0) := (blk_cell BK299.out 6).trans rfl; have hcz39_7 : w36.cell? ⟨gb299, 7, none⟩ = some (.int .u16 0) := (blk_cell BK299.out 7).trans rfl; have hcz39_8 : w36.cell? ⟨gb299, 8, none⟩ = some (.int .u16 0) := (blk_cell BK299.out 8).trans rfl; have hcz39_9 : w36.cell? ⟨gb299, 9, none⟩ = some (.int .u16 0) := (blk_cell BK299.out 9).trans rfl; have hfz39_0 := blk_frozen BK299.out 0; have hfz39_1 := blk_frozen BK299.out 1; have hfz39_2 := blk_frozen BK299.out 2; have hfz39_3 := blk_frozen BK299.out 3; have hfz39_4 := blk_frozen BK299.out 4; have hfz39_5 := blk_frozen BK299.out 5; have hfz39_6 := blk_frozen BK299.out 6; have hfz39_7 := blk_frozen BK299.out 7; have hfz39_8 := blk_frozen BK299.out 8; have hfz39_9 := blk_frozen BK299.out 9; have hcz40_0 : w36.cell? ⟨gb286, 0, none⟩ = some (.int .u32 t284) := (blk_cell BK286.out 0).trans rfl; have hcz40_1 : w36.cell? ⟨gb286, 1, none⟩ = some (.int .u8 t285) := (blk_cell BK286.out 1).trans rfl; have hfz40_0 := blk_frozen BK286.out 0; have hfz40_1 := blk_frozen BK286.out 1) | ((with_reducible refine gate_callee (f := 12) rfl ?_); refine goesL_ (some 69) rfl rfl Try.func12 (by kernel_rfl) rfl #[.slice Ao15 t275.length co15, .agg #[.int .u32 t284, .int .u8 t285]] rfl (by (try simp only [List.map_toArray, List.map_cons, List.map_nil]); first | rfl | (refine qa_arr ?_; (repeat' (first | rfl | refine qa_cons ?_ ?_ | refine qa_int ?_ | refine qa_agg ?_ | refine qa_arr ?_ | omega)); done)) ?_; (with_reducible refine (milestoneref07_Row.calls k3 _ _ t275 t284 t285 t300 t301 t302 t303 t304 t305 t306 t307 t308 t309 t310 _ ?side1 ?side2 A27.out).mono ?_); (case side1 => refine (Kd.R_reads' (e := 38) (base := w.heap.size) (ok := fun k_ => True) (n := t275.length) (c := co15) ?_).2.2; exact (by exact (Kd.R_mono (Kd.R_far (p := ⟨gb299, 9, none⟩) (Kd.R_far (p := ⟨gb299, 8, none⟩) (Kd.R_far (p := ⟨gb299, 7, none⟩) (Kd.R_far (p := ⟨gb299, 6, none⟩) (Kd.R_far (p := ⟨gb299, 5, none⟩) (Kd.R_far (p := ⟨gb299, 4, none⟩) (Kd.R_far (p := ⟨gb299, 3, none⟩) (Kd.R_far (p := ⟨gb299, 2, none⟩) (Kd.R_far (p := ⟨gb299, 1, none⟩) (Kd.R_far (p := ⟨gb299, 0, none⟩) (Kd.R_types HO_3.out BK299.out (by decide)) (fun _ hk => hk.2) (.int .u32 t287)) (fun _ hk => hk.2) (.int .u8 t288)) (fun _ hk => hk.2) (.bool t289)) (fun _ hk => hk.2) (.int .u32 t290)) (fun _ hk => hk.2) (.int .u8 t291)) (fun _ hk => hk.2) (.int .i64 t292)) (fun _ hk => hk.2) (.int .u16 t293)) (fun _ hk => hk.2) (.int .u16 t294)) (fun _ hk => hk.2) (.int .u16 t295)) (fun _ hk => hk.2) (.int .u16 t296)) (fun _ h_ => h_.1)))); (case side2 => exact (Kd.R_reads' HO_3.out).2.1); rintro e w41 ⟨rfl, hb⟩; refine ⟨_, rfl, ?_⟩; have n0_ := Aside0.mk (Kd.R_below (by exact (Kd.R_mono (Kd.R_far (p := ⟨gb299, 9, none⟩) (Kd.R_far (p := ⟨gb299, 8, none⟩) (Kd.R_far (p := ⟨gb299, 7, none⟩) (Kd.R_far (p := ⟨gb299, 6, none⟩) (Kd.R_far (p := ⟨gb299, 5, none⟩) (Kd.R_far (p := ⟨gb299, 4, none⟩) (Kd.R_far (p := ⟨gb299, 3, none⟩) (Kd.R_far (p := ⟨gb299, 2, none⟩) (Kd.R_far (p := ⟨gb299, 1, none⟩) (Kd.R_far (p := ⟨gb299, 0, none⟩) (Kd.R_types HO_3.out BK299.out (by decide)) (fun _ hk => hk.2) (.int .u32 t287)) (fun _ hk => hk.2) (.int .u8 t288)) (fun _ hk => hk.2) (.bool t289)) (fun _ hk => hk.2) (.int .u32 t290)) (fun _ hk => hk.2) (.int .u8 t291)) (fun _ hk => hk.2) (.int .i64 t292)) (fun _ hk => hk.2) (.int .u16 t293)) (fun _ hk => hk.2) (.int .u16 t294)) (fun _ hk => hk.2) (.int .u16 t295)) (fun _ hk => hk.2) (.int .u16 t296)) (fun _ h_ => h_.1))) hb); have n1_ := Aside0.mk (IsS70.below (show IsS70 w ((((((((((w36.setCell ⟨gb299, 0, none⟩ (.int .u32 t287)).setCell ⟨gb299, 1, none⟩ (.int .u8 t288)).setCell ⟨gb299, 2, none⟩ (.bool t289)).setCell ⟨gb299, 3, none⟩ (.int .u32 t290)).setCell ⟨gb299, 4, none⟩ (.int .u8 t291)).setCell ⟨gb299, 5, none⟩ (.int .i64 t292)).setCell ⟨gb299, 6, none⟩ (.int .u16 t293)).setCell ⟨gb299, 7, none⟩ (.int .u16 t294)).setCell ⟨gb299, 8, none⟩ (.int .u16 t295)).setCell ⟨gb299, 9, none⟩ (.int .u16 t296)) g279 t298 from by exact IsS70.below HIr.out (by repeat (first | (with_reducible first | exact HBr.out | refine below_set ?_ GEr299.out)))) hb); have n2_ := Aside0.mk (blk_below (g := gb286) (o := .cells #[.int .u32 t284, .int .u8 t285] 33 (0, 0)) (by refine blk_far ?_ NB286_299.out _; refine blk_far ?_ NB286_299.out _; refine blk_far ?_ NB286_299.out _; refine blk_far ?_ NB286_299.out _; refine blk_far ?_ NB286_299.out _; refine blk_far ?_ NB286_299.out _; refine blk_far ?_ NB286_299.out _; refine blk_far ?_ NB286_299.out _; refine blk_far ?_ NB286_299.out _; refine blk_far ?_ NB286_299.out _; exact BK286.out) hb); have n3_ := Aside0.mk (blk_below (g := gb299) (o := .cells #[.int .u32 t287, .int .u8 t288, .bool t289, .int .u32 t290, .int .u8 t291, .int .i64 t292, .int .u16 t293, .int .u16 t294, .int .u16 t295, .int .u16 t296] 43 (0, 0)) (by refine blk_put (cs := #[.int .u32 t287, .int .u8 t288, .bool t289, .int .u32 t290, .int .u8 t291, .int .i64 t292, .int .u16 t293, .int .u16 t294, .int .u16 t295, .int .u16 0]) ?_ 9 _ rfl; refine blk_put (cs := #[.int .u32 t287, .int .u8 t288, .bool t289, .int .u32 t290, .int .u8 t291, .int .i64 t292, .int .u16 t293, .int .u16 t294, .int .u16 0, .int .u16 0]) ?_ 8 _ rfl; refine blk_put (cs := #[.int .u32 t287, .int .u8 t288, .bool t289, .int .u32 t290, .int .u8 t291, .int .i64 t292, .int .u16 t293, .int .u16 0, .int .u16 0, .int .u16 0]) ?_ 7 _ rfl; refine blk_put (cs := #[.int .u32 t287, .int .u8 t288, .bool t289, .int .u32 t290, .int .u8 t291, .int .i64 t292, .int .u16 0, .int .u16 0, .int .u16 0, .int .u16 0]) ?_ 6 _ rfl; refine blk_put (cs := #[.int .u32 t287, .int .u8 t288, .bool t289, .int .u32 t290, .int .u8 t291, .int .i64 0, .int .u16 0, .int .u16 0, .int .u16 0, .int .u16 0]) ?_ 5 _ rfl; refine blk_put (cs := #[.int .u32 t287, .int .u8 t288, .bool t289, .int .u32 t290, .int .u8 0, .int .i64 0, .int .u16 0, .int .u16 0, .int .u16 0, .int .u16 0]) ?_ 4 _ rfl; refine blk_put (cs := #[.int .u32 t287, .int .u8 t288, .bool t289, .int .u32 0, .int .u8 0, .int .i64 0, .int .u16 0, .int .u16 0, .int .u16 0, .int .u16 0]) ?_ 3 _ rfl; refine blk_put (cs := #[.int .u32 t287, .int .u8 t288, .bool false, .int .u32 0, .int .u8 0, .int .i64 0, .int .u16 0, .int .u16 0, .int .u16 0, .int .u16 0]) ?_ 2 _ rfl; refine blk_put (cs := #[.int .u32 t287, .int .u8 0, .bool false, .int .u32 0, .int .u8 0, .int .i64 0, .int .u16 0, .int .u16 0, .int .u16 0, .int .u16 0]) ?_ 1 _ rfl; refine blk_put (cs := #[.int .u32 0, .int .u8 0, .bool false, .int .u32 0, .int .u8 0, .int .i64 0, .int .u16 0, .int .u16 0, .int .u16 0, .int .u16 0]) ?_ 0 _ rfl; exact BK299.out) hb); have nbr_ := Aside0.mk (below_step (by repeat (first | (with_reducible first | exact HBr.out | refine below_set ?_ GEr299.out))) hb); have n4_ := Aside0.mk (below_step (by repeat (first | (with_reducible first | exact HB.out | refine below_set ?_ GE299.out))) hb); clear HO_3; clear HI279; clear BK286; clear BK299; clear HB; have HO_3 := n0_; have HI279 := n1_; have BK286 := n2_; have BK299 := n3_; have HB := n4_; clear HBr; have HBr := nbr_; clear nbr_; clear n0_ n1_ n2_ n3_ n4_; (try clear hb); (try clear hb2); (try clear hk); (try clear hi)) | ((with_reducible refine gate_dst (N := 11) rfl ?_); (try (refine gate_guard (by rfl) ?_; dsimp only)); refine box_event ?hg (N := 11) ?hd (cs := #[.int .u32 0, .int .u8 0, .bool false, .int .u32 0, .int .u8 0, .int .i64 0, .int .u16 0, .int .u16 0, .int .u16 0, .int .u16 0]) (t := 43) ?hr ?_; (case hd => rfl); (case hg => rfl); (case hr => first | (go_simp; done)); intro gb311 hg w42 hbox hb; have ger_ := Aside0.mk (IsS70.ge_of (by repeat (first | (with_reducible first | exact HBr.out | refine below_set ?_ GEr299.out))) hg); have n0_ := Aside0.mk (Kd.R_below (by exact HO_3.out) hb); have n1_ := Aside0.mk (IsS70.below (by exact IsS70.below HIr.out (by repeat (first | (with_reducible first | exact HBr.out | refine below_set ?_ GEr299.out)))) hb); have n2_ := Aside0.mk (blk_below (g := gb286) (o := .cells #[.int .u32 t284, .int .u8 t285] 33 (0, 0)) (by exact BK286.out) hb); have n3_ := Aside0.mk (blk_below (g := gb299) (o := .cells #[.int .u32 t287, .int .u8 t288, .bool t289, .int .u32 t290, .int .u8 t291, .int .i64 t292, .int .u16 t293, .int .u16 t294, .int .u16 t295, .int .u16 t296] 43 (0, 0)) (by exact BK299.out) hb); have nbr_ := Aside0.mk (below_step (by repeat (first | (with_reducible first | exact HBr.out | refine below_set ?_ GEr299.out))) hb); have n4_ := Aside0.mk (below_step (by repeat (first | (with_reducible first | exact HB.out | refine below_set ?_ GE299.out))) hb); have n5_ := Aside0.mk (hbox); have n6_ := Aside0.mk ((by rw [hg]; exact (below_size (by repeat (first | (with_reducible first | exact HB.out | refine below_set ?_ GE299.out)))) : w.heap.size ≤ gb311)); have n7_ := Aside0.mk ((by rw [hg]; exact (below_size (by repeat (first | (with_reducible first | exact HB.out | refine below_set ?_ GE299.out)))) : w.heap.size ≤ gb311)); have n8_ := Aside0.mk ((by rw [hg]; exact Nat.ne_of_lt (blk_lt (g := gb286) (o := .cells #[.int .u32 t284, .int .u8 t285] 33 (0, 0)) (by exact BK286.out)) : gb286 ≠ gb311)); have n9_ := Aside0.mk ((by rw [hg]; exact Nat.ne_of_gt (blk_lt (g := gb286) (o := .cells #[.int .u32 t284, .int .u8 t285] 33 (0, 0)) (by exact BK286.out)) : gb311 ≠ gb286)); have n10_ := Aside0.mk ((by rw [hg]; exact Nat.ne_of_lt (blk_lt (g := gb299) (o := .cells #[.int .u32 t287, .int .u8 t288, .bool t289, .int .u32 t290, .int .u8 t291, .int .i64 t292, .int .u16 t293, .int .u16 t294, .int .u16 t295, .int .u16 t296] 43 (0, 0)) (by exact BK299.out)) : gb299 ≠ gb311)); have n11_ := Aside0.mk ((by rw [hg]; exact Nat.ne_of_gt (blk_lt (g := gb299) (o := .cells #[.int .u32 t287, .int .u8 t288, .bool t289, .int .u32 t290, .int .u8 t291, .int .i64 t292, .int .u16 t293, .int .u16 t294, .int .u16 t295, .int .u16 t296] 43 (0, 0)) (by exact BK299.out)) : gb311 ≠ gb299)); have n12_ := Aside0.mk ((by rw [hg]; exact Nat.ne_of_lt (IsS70.lt (show IsS70 w _ g279 t298 from by exact IsS70.below HIr.out (by repeat (first | (with_reducible first | exact HBr.out | refine below_set ?_ GEr299.out))))) : g279 ≠ gb311)); have n13_ := Aside0.mk ((by rw [hg]; exact Nat.ne_of_gt (IsS70.lt (show IsS70 w _ g279 t298 from by exact IsS70.below HIr.out (by repeat (first | (with_reducible first | exact HBr.out | refine below_set ?_ GEr299.out))))) : gb311 ≠ g279)); clear HO_3; clear HI279; clear BK286; clear BK299; clear HB; have HO_3 := n0_; have HI279 := n1_; have BK286 := n2_; have BK299 := n3_; have HB := n4_; clear HBr; have GEr311 := ger_; clear ger_; have HBr := nbr_; clear nbr_; have BK311 := n5_; have GW311 := n6_; have GE311 := n7_; have NB286_311 := n8_; have NB311_286 := n9_; have NB299_311 := n10_; have NB311_299 := n11_; have NB279_311 := n12_; have NB311_279 := n13_; clear n0_ n1_ n2_ n3_ n4_ n5_ n6_ n7_ n8_ n9_ n10_ n11_ n12_ n13_; clear hb hbox hg; have hnb43 := NB311_286.out; have hnc43 := NB286_311.out; have hnb44 := NB311_299.out; have hnc44 := NB299_311.out; have hnb45 := NB311_279.out; have hnc45 := NB279_311.out; have hcz46_0 : w42.cell? ⟨gb311, 0, none⟩ = some (.int .u32 0) := (blk_cell BK311.out 0).trans rfl; have hcz46_1 : w42.cell? ⟨gb311, 1, none⟩ = some (.int .u8 0) := (blk_cell BK311.out 1).trans rfl; have hcz46_2 : w42.cell? ⟨gb311, 2, none⟩ = some (.bool false) := (blk_cell BK311.out 2).trans rfl; have hcz46_3 : w42.cell? ⟨gb311, 3, none⟩ = some (.int .u32 0) := (blk_cell BK311.out 3).trans rfl; have hcz46_4 : w42.cell? ⟨gb311, 4, none⟩ = some (.int .u8 0) := (blk_cell BK311.out 4).trans rfl; have hcz46_5 : w42.cell? ⟨gb311, 5, none⟩ = some (.int .i64 0) := (blk_cell BK311.out 5).trans rfl; have hcz46_6 : w42.cell? ⟨gb311, 6, none⟩ = some (.int .u16 0) := (blk_cell BK311.out 6).trans rfl; have hcz46_7 : w42.cell? ⟨gb311, 7, none⟩ = some (.int .u16 0) := (blk_cell BK311.out 7).trans rfl; have hcz46_8 : w42.cell? ⟨gb311, 8, none⟩ = some (.int .u16 0) := (blk_cell BK311.out 8).trans rfl; have hcz46_9 : w42.cell? ⟨gb311, 9, none⟩ = some (.int .u16 0) := (blk_cell BK311.out 9).trans rfl; have hfz46_0 := blk_frozen BK311.out 0; have hfz46_1 := blk_frozen BK311.out 1; have hfz46_2 := blk_frozen BK311.out 2; have hfz46_3 := blk_frozen BK311.out 3; have hfz46_4 := blk_frozen BK311.out 4; have hfz46_5 := blk_frozen BK311.out 5; have hfz46_6 := blk_frozen BK311.out 6; have hfz46_7 := blk_frozen BK311.out 7; have hfz46_8 := blk_frozen BK311.out 8; have hfz46_9 := blk_frozen BK311.out 9; have hcz47_0 : w42.cell? ⟨gb299, 0, none⟩ = some (.int .u32 t287) := (blk_cell BK299.out 0).trans rfl; have hcz47_1 : w42.cell? ⟨gb299, 1, none⟩ = some (.int .u8 t288) := (blk_cell BK299.out 1).trans rfl; have hcz47_2 : w42.cell? ⟨gb299, 2, none⟩ = some (.bool t289) := (blk_cell BK299.out 2).trans rfl; have hcz47_3 : w42.cell? ⟨gb299, 3, none⟩ = some (.int .u32 t290) := (blk_cell BK299.out 3).trans rfl; have hcz47_4 : w42.cell? ⟨gb299, 4, none⟩ = some (.int .u8 t291) := (blk_cell BK299.out 4).trans rfl; have hcz47_5 : w42.cell? ⟨gb299, 5, none⟩ = some (.int .i64 t292) := (blk_cell BK299.out 5).trans rfl; have hcz47_6 : w42.cell? ⟨gb299, 6, none⟩ = some (.int .u16 t293) := (blk_cell BK299.out 6).trans rfl; have hcz47_7 : w42.cell? ⟨gb299, 7, none⟩ = some (.int .u16 t294) := (blk_cell BK299.out 7).trans rfl; have hcz47_8 : w42.cell? ⟨gb299, 8, none⟩ = some (.int .u16 t295) := (blk_cell BK299.out 8).trans rfl; have hcz47_9 : w42.cell? ⟨gb299, 9, none⟩ = some (.int .u16 t296) := (blk_cell BK299.out 9).trans rfl; have hfz47_0 := blk_frozen BK299.out 0; have hfz47_1 := blk_frozen BK299.out 1; have hfz47_2 := blk_frozen BK299.out 2; have hfz47_3 := blk_frozen BK299.out 3; have hfz47_4 := blk_frozen BK299.out 4; have hfz47_5 := blk_frozen BK299.out 5; have hfz47_6 := blk_frozen BK299.out 6; have hfz47_7 := blk_frozen BK299.out 7; have hfz47_8 := blk_frozen BK299.out 8; have hfz47_9 := blk_frozen BK299.out 9))
                   go_roundg k3
                   case measure => have := HJ1.out; have := HJ12.out; have := HK3.out; omega
                   case rel => exact ⟨(wrap64 (x7_3 + 1)), (t298), (by first | rfl | (refine qa_int ?_; simp <;> omega)), H', ⟨by have := HJ1.out; have := HJ12.out; have := HK3.out; omega⟩, ⟨by exact Kd.R_mono (Kd.R_far (p := ⟨gb311, 9, none⟩) (Kd.R_far (p := ⟨gb311, 8, none⟩) (Kd.R_far (p := ⟨gb311, 7, none⟩) (Kd.R_far (p := ⟨gb311, 6, none⟩) (Kd.R_far (p := ⟨gb311, 5, none⟩) (Kd.R_far (p := ⟨gb311, 4, none⟩) (Kd.R_far (p := ⟨gb311, 3, none⟩) (Kd.R_far (p := ⟨gb311, 2, none⟩) (Kd.R_far (p := ⟨gb311, 1, none⟩) (Kd.R_far (p := ⟨gb311, 0, none⟩) (Kd.R_types HO_3.out BK311.out (by decide)) (fun _ hk => hk.2) (.int .u32 t300)) (fun _ hk => hk.2) (.int .u8 t301)) (fun _ hk => hk.2) (.bool t302)) (fun _ hk => hk.2) (.int .u32 t303)) (fun _ hk => hk.2) (.int .u8 t304)) (fun _ hk => hk.2) (.int .i64 t305)) (fun _ hk => hk.2) (.int .u16 t306)) (fun _ hk => hk.2) (.int .u16 t307)) (fun _ hk => hk.2) (.int .u16 t308)) (fun _ hk => hk.2) (.int .u16 t309)) (fun _ hk => trivial)⟩, ⟨by exact IsS70.below HIr.out (by repeat (first | (with_reducible first | exact HBr.out | refine below_set ?_ GEr311.out)))⟩, ⟨by repeat (first | (with_reducible first | exact HB.out | refine below_set ?_ GE311.out))⟩⟩
               · replace c29 := Bool.eq_false_iff.mpr c29
                 subst c29
                 have H1 : (milestonelaw08_TableTells.l0 k3 t275 (wrap64 (x7_3 + 1)) t298) = some r := by rw [if_neg (show ¬ (false = true) by decide)] at H; exact H
                 clear H
                 have H := H1
                 clear H1
                 have H' := Aside0.mk H
                 clear H
                 go_wp2_with (first | ((with_reducible refine gate_callee (f := 10) rfl ?_); refine goesL_ (some 59) rfl rfl Try.func10 (by kernel_rfl) rfl #[.int .u8 ((x7_3) % 256)] rfl (by (try simp only [List.map_toArray, List.map_cons, List.map_nil]); first | rfl | (refine qa_arr ?_; (repeat' (first | rfl | refine qa_cons ?_ ?_ | refine qa_int ?_ | refine qa_agg ?_ | refine qa_arr ?_ | omega)); done)) ?_; (with_reducible refine (milestoneref07_Prefix.calls k3 ((x7_3) % 256) t284 t285 _ A25.out).mono ?_); rintro e w48 ⟨rfl, hb⟩; refine ⟨_, rfl, ?_⟩; have n0_ := Aside0.mk (Kd.R_below (by exact HO_3.out) hb); have n1_ := Aside0.mk (IsS70.below (by repeat (first | (with_reducible first | exact HI279.out | apply IsS70.set_0))) hb); have n2_ := Aside0.mk (below_step (by repeat (first | (with_reducible first | exact HB.out | refine below_set ?_ (IsS70.ge HI279.out)))) hb); clear HO_3; clear HI279; clear HB; have HO_3 := n0_; have HI279 := n1_; have HB := n2_; clear n0_ n1_ n2_; (try clear hb); (try clear hb2); (try clear hk); (try clear hi)) | ((with_reducible refine gate_dst (N := 8) rfl ?_); (try (refine gate_guard (by rfl) ?_; dsimp only)); refine box_event ?hg (N := 8) ?hd (cs := #[.int .u32 0, .int .u8 0]) (t := 33) ?hr ?_; (case hd => rfl); (case hg => rfl); (case hr => first | (go_simp; done)); intro gb286 hg w49 hbox hb; have n0_ := Aside0.mk (Kd.R_below (by exact HO_3.out) hb); have n1_ := Aside0.mk (IsS70.below (by repeat (first | (with_reducible first | exact HI279.out | apply IsS70.set_0))) hb); have n2_ := Aside0.mk (below_step (by repeat (first | (with_reducible first | exact HB.out | refine below_set ?_ (IsS70.ge HI279.out)))) hb); have n3_ := Aside0.mk (hbox); have n4_ := Aside0.mk ((by rw [hg]; exact (below_size (by repeat (first | (with_reducible first | exact HB.out | refine below_set ?_ (IsS70.ge HI279.out))))) : w.heap.size ≤ gb286)); have n5_ := Aside0.mk ((by rw [hg]; exact (below_size (by repeat (first | (with_reducible first | exact HB.out | refine below_set ?_ (IsS70.ge HI279.out))))) : w.heap.size ≤ gb286)); have n6_ := Aside0.mk ((by rw [hg]; exact Nat.ne_of_lt (IsS70.lt (show IsS70 w _ g279 x280000_3 from by repeat (first | (with_reducible first | exact HI279.out | apply IsS70.set_0)))) : g279 ≠ gb286)); have n7_ := Aside0.mk ((by rw [hg]; exact Nat.ne_of_gt (IsS70.lt (show IsS70 w _ g279 x280000_3 from by repeat (first | (with_reducible first | exact HI279.out | apply IsS70.set_0)))) : gb286 ≠ g279)); clear HO_3; clear HI279; clear HB; have HO_3 := n0_; have HI279 := n1_; have HB := n2_; have BK286 := n3_; have GW286 := n4_; have GE286 := n5_; have NB279_286 := n6_; have NB286_279 := n7_; clear n0_ n1_ n2_ n3_ n4_ n5_ n6_ n7_; clear hb hbox hg; have hnb50 := NB286_279.out; have hnc50 := NB279_286.out; have hcz51_0 : w49.cell? ⟨gb286, 0, none⟩ = some (.int .u32 0) := (blk_cell BK286.out 0).trans rfl; have hcz51_1 : w49.cell? ⟨gb286, 1, none⟩ = some (.int .u8 0) := (blk_cell BK286.out 1).trans rfl; have hfz51_0 := blk_frozen BK286.out 0; have hfz51_1 := blk_frozen BK286.out 1) | ((with_reducible refine gate_callee (f := 11) rfl ?_); refine goesL_ (some 63) rfl rfl Try.func11 (by kernel_rfl) rfl #[.pointer (some ⟨g279, 0, none⟩), .agg #[.int .u32 t284, .int .u8 t285]] rfl (by (try simp only [List.map_toArray, List.map_cons, List.map_nil]); first | rfl | (refine qa_arr ?_; (repeat' (first | rfl | refine qa_cons ?_ ?_ | refine qa_int ?_ | refine qa_agg ?_ | refine qa_arr ?_ | omega)); done)) ?_; (with_reducible refine (table_Table_Row.calls g279 x280000_3 t284 t285 t287 t288 t289 t290 t291 t292 t293 t294 t295 t296 false t298 w _ ?side1 ?side2 A26.out).mono ?_); (case side1 => repeat (first | (with_reducible first | exact HI279.out | (refine IsS70.far ?_ ?_ _; rotate_left; focus ((repeat (first | exact Oth.of_blk BK286.out (by decide) (by decide) | apply Oth.set | apply Oth.drew)); done))))); (case side2 => repeat (first | (with_reducible first | exact HB.out | refine below_set ?_ GE286.out))); rintro e w52 ⟨rfl, hi, hb, hk⟩; refine ⟨_, rfl, ?_⟩; have n0_ := Aside0.mk (Kd.R_below (by exact (Kd.R_mono (Kd.R_far (p := ⟨gb286, 1, none⟩) (Kd.R_far (p := ⟨gb286, 0, none⟩) (Kd.R_types HO_3.out BK286.out (by decide)) (fun _ hk => hk.2) (.int .u32 t284)) (fun _ hk => hk.2) (.int .u8 t285)) (fun _ h_ => h_.1))) hk); have n1_ := Aside0.mk (blk_below (g := gb286) (o := .cells #[.int .u32 t284, .int .u8 t285] 33 (0, 0)) (by refine blk_put (cs := #[.int .u32 t284, .int .u8 0]) ?_ 1 _ rfl; refine blk_put (cs := #[.int .u32 0, .int .u8 0]) ?_ 0 _ rfl; exact BK286.out) hk); have n2_ := Aside0.mk (hb); have n3_ := Aside0.mk (hi); clear HO_3; clear BK286; clear HB; clear HI279; have HO_3 := n0_; have BK286 := n1_; have HB := n2_; have HI279 := n3_; clear n0_ n1_ n2_ n3_; (try clear hb); (try clear hb2); (try clear hk); (try clear hi); have HIr := HI279; have HBr := Aside0.mk (IsS70.self_ HIr.out)) | ((with_reducible refine gate_dst (N := 9) rfl ?_); (try (refine gate_guard (by rfl) ?_; dsimp only)); refine box_event ?hg (N := 9) ?hd (cs := #[.int .u32 0, .int .u8 0, .bool false, .int .u32 0, .int .u8 0, .int .i64 0, .int .u16 0, .int .u16 0, .int .u16 0, .int .u16 0]) (t := 43) ?hr ?_; (case hd => rfl); (case hg => rfl); (case hr => first | (go_simp; done)); intro gb299 hg w53 hbox hb; have ger_ := Aside0.mk (IsS70.ge_of (by repeat (first | (with_reducible first | exact HBr.out | apply below_drew1))) hg); have n0_ := Aside0.mk (Kd.R_below (by exact HO_3.out) hb); have n1_ := Aside0.mk (IsS70.below (by exact IsS70.below HIr.out (by repeat (first | (with_reducible first | exact HBr.out | apply below_drew1)))) hb); have n2_ := Aside0.mk (blk_below (g := gb286) (o := .cells #[.int .u32 t284, .int .u8 t285] 33 (0, 0)) (by exact BK286.out) hb); have nbr_ := Aside0.mk (below_step (by repeat (first | (with_reducible first | exact HBr.out | apply below_drew1))) hb); have n3_ := Aside0.mk (below_step (by repeat (first | (with_reducible first | exact HB.out | refine below_set ?_ GE286.out))) hb); have n4_ := Aside0.mk (hbox); have n5_ := Aside0.mk ((by rw [hg]; exact (below_size (by repeat (first | (with_reducible first | exact HB.out | refine below_set ?_ GE286.out)))) : w.heap.size ≤ gb299)); have n6_ := Aside0.mk ((by rw [hg]; exact (below_size (by repeat (first | (with_reducible first | exact HB.out | refine below_set ?_ GE286.out)))) : w.heap.size ≤ gb299)); have n7_ := Aside0.mk ((by rw [hg]; exact Nat.ne_of_lt (blk_lt (g := gb286) (o := .cells #[.int .u32 t284, .int .u8 t285] 33 (0, 0)) (by exact BK286.out)) : gb286 ≠ gb299)); have n8_ := Aside0.mk ((by rw [hg]; exact Nat.ne_of_gt (blk_lt (g := gb286) (o := .cells #[.int .u32 t284, .int .u8 t285] 33 (0, 0)) (by exact BK286.out)) : gb299 ≠ gb286)); have n9_ := Aside0.mk ((by rw [hg]; exact Nat.ne_of_lt (IsS70.lt (show IsS70 w _ g279 t298 from by exact IsS70.below HIr.out (by repeat (first | (with_reducible first | exact HBr.out | apply below_drew1))))) : g279 ≠ gb299)); have n10_ := Aside0.mk ((by rw [hg]; exact Nat.ne_of_gt (IsS70.lt (show IsS70 w _ g279 t298 from by exact IsS70.below HIr.out (by repeat (first | (with_reducible first | exact HBr.out | apply below_drew1))))) : gb299 ≠ g279)); clear HO_3; clear HI279; clear BK286; clear HB; have HO_3 := n0_; have HI279 := n1_; have BK286 := n2_; have HB := n3_; clear HBr; have GEr299 := ger_; clear ger_; have HBr := nbr_; clear nbr_; have BK299 := n4_; have GW299 := n5_; have GE299 := n6_; have NB286_299 := n7_; have NB299_286 := n8_; have NB279_299 := n9_; have NB299_279 := n10_; clear n0_ n1_ n2_ n3_ n4_ n5_ n6_ n7_ n8_ n9_ n10_; clear hb hbox hg; have hnb54 := NB299_286.out; have hnc54 := NB286_299.out; have hnb55 := NB299_279.out; have hnc55 := NB279_299.out; have hcz56_0 : w53.cell? ⟨gb299, 0, none⟩ = some (.int .u32 0) := (blk_cell BK299.out 0).trans rfl; have hcz56_1 : w53.cell? ⟨gb299, 1, none⟩ = some (.int .u8 0) := (blk_cell BK299.out 1).trans rfl; have hcz56_2 : w53.cell? ⟨gb299, 2, none⟩ = some (.bool false) := (blk_cell BK299.out 2).trans rfl; have hcz56_3 : w53.cell? ⟨gb299, 3, none⟩ = some (.int .u32 0) := (blk_cell BK299.out 3).trans rfl; have hcz56_4 : w53.cell? ⟨gb299, 4, none⟩ = some (.int .u8 0) := (blk_cell BK299.out 4).trans rfl; have hcz56_5 : w53.cell? ⟨gb299, 5, none⟩ = some (.int .i64 0) := (blk_cell BK299.out 5).trans rfl; have hcz56_6 : w53.cell? ⟨gb299, 6, none⟩ = some (.int .u16 0) := (blk_cell BK299.out 6).trans rfl; have hcz56_7 : w53.cell? ⟨gb299, 7, none⟩ = some (.int .u16 0) := (blk_cell BK299.out 7).trans rfl; have hcz56_8 : w53.cell? ⟨gb299, 8, none⟩ = some (.int .u16 0) := (blk_cell BK299.out 8).trans rfl; have hcz56_9 : w53.cell? ⟨gb299, 9, none⟩ = some (.int .u16 0) := (blk_cell BK299.out 9).trans rfl; have hfz56_0 := blk_frozen BK299.out 0; have hfz56_1 := blk_frozen BK299.out 1; have hfz56_2 := blk_frozen BK299.out 2; have hfz56_3 := blk_frozen BK299.out 3; have hfz56_4 := blk_frozen BK299.out 4; have hfz56_5 := blk_frozen BK299.out 5; have hfz56_6 := blk_frozen BK299.out 6; have hfz56_7 := blk_frozen BK299.out 7; have hfz56_8 := blk_frozen BK299.out 8; have hfz56_9 := blk_frozen BK299.out 9; have hcz57_0 : w53.cell? ⟨gb286, 0, none⟩ = some (.int .u32 t284) := (blk_cell BK286.out 0).trans rfl; have hcz57_1 : w53.cell? ⟨gb286, 1, none⟩ = some (.int .u8 t285) := (blk_cell BK286.out 1).trans rfl; have hfz57_0 := blk_frozen BK286.out 0; have hfz57_1 := blk_frozen BK286.out 1) | ((with_reducible refine gate_callee (f := 12) rfl ?_); refine goesL_ (some 69) rfl rfl Try.func12 (by kernel_rfl) rfl #[.slice Ao15 t275.length co15, .agg #[.int .u32 t284, .int .u8 t285]] rfl (by (try simp only [List.map_toArray, List.map_cons, List.map_nil]); first | rfl | (refine qa_arr ?_; (repeat' (first | rfl | refine qa_cons ?_ ?_ | refine qa_int ?_ | refine qa_agg ?_ | refine qa_arr ?_ | omega)); done)) ?_; (with_reducible refine (milestoneref07_Row.calls k3 _ _ t275 t284 t285 t300 t301 t302 t303 t304 t305 t306 t307 t308 t309 t310 _ ?side1 ?side2 A27.out).mono ?_); (case side1 => refine (Kd.R_reads' (e := 38) (base := w.heap.size) (ok := fun k_ => True) (n := t275.length) (c := co15) ?_).2.2; exact (by exact (Kd.R_mono (Kd.R_far (p := ⟨gb299, 9, none⟩) (Kd.R_far (p := ⟨gb299, 8, none⟩) (Kd.R_far (p := ⟨gb299, 7, none⟩) (Kd.R_far (p := ⟨gb299, 6, none⟩) (Kd.R_far (p := ⟨gb299, 5, none⟩) (Kd.R_far (p := ⟨gb299, 4, none⟩) (Kd.R_far (p := ⟨gb299, 3, none⟩) (Kd.R_far (p := ⟨gb299, 2, none⟩) (Kd.R_far (p := ⟨gb299, 1, none⟩) (Kd.R_far (p := ⟨gb299, 0, none⟩) (Kd.R_types HO_3.out BK299.out (by decide)) (fun _ hk => hk.2) (.int .u32 t287)) (fun _ hk => hk.2) (.int .u8 t288)) (fun _ hk => hk.2) (.bool t289)) (fun _ hk => hk.2) (.int .u32 t290)) (fun _ hk => hk.2) (.int .u8 t291)) (fun _ hk => hk.2) (.int .i64 t292)) (fun _ hk => hk.2) (.int .u16 t293)) (fun _ hk => hk.2) (.int .u16 t294)) (fun _ hk => hk.2) (.int .u16 t295)) (fun _ hk => hk.2) (.int .u16 t296)) (fun _ h_ => h_.1)))); (case side2 => exact (Kd.R_reads' HO_3.out).2.1); rintro e w58 ⟨rfl, hb⟩; refine ⟨_, rfl, ?_⟩; have n0_ := Aside0.mk (Kd.R_below (by exact (Kd.R_mono (Kd.R_far (p := ⟨gb299, 9, none⟩) (Kd.R_far (p := ⟨gb299, 8, none⟩) (Kd.R_far (p := ⟨gb299, 7, none⟩) (Kd.R_far (p := ⟨gb299, 6, none⟩) (Kd.R_far (p := ⟨gb299, 5, none⟩) (Kd.R_far (p := ⟨gb299, 4, none⟩) (Kd.R_far (p := ⟨gb299, 3, none⟩) (Kd.R_far (p := ⟨gb299, 2, none⟩) (Kd.R_far (p := ⟨gb299, 1, none⟩) (Kd.R_far (p := ⟨gb299, 0, none⟩) (Kd.R_types HO_3.out BK299.out (by decide)) (fun _ hk => hk.2) (.int .u32 t287)) (fun _ hk => hk.2) (.int .u8 t288)) (fun _ hk => hk.2) (.bool t289)) (fun _ hk => hk.2) (.int .u32 t290)) (fun _ hk => hk.2) (.int .u8 t291)) (fun _ hk => hk.2) (.int .i64 t292)) (fun _ hk => hk.2) (.int .u16 t293)) (fun _ hk => hk.2) (.int .u16 t294)) (fun _ hk => hk.2) (.int .u16 t295)) (fun _ hk => hk.2) (.int .u16 t296)) (fun _ h_ => h_.1))) hb); have n1_ := Aside0.mk (IsS70.below (show IsS70 w ((((((((((w53.setCell ⟨gb299, 0, none⟩ (.int .u32 t287)).setCell ⟨gb299, 1, none⟩ (.int .u8 t288)).setCell ⟨gb299, 2, none⟩ (.bool t289)).setCell ⟨gb299, 3, none⟩ (.int .u32 t290)).setCell ⟨gb299, 4, none⟩ (.int .u8 t291)).setCell ⟨gb299, 5, none⟩ (.int .i64 t292)).setCell ⟨gb299, 6, none⟩ (.int .u16 t293)).setCell ⟨gb299, 7, none⟩ (.int .u16 t294)).setCell ⟨gb299, 8, none⟩ (.int .u16 t295)).setCell ⟨gb299, 9, none⟩ (.int .u16 t296)) g279 t298 from by exact IsS70.below HIr.out (by repeat (first | (with_reducible first | exact HBr.out | refine below_set ?_ GEr299.out)))) hb); have n2_ := Aside0.mk (blk_below (g := gb286) (o := .cells #[.int .u32 t284, .int .u8 t285] 33 (0, 0)) (by refine blk_far ?_ NB286_299.out _; refine blk_far ?_ NB286_299.out _; refine blk_far ?_ NB286_299.out _; refine blk_far ?_ NB286_299.out _; refine blk_far ?_ NB286_299.out _; refine blk_far ?_ NB286_299.out _; refine blk_far ?_ NB286_299.out _; refine blk_far ?_ NB286_299.out _; refine blk_far ?_ NB286_299.out _; refine blk_far ?_ NB286_299.out _; exact BK286.out) hb); have n3_ := Aside0.mk (blk_below (g := gb299) (o := .cells #[.int .u32 t287, .int .u8 t288, .bool t289, .int .u32 t290, .int .u8 t291, .int .i64 t292, .int .u16 t293, .int .u16 t294, .int .u16 t295, .int .u16 t296] 43 (0, 0)) (by refine blk_put (cs := #[.int .u32 t287, .int .u8 t288, .bool t289, .int .u32 t290, .int .u8 t291, .int .i64 t292, .int .u16 t293, .int .u16 t294, .int .u16 t295, .int .u16 0]) ?_ 9 _ rfl; refine blk_put (cs := #[.int .u32 t287, .int .u8 t288, .bool t289, .int .u32 t290, .int .u8 t291, .int .i64 t292, .int .u16 t293, .int .u16 t294, .int .u16 0, .int .u16 0]) ?_ 8 _ rfl; refine blk_put (cs := #[.int .u32 t287, .int .u8 t288, .bool t289, .int .u32 t290, .int .u8 t291, .int .i64 t292, .int .u16 t293, .int .u16 0, .int .u16 0, .int .u16 0]) ?_ 7 _ rfl; refine blk_put (cs := #[.int .u32 t287, .int .u8 t288, .bool t289, .int .u32 t290, .int .u8 t291, .int .i64 t292, .int .u16 0, .int .u16 0, .int .u16 0, .int .u16 0]) ?_ 6 _ rfl; refine blk_put (cs := #[.int .u32 t287, .int .u8 t288, .bool t289, .int .u32 t290, .int .u8 t291, .int .i64 0, .int .u16 0, .int .u16 0, .int .u16 0, .int .u16 0]) ?_ 5 _ rfl; refine blk_put (cs := #[.int .u32 t287, .int .u8 t288, .bool t289, .int .u32 t290, .int .u8 0, .int .i64 0, .int .u16 0, .int .u16 0, .int .u16 0, .int .u16 0]) ?_ 4 _ rfl; refine blk_put (cs := #[.int .u32 t287, .int .u8 t288, .bool t289, .int .u32 0, .int .u8 0, .int .i64 0, .int .u16 0, .int .u16 0, .int .u16 0, .int .u16 0]) ?_ 3 _ rfl; refine blk_put (cs := #[.int .u32 t287, .int .u8 t288, .bool false, .int .u32 0, .int .u8 0, .int .i64 0, .int .u16 0, .int .u16 0, .int .u16 0, .int .u16 0]) ?_ 2 _ rfl; refine blk_put (cs := #[.int .u32 t287, .int .u8 0, .bool false, .int .u32 0, .int .u8 0, .int .i64 0, .int .u16 0, .int .u16 0, .int .u16 0, .int .u16 0]) ?_ 1 _ rfl; refine blk_put (cs := #[.int .u32 0, .int .u8 0, .bool false, .int .u32 0, .int .u8 0, .int .i64 0, .int .u16 0, .int .u16 0, .int .u16 0, .int .u16 0]) ?_ 0 _ rfl; exact BK299.out) hb); have nbr_ := Aside0.mk (below_step (by repeat (first | (with_reducible first | exact HBr.out | refine below_set ?_ GEr299.out))) hb); have n4_ := Aside0.mk (below_step (by repeat (first | (with_reducible first | exact HB.out | refine below_set ?_ GE299.out))) hb); clear HO_3; clear HI279; clear BK286; clear BK299; clear HB; have HO_3 := n0_; have HI279 := n1_; have BK286 := n2_; have BK299 := n3_; have HB := n4_; clear HBr; have HBr := nbr_; clear nbr_; clear n0_ n1_ n2_ n3_ n4_; (try clear hb); (try clear hb2); (try clear hk); (try clear hi)) | ((with_reducible refine gate_dst (N := 11) rfl ?_); (try (refine gate_guard (by rfl) ?_; dsimp only)); refine box_event ?hg (N := 11) ?hd (cs := #[.int .u32 0, .int .u8 0, .bool false, .int .u32 0, .int .u8 0, .int .i64 0, .int .u16 0, .int .u16 0, .int .u16 0, .int .u16 0]) (t := 43) ?hr ?_; (case hd => rfl); (case hg => rfl); (case hr => first | (go_simp; done)); intro gb311 hg w59 hbox hb; have ger_ := Aside0.mk (IsS70.ge_of (by repeat (first | (with_reducible first | exact HBr.out | refine below_set ?_ GEr299.out))) hg); have n0_ := Aside0.mk (Kd.R_below (by exact HO_3.out) hb); have n1_ := Aside0.mk (IsS70.below (by exact IsS70.below HIr.out (by repeat (first | (with_reducible first | exact HBr.out | refine below_set ?_ GEr299.out)))) hb); have n2_ := Aside0.mk (blk_below (g := gb286) (o := .cells #[.int .u32 t284, .int .u8 t285] 33 (0, 0)) (by exact BK286.out) hb); have n3_ := Aside0.mk (blk_below (g := gb299) (o := .cells #[.int .u32 t287, .int .u8 t288, .bool t289, .int .u32 t290, .int .u8 t291, .int .i64 t292, .int .u16 t293, .int .u16 t294, .int .u16 t295, .int .u16 t296] 43 (0, 0)) (by exact BK299.out) hb); have nbr_ := Aside0.mk (below_step (by repeat (first | (with_reducible first | exact HBr.out | refine below_set ?_ GEr299.out))) hb); have n4_ := Aside0.mk (below_step (by repeat (first | (with_reducible first | exact HB.out | refine below_set ?_ GE299.out))) hb); have n5_ := Aside0.mk (hbox); have n6_ := Aside0.mk ((by rw [hg]; exact (below_size (by repeat (first | (with_reducible first | exact HB.out | refine below_set ?_ GE299.out)))) : w.heap.size ≤ gb311)); have n7_ := Aside0.mk ((by rw [hg]; exact (below_size (by repeat (first | (with_reducible first | exact HB.out | refine below_set ?_ GE299.out)))) : w.heap.size ≤ gb311)); have n8_ := Aside0.mk ((by rw [hg]; exact Nat.ne_of_lt (blk_lt (g := gb286) (o := .cells #[.int .u32 t284, .int .u8 t285] 33 (0, 0)) (by exact BK286.out)) : gb286 ≠ gb311)); have n9_ := Aside0.mk ((by rw [hg]; exact Nat.ne_of_gt (blk_lt (g := gb286) (o := .cells #[.int .u32 t284, .int .u8 t285] 33 (0, 0)) (by exact BK286.out)) : gb311 ≠ gb286)); have n10_ := Aside0.mk ((by rw [hg]; exact Nat.ne_of_lt (blk_lt (g := gb299) (o := .cells #[.int .u32 t287, .int .u8 t288, .bool t289, .int .u32 t290, .int .u8 t291, .int .i64 t292, .int .u16 t293, .int .u16 t294, .int .u16 t295, .int .u16 t296] 43 (0, 0)) (by exact BK299.out)) : gb299 ≠ gb311)); have n11_ := Aside0.mk ((by rw [hg]; exact Nat.ne_of_gt (blk_lt (g := gb299) (o := .cells #[.int .u32 t287, .int .u8 t288, .bool t289, .int .u32 t290, .int .u8 t291, .int .i64 t292, .int .u16 t293, .int .u16 t294, .int .u16 t295, .int .u16 t296] 43 (0, 0)) (by exact BK299.out)) : gb311 ≠ gb299)); have n12_ := Aside0.mk ((by rw [hg]; exact Nat.ne_of_lt (IsS70.lt (show IsS70 w _ g279 t298 from by exact IsS70.below HIr.out (by repeat (first | (with_reducible first | exact HBr.out | refine below_set ?_ GEr299.out))))) : g279 ≠ gb311)); have n13_ := Aside0.mk ((by rw [hg]; exact Nat.ne_of_gt (IsS70.lt (show IsS70 w _ g279 t298 from by exact IsS70.below HIr.out (by repeat (first | (with_reducible first | exact HBr.out | refine below_set ?_ GEr299.out))))) : gb311 ≠ g279)); clear HO_3; clear HI279; clear BK286; clear BK299; clear HB; have HO_3 := n0_; have HI279 := n1_; have BK286 := n2_; have BK299 := n3_; have HB := n4_; clear HBr; have GEr311 := ger_; clear ger_; have HBr := nbr_; clear nbr_; have BK311 := n5_; have GW311 := n6_; have GE311 := n7_; have NB286_311 := n8_; have NB311_286 := n9_; have NB299_311 := n10_; have NB311_299 := n11_; have NB279_311 := n12_; have NB311_279 := n13_; clear n0_ n1_ n2_ n3_ n4_ n5_ n6_ n7_ n8_ n9_ n10_ n11_ n12_ n13_; clear hb hbox hg; have hnb60 := NB311_286.out; have hnc60 := NB286_311.out; have hnb61 := NB311_299.out; have hnc61 := NB299_311.out; have hnb62 := NB311_279.out; have hnc62 := NB279_311.out; have hcz63_0 : w59.cell? ⟨gb311, 0, none⟩ = some (.int .u32 0) := (blk_cell BK311.out 0).trans rfl; have hcz63_1 : w59.cell? ⟨gb311, 1, none⟩ = some (.int .u8 0) := (blk_cell BK311.out 1).trans rfl; have hcz63_2 : w59.cell? ⟨gb311, 2, none⟩ = some (.bool false) := (blk_cell BK311.out 2).trans rfl; have hcz63_3 : w59.cell? ⟨gb311, 3, none⟩ = some (.int .u32 0) := (blk_cell BK311.out 3).trans rfl; have hcz63_4 : w59.cell? ⟨gb311, 4, none⟩ = some (.int .u8 0) := (blk_cell BK311.out 4).trans rfl; have hcz63_5 : w59.cell? ⟨gb311, 5, none⟩ = some (.int .i64 0) := (blk_cell BK311.out 5).trans rfl; have hcz63_6 : w59.cell? ⟨gb311, 6, none⟩ = some (.int .u16 0) := (blk_cell BK311.out 6).trans rfl; have hcz63_7 : w59.cell? ⟨gb311, 7, none⟩ = some (.int .u16 0) := (blk_cell BK311.out 7).trans rfl; have hcz63_8 : w59.cell? ⟨gb311, 8, none⟩ = some (.int .u16 0) := (blk_cell BK311.out 8).trans rfl; have hcz63_9 : w59.cell? ⟨gb311, 9, none⟩ = some (.int .u16 0) := (blk_cell BK311.out 9).trans rfl; have hfz63_0 := blk_frozen BK311.out 0; have hfz63_1 := blk_frozen BK311.out 1; have hfz63_2 := blk_frozen BK311.out 2; have hfz63_3 := blk_frozen BK311.out 3; have hfz63_4 := blk_frozen BK311.out 4; have hfz63_5 := blk_frozen BK311.out 5; have hfz63_6 := blk_frozen BK311.out 6; have hfz63_7 := blk_frozen BK311.out 7; have hfz63_8 := blk_frozen BK311.out 8; have hfz63_9 := blk_frozen BK311.out 9))
                 go_roundg k3
                 case measure => have := HJ1.out; have := HJ12.out; have := HK3.out; omega
                 case rel => exact ⟨(wrap64 (x7_3 + 1)), (t298), (by first | rfl | (refine qa_int ?_; simp <;> omega)), H', ⟨by have := HJ1.out; have := HJ12.out; have := HK3.out; omega⟩, ⟨by exact Kd.R_mono (Kd.R_far (p := ⟨gb311, 9, none⟩) (Kd.R_far (p := ⟨gb311, 8, none⟩) (Kd.R_far (p := ⟨gb311, 7, none⟩) (Kd.R_far (p := ⟨gb311, 6, none⟩) (Kd.R_far (p := ⟨gb311, 5, none⟩) (Kd.R_far (p := ⟨gb311, 4, none⟩) (Kd.R_far (p := ⟨gb311, 3, none⟩) (Kd.R_far (p := ⟨gb311, 2, none⟩) (Kd.R_far (p := ⟨gb311, 1, none⟩) (Kd.R_far (p := ⟨gb311, 0, none⟩) (Kd.R_types HO_3.out BK311.out (by decide)) (fun _ hk => hk.2) (.int .u32 t300)) (fun _ hk => hk.2) (.int .u8 t301)) (fun _ hk => hk.2) (.bool t302)) (fun _ hk => hk.2) (.int .u32 t303)) (fun _ hk => hk.2) (.int .u8 t304)) (fun _ hk => hk.2) (.int .i64 t305)) (fun _ hk => hk.2) (.int .u16 t306)) (fun _ hk => hk.2) (.int .u16 t307)) (fun _ hk => hk.2) (.int .u16 t308)) (fun _ hk => hk.2) (.int .u16 t309)) (fun _ hk => trivial)⟩, ⟨by exact IsS70.below HIr.out (by repeat (first | (with_reducible first | exact HBr.out | refine below_set ?_ GEr311.out)))⟩, ⟨by repeat (first | (with_reducible first | exact HB.out | refine below_set ?_ GE311.out))⟩⟩
           · rw [if_neg c24] at H
             have c24b0 : decide (x7_3 < 18) = false := decide_eq_false c24
             clear c24
             replace H := Option.bind_eq_some_iff.mp H
             obtain ⟨⟨t312, t315⟩, A640, H⟩ := H
             replace H : ((milestoneref07_Rows.f k3 t275).bind fun t316 => ((milestoneref07_SameRows.f k3 t312 t316).bind fun t319 => (if t319 = true then ((table_Table_Routes.f t315).bind fun bt320 => ((milestoneref07_Routes.f k3 t275).bind fun t324 => ((milestoneref07_SameRoutes.f k3 bt320.1 t324).bind fun t327 => (some t327)))) else (some false)))) = some r := H
             have A64 := Aside0.mk A640
             clear A640
             replace H := Option.bind_eq_some_iff.mp H
             obtain ⟨t316, A650, H⟩ := H
             replace H : ((milestoneref07_SameRows.f k3 t312 t316).bind fun t319 => (if t319 = true then ((table_Table_Routes.f t315).bind fun bt320 => ((milestoneref07_Routes.f k3 t275).bind fun t324 => ((milestoneref07_SameRoutes.f k3 bt320.1 t324).bind fun t327 => (some t327)))) else (some false))) = some r := H
             have A65 := Aside0.mk A650
             clear A650
             replace H := Option.bind_eq_some_iff.mp H
             obtain ⟨t319, A660, H⟩ := H
             replace H : (if t319 = true then ((table_Table_Routes.f t315).bind fun bt320 => ((milestoneref07_Routes.f k3 t275).bind fun t324 => ((milestoneref07_SameRoutes.f k3 bt320.1 t324).bind fun t327 => (some t327)))) else (some false)) = some r := H
             have A66 := Aside0.mk A660
             clear A660
             by_cases c67 : t319 = true
             · subst c67
               have H1 : ((table_Table_Routes.f t315).bind fun bt320 => ((milestoneref07_Routes.f k3 t275).bind fun t324 => ((milestoneref07_SameRoutes.f k3 bt320.1 t324).bind fun t327 => (some t327)))) = some r := by rw [if_pos rfl] at H; exact H
               clear H
               have H := H1
               clear H1
               replace H := Option.bind_eq_some_iff.mp H
               obtain ⟨⟨t320, t323⟩, A680, H⟩ := H
               replace H : ((milestoneref07_Routes.f k3 t275).bind fun t324 => ((milestoneref07_SameRoutes.f k3 t320 t324).bind fun t327 => (some t327))) = some r := H
               have A68 := Aside0.mk A680
               clear A680
               replace H := Option.bind_eq_some_iff.mp H
               obtain ⟨t324, A690, H⟩ := H
               replace H : ((milestoneref07_SameRoutes.f k3 t320 t324).bind fun t327 => (some t327)) = some r := H
               have A69 := Aside0.mk A690
               clear A690
               replace H := Option.bind_eq_some_iff.mp H
               obtain ⟨t327, A700, H⟩ := H
               replace H : (some t327) = some r := H
               have A70 := Aside0.mk A700
               clear A700
               obtain rfl := Option.some.inj H
               simp only [Option.some.injEq, Prod.mk.injEq] at H
               obtain ⟨rfl⟩ := H
               go_wp2_with (first | ((with_reducible refine gate_callee (f := 14) rfl ?_); refine goesL_ (some 84) rfl rfl Try.func14 (by kernel_rfl) rfl #[.pointer (some ⟨g279, 0, none⟩)] rfl (by (try simp only [List.map_toArray, List.map_cons, List.map_nil]); first | rfl | (refine qa_arr ?_; (repeat' (first | rfl | refine qa_cons ?_ ?_ | refine qa_int ?_ | refine qa_agg ?_ | refine qa_arr ?_ | omega)); done)) ?_; (with_reducible refine (table_Table_Rows.calls g279 x280000_3 t312 t315 w _ ?side1 ?side2 A64.out).mono ?_); (case side1 => repeat (first | (with_reducible first | exact HI279.out | apply IsS70.set_0))); (case side2 => repeat (first | (with_reducible first | exact HB.out | refine below_set ?_ (IsS70.ge HI279.out)))); rintro e w71 ⟨v313, rfl, ho0, hi, hb, hk⟩; refine ⟨_, rfl, ?_⟩; have n0_ := Aside0.mk (Kd.R_below (by exact HO_3.out) hk); have n1_ := Aside0.mk (Kd.R_lower ho0 (below_size (by repeat (first | (with_reducible first | exact HB.out | refine below_set ?_ (IsS70.ge HI279.out)))))); have n2_ := Aside0.mk (hb); have n3_ := Aside0.mk (hi); clear HO_3; clear HB; clear HI279; have HO_3 := n0_; have HO314 := n1_; have HB := n2_; have HI279 := n3_; clear n0_ n1_ n2_ n3_; (try clear hb); (try clear hb2); (try clear hk); (try clear hi); (try clear ho0)) | ((with_reducible refine gate_callee (f := 15) rfl ?_); refine goesL_ (some 86) rfl rfl Try.func15 (by kernel_rfl) rfl #[.slice Ao15 t275.length co15] rfl (by (try simp only [List.map_toArray, List.map_cons, List.map_nil]); first | rfl | (refine qa_arr ?_; (repeat' (first | rfl | refine qa_cons ?_ ?_ | refine qa_int ?_ | refine qa_agg ?_ | refine qa_arr ?_ | omega)); done)) ?_; (with_reducible refine (milestoneref07_Rows.calls k3 _ _ t275 t316 _ ?side1 ?side2 A65.out).mono ?_); (case side1 => repeat (first | exact (Kd.R_reads' HO_3.out).2.2 | (with_reducible refine Kd.C_drew ?_))); (case side2 => exact (Kd.R_reads' HO_3.out).2.1); rintro e w72 ⟨v317, rfl, ho0, hb⟩; refine ⟨_, rfl, ?_⟩; have n0_ := Aside0.mk (Kd.R_below (by exact HO_3.out) hb); have n1_ := Aside0.mk (Kd.R_elder' (by exact HO314.out) (Kd.R_base ho0) hb); have n2_ := Aside0.mk (Kd.R_lower (Kd.R_new' ho0 (Kd.R_lt (by exact HO314.out))) (below_size (by repeat (first | (with_reducible first | exact HB.out | refine below_set ?_ (IsS70.ge HI279.out)))))); have n3_ := Aside0.mk (IsS70.below (by repeat (first | (with_reducible first | exact HI279.out | apply IsS70.set_0))) hb); have n4_ := Aside0.mk (below_step (by repeat (first | (with_reducible first | exact HB.out | refine below_set ?_ (IsS70.ge HI279.out)))) hb); clear HO_3; clear HO314; clear HI279; clear HB; have HO_3 := n0_; have HO314 := n1_; have HO318 := n2_; have HI279 := n3_; have HB := n4_; clear n0_ n1_ n2_ n3_ n4_; (try clear hb); (try clear hb2); (try clear hk); (try clear hi); (try clear ho0); obtain ⟨Ao73, co73, eo73⟩ := Kd.R_slice HO314.out; subst eo73; obtain ⟨Ao74, co74, eo74⟩ := Kd.R_slice HO318.out; subst eo74) | ((with_reducible refine gate_callee (f := 13) rfl ?_); refine goesL_ (some 87) rfl rfl Try.func13 (by kernel_rfl) rfl #[.slice Ao73 t312.length co73, .slice Ao74 t316.length co74] rfl (by (try simp only [List.map_toArray, List.map_cons, List.map_nil]); first | rfl | (refine qa_arr ?_; (repeat' (first | rfl | refine qa_cons ?_ ?_ | refine qa_int ?_ | refine qa_agg ?_ | refine qa_arr ?_ | omega)); done)) ?_; (with_reducible refine (milestoneref07_SameRows.calls k3 _ _ t312 _ _ t316 true _ ?side1 ?side2 ?side3 ?side4 A66.out).mono ?_); (case side1 => repeat (first | exact (Kd.R_reads' HO314.out).2.2 | (with_reducible refine Kd.C_drew ?_))); (case side2 => exact (Kd.R_reads' HO314.out).2.1); (case side3 => repeat (first | exact (Kd.R_reads' HO318.out).2.2 | (with_reducible refine Kd.C_drew ?_))); (case side4 => exact (Kd.R_reads' HO318.out).2.1); rintro e w' ⟨rfl, ⟨nd, rfl⟩⟩; refine ⟨_, rfl, ?_⟩) | (go_at_call 17; (with_reducible refine (table_Table_Routes.calls g279 t315 t320 t323 w _ ?side1 ?side2 A68.out).mono ?_); (case side1 => repeat (first | (with_reducible first | exact HI279.out | apply IsS70.drewN | apply IsS70.set_0))); (case side2 => repeat (first | (with_reducible first | exact HB.out | apply pw_below_drewN | refine below_set ?_ (IsS70.ge HI279.out)))); rintro e w75 ⟨v321, rfl, ho0, hi, hb, hk⟩; have n0_ := Aside0.mk (Kd.R_below (by (with_reducible repeat (first | apply Kd.R_drewN)); exact HO_3.out) hk); have n1_ := Aside0.mk (Kd.R_below (by (with_reducible repeat (first | apply Kd.R_drewN)); exact HO314.out) hk); have n2_ := Aside0.mk (Kd.R_below (by (with_reducible repeat (first | apply Kd.R_drewN)); exact HO318.out) hk); have n3_ := Aside0.mk (Kd.R_lower ho0 (below_size (by repeat (first | (with_reducible first | exact HB.out | apply pw_below_drewN | refine below_set ?_ (IsS70.ge HI279.out)))))); have n4_ := Aside0.mk (hb); have n5_ := Aside0.mk (hi); clear HO_3; clear HO314; clear HO318; clear HB; clear HI279; have HO_3 := n0_; have HO314 := n1_; have HO318 := n2_; have HO322 := n3_; have HB := n4_; have HI279 := n5_; clear n0_ n1_ n2_ n3_ n4_ n5_; (try clear hb); (try clear hb2); (try clear hk); (try clear hi); (try clear ho0)) | (go_at_call 18; (with_reducible refine (milestoneref07_Routes.calls k3 _ _ t275 t324 _ ?side1 ?side2 A69.out).mono ?_); (case side1 => repeat (first | exact (Kd.R_reads' HO_3.out).2.2 | (with_reducible refine Kd.C_drew ?_))); (case side2 => exact (Kd.R_reads' HO_3.out).2.1); rintro e w76 ⟨v325, rfl, ho0, hb⟩; have n0_ := Aside0.mk (Kd.R_below (by exact HO_3.out) hb); have n1_ := Aside0.mk (Kd.R_below (by exact HO314.out) hb); have n2_ := Aside0.mk (Kd.R_below (by exact HO318.out) hb); have n3_ := Aside0.mk (Kd.R_elder' (by exact HO322.out) (Kd.R_base ho0) hb); have n4_ := Aside0.mk (Kd.R_lower (Kd.R_new' ho0 (Kd.R_lt (by exact HO322.out))) (below_size (by repeat (first | (with_reducible first | exact HB.out | refine below_set ?_ (IsS70.ge HI279.out)))))); have n5_ := Aside0.mk (IsS70.below (by repeat (first | (with_reducible first | exact HI279.out | apply IsS70.set_0))) hb); have n6_ := Aside0.mk (below_step (by repeat (first | (with_reducible first | exact HB.out | refine below_set ?_ (IsS70.ge HI279.out)))) hb); clear HO_3; clear HO314; clear HO318; clear HO322; clear HI279; clear HB; have HO_3 := n0_; have HO314 := n1_; have HO318 := n2_; have HO322 := n3_; have HO326 := n4_; have HI279 := n5_; have HB := n6_; clear n0_ n1_ n2_ n3_ n4_ n5_ n6_; (try clear hb); (try clear hb2); (try clear hk); (try clear hi); (try clear ho0); obtain ⟨Ao77, co77, eo77⟩ := Kd.R_slice HO322.out; subst eo77; obtain ⟨Ao78, co78, eo78⟩ := Kd.R_slice HO326.out; subst eo78) | (go_at_call 16; (with_reducible refine (milestoneref07_SameRoutes.calls k3 _ _ t320 _ _ t324 t327 _ ?side1 ?side2 ?side3 ?side4 A70.out).mono ?_); (case side1 => repeat (first | exact (Kd.R_reads' HO322.out).2.2 | (with_reducible refine Kd.C_drew ?_))); (case side2 => exact (Kd.R_reads' HO322.out).2.1); (case side3 => repeat (first | exact (Kd.R_reads' HO326.out).2.2 | (with_reducible refine Kd.C_drew ?_))); (case side4 => exact (Kd.R_reads' HO326.out).2.1); rintro e w' ⟨rfl, ⟨nd, rfl⟩⟩) | (go_at_call 13; (with_reducible refine (milestoneref07_SameRows.calls k3 _ _ t312 _ _ t316 true _ ?side1c ?side2c ?side3c ?side4c A66.out).mono ?_); (case side1c => repeat (first | exact (Kd.R_reads' HO314.out).2.2 | (with_reducible refine Kd.C_alloc ?_ _) | (with_reducible refine Kd.C_drewN ?_ _) | (with_reducible refine Kd.C_drew ?_))); (case side2c => exact (Kd.R_reads' HO314.out).2.1); (case side3c => repeat (first | exact (Kd.R_reads' HO318.out).2.2 | (with_reducible refine Kd.C_alloc ?_ _) | (with_reducible refine Kd.C_drewN ?_ _) | (with_reducible refine Kd.C_drew ?_))); (case side4c => exact (Kd.R_reads' HO318.out).2.1); rintro e w' ⟨rfl, ⟨nd, rfl⟩⟩))
               go_ret
               exact ⟨by first | rfl | (simp [*, errW_none, errW_some] <;> rfl), by repeat (first | (with_reducible first | exact HB.out | apply pw_below_drewN | refine below_set ?_ (IsS70.ge HI279.out)))⟩
             · replace c67 := Bool.eq_false_iff.mpr c67
               subst c67
               have H1 : (some false) = some r := by rw [if_neg (show ¬ (false = true) by decide)] at H; exact H
               clear H
               have H := H1
               clear H1
               obtain rfl := Option.some.inj H
               exact absurd HT.out (by decide)

/-- THE ONE PURE STATEMENT of milestonelaw08_TableTells: yours. -/
def milestonelaw08_TableTells.Pure : Prop := ∀ (l0 : List (S68)), l0.length ≤ maxLen → (∀ x ∈ l0, ((Lit.int .u8 x.f0).wf = true ∧ ((Lit.int .u8 x.f1).wf = true ∧ ((Lit.int .u8 x.f2).wf = true ∧ ((Lit.int .u8 x.f3).wf = true ∧ (Lit.int .u8 x.f4).wf = true))))) → ∃ k, milestonelaw08_TableTells.f k l0 = some true
theorem milestonelaw08_TableTells.walk (P : milestonelaw08_TableTells.Pure) (a0 : Option Addr) (cap0 : Nat) (l0 : List (S68)) (w : World) (hr0 : Kd.C k68 w a0 l0.length l0) (hc0 : l0.length ≤ cap0) (hm0 : l0.length ≤ maxLen) (hw0 : ∀ x ∈ l0, ((Lit.int .u8 x.f0).wf = true ∧ ((Lit.int .u8 x.f1).wf = true ∧ ((Lit.int .u8 x.f2).wf = true ∧ ((Lit.int .u8 x.f3).wf = true ∧ (Lit.int .u8 x.f4).wf = true))))) :
 Calls Try.prog 3 #[.slice a0 l0.length cap0] w fun e w' => e = .returned (.bool true) ∧ Below w.heap.size w w' := by
 obtain ⟨k, h⟩ := P l0 hm0 hw0
 refine (milestonelaw08_TableTells.calls k _ _ l0 true w hr0 hc0 h rfl).mono ?_
 rintro e w' ⟨rfl, hd⟩
 exact ⟨rfl, hd⟩

end Go.Proofs.Ytmkjgiejnlmncaa.QTableTells
