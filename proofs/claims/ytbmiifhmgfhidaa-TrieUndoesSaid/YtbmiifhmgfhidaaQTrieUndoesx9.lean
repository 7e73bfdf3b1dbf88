-- Lines by a program of this session, for this claim.
import Derived.Test.YtbmiifhmgfhidaaQTrieUndoesx0
import Derived.Test.YtbmiifhmgfhidaaQTrieUndoesx2
import Derived.Test.YtbmiifhmgfhidaaQTrieUndoesx4
import Derived.Test.YtbmiifhmgfhidaaQTrieUndoesx5
import Derived.Test.YtbmiifhmgfhidaaQTrieUndoesx6
import Derived.Test.YtbmiifhmgfhidaaQTrieUndoesx7
import Derived.Test.YtbmiifhmgfhidaaQTrieUndoesx8
namespace Go.Proofs.Ytbmiifhmgfhidaa.QTrieUndoes
open Go.RowKit Go.Proofs.YtbmiifhmgfhidaaW.PrintWords Go.Proofs.YtbmiifhmgfhidaaW.PrintLast Go.Proofs.YtbmiifhmgfhidaaW.PrintMore
attribute [local go_sem] max2_int min2_int max_two min_two max_three min_three max_four min_four   -- for this text's walks alone
set_option linter.unusedVariables false
set_option linter.unusedSimpArgs false

attribute [local go_sem high] eqA33
/-! ### milestonelaw09_TrieUndoes: function 4 -/
mutual
def milestonelaw09_TrieUndoes.j0 : Nat → List (S30) → List (S30) → Int → Bool → Option (Bool)
  | 0, _, _, _, _ => none
  | k + 1, x0, x1, x2, x31 => if x31 = true then ((milestonelaw09_awake.f).bind fun t142 => (some t142)) else (milestonelaw09_TrieUndoes.l0 k x0 x1 x2 ([] : List (S33)) 0 (Tr.node none Tr.nil Tr.nil))
def milestonelaw09_TrieUndoes.l0 : Nat → List (S30) → List (S30) → Int → List (S33) → Int → Tr S33 → Option (Bool)
  | 0, _, _, _, _, _, _ => none
  | k + 1, x0, x1, x2, x8, x9, x144000 => if x9 < (x0.length : Int) then (if 0 ≤ x9 then ((milestonelaw09_place.f k ((rd_T30 x0 x9).f0) ((rd_T30 x0 x9).f1) ((rd_T30 x0 x9).f2) ((rd_T30 x0 x9).f3)).bind fun bt145 => ((trie_Trie_Put.f x144000 bt145.1 bt145.2 x9 0 0).bind fun bt148 => ((milestonelaw09_find.f k x8 bt145.1 bt145.2).bind fun t150 => (if t150 ≥ 0 then (if 0 ≤ t150 then (if t150 < (x8.length : Int) then (milestonelaw09_TrieUndoes.l0 k x0 x1 x2 (x8.set (t150 : Int).toNat (⟨(⟨bt145.1, bt145.2⟩ : S27), x9, 0, 0⟩ : S33)) (wrap64 (x9 + 1)) bt148.2) else (none)) else (none)) else (if x8.length < 5864062014805 then (milestonelaw09_TrieUndoes.l0 k x0 x1 x2 (x8 ++ [(⟨(⟨bt145.1, bt145.2⟩ : S27), x9, 0, 0⟩ : S33)]) (wrap64 (x9 + 1)) bt148.2) else (none)))))) else (none)) else (milestonelaw09_TrieUndoes.l1 k x1 x2 x8 0 x144000)
def milestonelaw09_TrieUndoes.l1 : Nat → List (S30) → Int → List (S33) → Int → Tr S33 → Option (Bool)
  | 0, _, _, _, _, _ => none
  | k + 1, x1, x2, x8, x12, x144000 => if x12 < (x1.length : Int) then (if 0 ≤ x12 then ((milestonelaw09_place.f k ((rd_T30 x1 x12).f0) ((rd_T30 x1 x12).f1) ((rd_T30 x1 x12).f2) ((rd_T30 x1 x12).f3)).bind fun bt156 => ((milestonelaw09_find.f k x8 bt156.1 bt156.2).bind fun t159 => (if t159 < 0 then ((trie_Trie_Put.f x144000 bt156.1 bt156.2 0 0 0).bind fun bt160 => (milestonelaw09_TrieUndoes.l1 k x1 x2 x8 (wrap64 (x12 + 1)) bt160.2)) else (milestonelaw09_TrieUndoes.l1 k x1 x2 x8 (wrap64 (x12 + 1)) x144000)))) else (none)) else (milestonelaw09_TrieUndoes.l2 k x1 x2 x8 0 x144000)
def milestonelaw09_TrieUndoes.l2 : Nat → List (S30) → Int → List (S33) → Int → Tr S33 → Option (Bool)
  | 0, _, _, _, _, _ => none
  | k + 1, x1, x2, x8, x14, x144000 => if x14 < (x1.length : Int) then (if 0 ≤ x14 then ((milestonelaw09_place.f k ((rd_T30 x1 x14).f0) ((rd_T30 x1 x14).f1) ((rd_T30 x1 x14).f2) ((rd_T30 x1 x14).f3)).bind fun bt180 => ((milestonelaw09_find.f k x8 bt180.1 bt180.2).bind fun t183 => (if t183 < 0 then ((trie_Trie_Drop.f x144000 bt180.1 bt180.2).bind fun bt184 => (milestonelaw09_TrieUndoes.l2 k x1 x2 x8 (wrap64 (x14 + 1)) bt184.2)) else (milestonelaw09_TrieUndoes.l2 k x1 x2 x8 (wrap64 (x14 + 1)) x144000)))) else (none)) else ((trie_Trie_Look.f x144000 x2).bind fun bt162 => ((milestonelaw09_longest.f k x8 x2).bind fun bt170 => ((trie_Trie_Len.f bt162.2.2.2.2.2.2).bind fun bt177 => (if bt177.1 = (x8.length : Int) then (if (bt162.2.2.2.2.2.1 == bt170.2.2.2.2.2) = true then (some ((bt162.1 == bt170.1 && (bt162.2.1 == bt170.2.1)) && (bt162.2.2.1 == bt170.2.2.1 && (bt162.2.2.2.1 == bt170.2.2.2.1 && (bt162.2.2.2.2.1 == bt170.2.2.2.2.1))))) else (some false)) else (some false)))))
end
def milestonelaw09_TrieUndoes.f (k : Nat) (l0 : List (S30)) (l1 : List (S30)) (a2 : Int) : Option (Bool) := (milestonelaw09_awake.f).bind fun t141 => (if t141 = true then (if (l0.length : Int) > 30 then (milestonelaw09_TrieUndoes.j0 k l0 l1 a2 true) else (milestonelaw09_TrieUndoes.j0 k l0 l1 a2 (decide ((l1.length : Int) > 30)))) else (milestonelaw09_TrieUndoes.j0 k l0 l1 a2 true))
theorem milestonelaw09_TrieUndoes.mono_l : ∀ k, (∀ y0 y1 y2 y3, LeO (milestonelaw09_TrieUndoes.j0 k y0 y1 y2 y3) (milestonelaw09_TrieUndoes.j0 (k + 1) y0 y1 y2 y3)) ∧ (∀ y0 y1 y2 y3 y4 y5, LeO (milestonelaw09_TrieUndoes.l0 k y0 y1 y2 y3 y4 y5) (milestonelaw09_TrieUndoes.l0 (k + 1) y0 y1 y2 y3 y4 y5)) ∧ (∀ y0 y1 y2 y3 y4, LeO (milestonelaw09_TrieUndoes.l1 k y0 y1 y2 y3 y4) (milestonelaw09_TrieUndoes.l1 (k + 1) y0 y1 y2 y3 y4)) ∧ (∀ y0 y1 y2 y3 y4, LeO (milestonelaw09_TrieUndoes.l2 k y0 y1 y2 y3 y4) (milestonelaw09_TrieUndoes.l2 (k + 1) y0 y1 y2 y3 y4))
  | 0 => ⟨fun _ _ _ _ r h => by simp [milestonelaw09_TrieUndoes.j0] at h, fun _ _ _ _ _ _ r h => by simp [milestonelaw09_TrieUndoes.l0] at h, fun _ _ _ _ _ r h => by simp [milestonelaw09_TrieUndoes.l1] at h, fun _ _ _ _ _ r h => by simp [milestonelaw09_TrieUndoes.l2] at h⟩
  | k + 1 => by
    obtain ⟨ih0, ih1, ih2, ih3⟩ := milestonelaw09_TrieUndoes.mono_l k
    refine ⟨?_, ?_, ?_, ?_⟩
    · intro y0 y1 y2 y3
      unfold milestonelaw09_TrieUndoes.j0
      repeat' first
      | (with_reducible exact ih0 _ _ _ _)
      | (with_reducible exact ih1 _ _ _ _ _ _)
      | (with_reducible exact ih2 _ _ _ _ _)
      | (with_reducible exact ih3 _ _ _ _ _)
      | (with_reducible exact milestonelaw09_find.mono _ _ _ _)
      | (with_reducible exact milestonelaw09_longest.mono _ _ _)
      | (with_reducible exact milestonelaw09_place.mono _ _ _ _ _)
      | (with_reducible exact LeO.refl _)
      | (with_reducible exact LeO.none _)
      | (with_reducible refine LeO.ite ?_ ?_)
      | (with_reducible refine LeO.bind ?_ (fun _ => ?_))
      | exact ih0 _ _ _ _
      | exact ih1 _ _ _ _ _ _
      | exact ih2 _ _ _ _ _
      | exact ih3 _ _ _ _ _
      | exact milestonelaw09_find.mono _ _ _ _
      | exact milestonelaw09_longest.mono _ _ _
      | exact milestonelaw09_place.mono _ _ _ _ _
      | exact LeO.none _
      | refine LeO.ite ?_ ?_
      | refine LeO.bind ?_ (fun _ => ?_)
    · intro y0 y1 y2 y3 y4 y5
      unfold milestonelaw09_TrieUndoes.l0
      repeat' first
      | (with_reducible exact ih0 _ _ _ _)
      | (with_reducible exact ih1 _ _ _ _ _ _)
      | (with_reducible exact ih2 _ _ _ _ _)
      | (with_reducible exact ih3 _ _ _ _ _)
      | (with_reducible exact milestonelaw09_find.mono _ _ _ _)
      | (with_reducible exact milestonelaw09_longest.mono _ _ _)
      | (with_reducible exact milestonelaw09_place.mono _ _ _ _ _)
      | (with_reducible exact LeO.refl _)
      | (with_reducible exact LeO.none _)
      | (with_reducible refine LeO.ite ?_ ?_)
      | (with_reducible refine LeO.bind ?_ (fun _ => ?_))
      | exact ih0 _ _ _ _
      | exact ih1 _ _ _ _ _ _
      | exact ih2 _ _ _ _ _
      | exact ih3 _ _ _ _ _
      | exact milestonelaw09_find.mono _ _ _ _
      | exact milestonelaw09_longest.mono _ _ _
      | exact milestonelaw09_place.mono _ _ _ _ _
      | exact LeO.none _
      | refine LeO.ite ?_ ?_
      | refine LeO.bind ?_ (fun _ => ?_)
    · intro y0 y1 y2 y3 y4
      unfold milestonelaw09_TrieUndoes.l1
      repeat' first
      | (with_reducible exact ih0 _ _ _ _)
      | (with_reducible exact ih1 _ _ _ _ _ _)
      | (with_reducible exact ih2 _ _ _ _ _)
      | (with_reducible exact ih3 _ _ _ _ _)
      | (with_reducible exact milestonelaw09_find.mono _ _ _ _)
      | (with_reducible exact milestonelaw09_longest.mono _ _ _)
      | (with_reducible exact milestonelaw09_place.mono _ _ _ _ _)
      | (with_reducible exact LeO.refl _)
      | (with_reducible exact LeO.none _)
      | (with_reducible refine LeO.ite ?_ ?_)
      | (with_reducible refine LeO.bind ?_ (fun _ => ?_))
      | exact ih0 _ _ _ _
      | exact ih1 _ _ _ _ _ _
      | exact ih2 _ _ _ _ _
      | exact ih3 _ _ _ _ _
      | exact milestonelaw09_find.mono _ _ _ _
      | exact milestonelaw09_longest.mono _ _ _
      | exact milestonelaw09_place.mono _ _ _ _ _
      | exact LeO.none _
      | refine LeO.ite ?_ ?_
      | refine LeO.bind ?_ (fun _ => ?_)
    · intro y0 y1 y2 y3 y4
      unfold milestonelaw09_TrieUndoes.l2
      repeat' first
      | (with_reducible exact ih0 _ _ _ _)
      | (with_reducible exact ih1 _ _ _ _ _ _)
      | (with_reducible exact ih2 _ _ _ _ _)
      | (with_reducible exact ih3 _ _ _ _ _)
      | (with_reducible exact milestonelaw09_find.mono _ _ _ _)
      | (with_reducible exact milestonelaw09_longest.mono _ _ _)
      | (with_reducible exact milestonelaw09_place.mono _ _ _ _ _)
      | (with_reducible exact LeO.refl _)
      | (with_reducible exact LeO.none _)
      | (with_reducible refine LeO.ite ?_ ?_)
      | (with_reducible refine LeO.bind ?_ (fun _ => ?_))
      | exact ih0 _ _ _ _
      | exact ih1 _ _ _ _ _ _
      | exact ih2 _ _ _ _ _
      | exact ih3 _ _ _ _ _
      | exact milestonelaw09_find.mono _ _ _ _
      | exact milestonelaw09_longest.mono _ _ _
      | exact milestonelaw09_place.mono _ _ _ _ _
      | exact LeO.none _
      | refine LeO.ite ?_ ?_
      | refine LeO.bind ?_ (fun _ => ?_)
theorem milestonelaw09_TrieUndoes.mono : ∀ a0 a1 a2 k, LeO (milestonelaw09_TrieUndoes.f k a0 a1 a2) (milestonelaw09_TrieUndoes.f (k + 1) a0 a1 a2) := by
  intro a0 a1 a2 k
  obtain ⟨ih0, ih1, ih2, ih3⟩ := milestonelaw09_TrieUndoes.mono_l k
  unfold milestonelaw09_TrieUndoes.f
  repeat' first
      | (with_reducible exact ih0 _ _ _ _)
      | (with_reducible exact ih1 _ _ _ _ _ _)
      | (with_reducible exact ih2 _ _ _ _ _)
      | (with_reducible exact ih3 _ _ _ _ _)
      | (with_reducible exact milestonelaw09_find.mono _ _ _ _)
      | (with_reducible exact milestonelaw09_longest.mono _ _ _)
      | (with_reducible exact milestonelaw09_place.mono _ _ _ _ _)
      | (with_reducible exact LeO.refl _)
      | (with_reducible exact LeO.none _)
      | (with_reducible refine LeO.ite ?_ ?_)
      | (with_reducible refine LeO.bind ?_ (fun _ => ?_))
      | exact ih0 _ _ _ _
      | exact ih1 _ _ _ _ _ _
      | exact ih2 _ _ _ _ _
      | exact ih3 _ _ _ _ _
      | exact milestonelaw09_find.mono _ _ _ _
      | exact milestonelaw09_longest.mono _ _ _
      | exact milestonelaw09_place.mono _ _ _ _ _
      | exact LeO.none _
      | refine LeO.ite ?_ ?_
      | refine LeO.bind ?_ (fun _ => ?_)
set_option maxHeartbeats 8000000 in
set_option maxRecDepth 100000 in
theorem milestonelaw09_TrieUndoes.calls (k : Nat) (A0 : Option Addr) (c0 : Nat) (l0 : List (S30)) (A1 : Option Addr) (c1 : Nat) (l1 : List (S30)) (a2 : Int) (r : Bool) (w : World) (hr0 : Kd.C k30 w A0 l0.length l0) (hc0 : l0.length ≤ c0) (hr1 : Kd.C k30 w A1 l1.length l1) (hc1 : l1.length ≤ c1) (h : milestonelaw09_TrieUndoes.f k l0 l1 a2 = some r) (hT : r = true) :
    Calls Try.prog 4 #[.slice A0 l0.length c0, .slice A1 l1.length c1, .int .u32 a2] w fun e w' => e = .returned (.bool r) ∧ Below w.heap.size w w' := by
  have HT := Aside0.mk hT
  clear hT
  have hu46 := Try.underlying46
  have hu30 := Try.underlying30
  have hu33 := Try.underlying33
  have hu27 := Try.underlying27
  have HR0 := Aside0.mk hr0
  have HC0 := Aside0.mk hc0
  clear hr0 hc0
  have HR1 := Aside0.mk hr1
  have HC1 := Aside0.mk hc1
  clear hr1 hc1
  have HB := Aside0.mk (Below.refl w.heap.size w)
  have H : ((milestonelaw09_awake.f).bind fun t141 => (if t141 = true then (if (l0.length : Int) > 30 then (milestonelaw09_TrieUndoes.j0 k l0 l1 a2 true) else (milestonelaw09_TrieUndoes.j0 k l0 l1 a2 (decide ((l1.length : Int) > 30)))) else (milestonelaw09_TrieUndoes.j0 k l0 l1 a2 true))) = some r := h
  clear h
  have HC4 := Aside0.mk H
  clear H
  go_enter Try.func4, Try.ntmps4
  go_upto_region 1 with (fail)
  go_cut [31] (fun v31 wc => ∃ (kq : Nat) (x31_3 : Bool), v31 = .bool x31_3 ∧ Aside0 (milestonelaw09_TrieUndoes.j0 kq l0 l1 a2 x31_3 = some r) ∧ Aside0 (kq ≤ k) ∧ Aside0 (Below w.heap.size w wc))
  case first =>
    have H := HC4.out
    clear HC4
    replace H := Option.bind_eq_some_iff.mp H
    obtain ⟨t141, A50, H⟩ := H
    replace H : (if t141 = true then (if (l0.length : Int) > 30 then (milestonelaw09_TrieUndoes.j0 k l0 l1 a2 true) else (milestonelaw09_TrieUndoes.j0 k l0 l1 a2 (decide ((l1.length : Int) > 30)))) else (milestonelaw09_TrieUndoes.j0 k l0 l1 a2 true)) = some r := H
    have A5 := Aside0.mk A50
    clear A50
    by_cases c6 : t141 = true
    · subst c6
      have H1 : (if (l0.length : Int) > 30 then (milestonelaw09_TrieUndoes.j0 k l0 l1 a2 true) else (milestonelaw09_TrieUndoes.j0 k l0 l1 a2 (decide ((l1.length : Int) > 30)))) = some r := by rw [if_pos rfl] at H; exact H
      clear H
      have H := H1
      clear H1
      by_cases c7 : (l0.length : Int) > 30
      · rw [if_pos c7] at H
        have c7b0 : decide (30 < (l0.length : Int)) = true := decide_eq_true c7
        have c7b1 : decide (30 < l0.length) = true := decide_eq_true (by omega)
        clear c7
        (first | rw [c7b0] | (simp only [i64_w, i32_w]; rw [c7b0]) | skip)
        have H' := Aside0.mk H
        clear H
        go_wp2_with (first | ((with_reducible refine gate_callee (f := 7) rfl ?_); refine goesL_ (some 20) rfl rfl Try.func7 (by kernel_rfl) rfl #[] rfl (by (try simp only [List.map_toArray, List.map_cons, List.map_nil]); first | done | rfl | (simp only [List.length_drop, List.length_take]; rfl) | (simp; done) | (refine qa_arr ?_; (repeat' (first | rfl | refine qa_cons ?_ ?_ | refine qa_int ?_ | refine qa_agg ?_ | refine qa_arr ?_ | omega)); done)) ?_; (with_reducible refine (milestonelaw09_awake.calls  true _ A5.out).mono ?_); rintro e w8 ⟨rfl, hb⟩; refine ⟨_, rfl, ?_⟩; have n0_ := Aside0.mk (below_step (by repeat (first | (with_reducible first | exact HB.out | apply below_alloc | apply pw_below_drewN | apply below_drew1) | exact HB.out)) hb); clear HB; have HB := n0_; clear n0_; (try clear hb); (try clear hb2); (try clear hk); (try clear hi)))
        go_meet
        case rel => exact ⟨_, (true), (by first | rfl | (simp; done) | (simp [*]; done) | (refine qa_int ?_; omega) | (refine qa_int ?_; simp <;> omega)), H', ⟨by first | omega | exact Nat.le_refl _⟩, ⟨by repeat (first | (with_reducible first | exact HB.out | apply below_alloc | apply pw_below_drewN | apply below_drew1) | exact HB.out)⟩⟩
      · rw [if_neg c7] at H
        have c7b0 : decide (30 < (l0.length : Int)) = false := decide_eq_false c7
        have c7b1 : decide (30 < l0.length) = false := decide_eq_false (by omega)
        clear c7
        (first | rw [c7b0] | (simp only [i64_w, i32_w]; rw [c7b0]) | skip)
        have H' := Aside0.mk H
        clear H
        go_wp2_with (first | ((with_reducible refine gate_callee (f := 7) rfl ?_); refine goesL_ (some 20) rfl rfl Try.func7 (by kernel_rfl) rfl #[] rfl (by (try simp only [List.map_toArray, List.map_cons, List.map_nil]); first | done | rfl | (simp only [List.length_drop, List.length_take]; rfl) | (simp; done) | (refine qa_arr ?_; (repeat' (first | rfl | refine qa_cons ?_ ?_ | refine qa_int ?_ | refine qa_agg ?_ | refine qa_arr ?_ | omega)); done)) ?_; (with_reducible refine (milestonelaw09_awake.calls  true _ A5.out).mono ?_); rintro e w9 ⟨rfl, hb⟩; refine ⟨_, rfl, ?_⟩; have n0_ := Aside0.mk (below_step (by repeat (first | (with_reducible first | exact HB.out | apply below_alloc | apply pw_below_drewN | apply below_drew1) | exact HB.out)) hb); clear HB; have HB := n0_; clear n0_; (try clear hb); (try clear hb2); (try clear hk); (try clear hi)))
        go_meet
        case rel => exact ⟨_, (decide ((l1.length : Int) > 30)), (by first | rfl | (simp; done) | (simp [*]; done) | (refine qa_int ?_; omega) | (refine qa_int ?_; simp <;> omega)), H', ⟨by first | omega | exact Nat.le_refl _⟩, ⟨by repeat (first | (with_reducible first | exact HB.out | apply below_alloc | apply pw_below_drewN | apply below_drew1) | exact HB.out)⟩⟩
    · replace c6 := Bool.eq_false_iff.mpr c6
      subst c6
      have H1 : (milestonelaw09_TrieUndoes.j0 k l0 l1 a2 true) = some r := by rw [if_neg (show ¬ (false = true) by decide)] at H; exact H
      clear H
      have H := H1
      clear H1
      have H' := Aside0.mk H
      clear H
      go_wp2_with (first | ((with_reducible refine gate_callee (f := 7) rfl ?_); refine goesL_ (some 20) rfl rfl Try.func7 (by kernel_rfl) rfl #[] rfl (by (try simp only [List.map_toArray, List.map_cons, List.map_nil]); first | done | rfl | (simp only [List.length_drop, List.length_take]; rfl) | (simp; done) | (refine qa_arr ?_; (repeat' (first | rfl | refine qa_cons ?_ ?_ | refine qa_int ?_ | refine qa_agg ?_ | refine qa_arr ?_ | omega)); done)) ?_; (with_reducible refine (milestonelaw09_awake.calls  false _ A5.out).mono ?_); rintro e w10 ⟨rfl, hb⟩; refine ⟨_, rfl, ?_⟩; have n0_ := Aside0.mk (below_step (by repeat (first | (with_reducible first | exact HB.out | apply below_alloc | apply pw_below_drewN | apply below_drew1) | exact HB.out)) hb); clear HB; have HB := n0_; clear n0_; (try clear hb); (try clear hb2); (try clear hk); (try clear hi)))
      go_meet
      case rel => exact ⟨_, (true), (by first | rfl | (simp; done) | (simp [*]; done) | (refine qa_int ?_; omega) | (refine qa_int ?_; simp <;> omega)), H', ⟨by first | omega | exact Nat.le_refl _⟩, ⟨by repeat (first | (with_reducible first | exact HB.out | apply below_alloc | apply pw_below_drewN | apply below_drew1) | exact HB.out)⟩⟩
  case rest =>
    clear HC4
    try clear c1
    try clear p2
    try clear c4
    try clear c6
    try clear c7
    try clear c7b0
    try clear c7b1
    obtain ⟨kq, x31_3, rfl, HA, HJ3, HB⟩ := hcut
    cases kq with
    | zero => exact absurd HA.out (by simp [milestonelaw09_TrieUndoes.j0])
    | succ kj3 =>
      have H := HA.out
      clear HA
      simp only [milestonelaw09_TrieUndoes.j0] at H
      by_cases c11 : x31_3 = true
      · subst c11
        have H1 : ((milestonelaw09_awake.f).bind fun t142 => (some t142)) = some r := by rw [if_pos rfl] at H; exact H
        clear H
        have H := H1
        clear H1
        replace H := Option.bind_eq_some_iff.mp H
        obtain ⟨t142, A120, H⟩ := H
        replace H : (some t142) = some r := H
        have A12 := Aside0.mk A120
        clear A120
        obtain rfl := Option.some.inj H
        simp only [Option.some.injEq, Prod.mk.injEq] at H
        obtain ⟨rfl⟩ := H
        go_wp2_with (first | ((with_reducible refine gate_callee (f := 7) rfl ?_); refine goesL_ (some 32) rfl rfl Try.func7 (by kernel_rfl) rfl #[] rfl (by (try simp only [List.map_toArray, List.map_cons, List.map_nil]); first | done | rfl | (simp only [List.length_drop, List.length_take]; rfl) | (simp; done) | (refine qa_arr ?_; (repeat' (first | rfl | refine qa_cons ?_ ?_ | refine qa_int ?_ | refine qa_agg ?_ | refine qa_arr ?_ | omega)); done)) ?_; (with_reducible refine (milestonelaw09_awake.calls  t142 _ A12.out).mono ?_); rintro e w13 ⟨rfl, hb⟩; refine ⟨_, rfl, ?_⟩; have n0_ := Aside0.mk (below_step (by repeat (first | (with_reducible first | exact HB.out | apply below_alloc | apply pw_below_drewN | apply below_drew1) | exact HB.out)) hb); clear HB; have HB := n0_; clear n0_; (try clear hb); (try clear hb2); (try clear hk); (try clear hi)))
        go_ret
        exact ⟨by first | rfl | (simp [errW_none, errW_some] <;> rfl) | (simp [*, errW_none, errW_some] <;> rfl), by repeat (first | (with_reducible first | exact HB.out | apply below_alloc | apply pw_below_drewN | apply below_drew1) | exact HB.out)⟩
      · replace c11 := Bool.eq_false_iff.mpr c11
        subst c11
        have H1 : (milestonelaw09_TrieUndoes.l0 kj3 l0 l1 a2 ([] : List (S33)) 0 (Tr.node none Tr.nil Tr.nil)) = some r := by rw [if_neg (show ¬ (false = true) by decide)] at H; exact H
        clear H
        have H := H1
        clear H1
        have H' := Aside0.mk H
        clear H
        go_wp2_with (first | ((with_reducible refine gate_dst (N := 34) rfl ?_); (try (refine gate_guard (by rfl) ?_; dsimp only)); refine box_event ?hg (N := 34) ?hd (cs := #[.bool false, .int .u32 0, .int .u8 0, .int .i64 0, .int .u16 0, .int .u16 0, .pointer none, .pointer none, .int .i64 0]) (t := 46) ?hr ?_; (case hd => rfl); (case hg => rfl); (case hr => first | (go_simp; done) | (go_simp; rfl)); intro g143 hg w14 hbox hb; have n0_ := Aside0.mk (below_step (by repeat (first | (with_reducible first | exact HB.out | apply below_alloc | apply pw_below_drewN | apply below_drew1) | exact HB.out)) hb); have n1_ := Aside0.mk (IsS46.mk0 hbox (by rw [hg]; exact (below_size (by repeat (first | (with_reducible first | exact HB.out | apply below_alloc | apply pw_below_drewN | apply below_drew1) | exact HB.out))))); clear HB; have HB := n0_; have HI143 := n1_; clear n0_ n1_; clear hb hbox hg))
        go_loopg [8, 9] kj3 (fun kq v8 v9 w' => ∃ (x8_2 : List (S33)) (x9_2 : Int) (x144000_2 : Tr S33), v9 = .int .i64 x9_2 ∧ Aside0 (milestonelaw09_TrieUndoes.l0 kq l0 l1 a2 x8_2 x9_2 x144000_2 = some r) ∧ Aside0 (kq ≤ kj3) ∧ Aside0 (Kd.R k33 33 w' w.heap.size (fun _ => True) v8 x8_2) ∧ Aside0 (IsS46 w w' g143 x144000_2) ∧ Aside0 (Below w.heap.size w w'))
        case atStart => exact ⟨(([] : List (S33))), (0), ((Tr.node none Tr.nil Tr.nil)), (by first | rfl | (simp; done) | (simp [*]; done) | (refine qa_int ?_; omega) | (refine qa_int ?_; simp <;> omega)), H', ⟨Nat.le_refl _⟩, ⟨by first | exact Kd.R_nil _ _ _ _ _ | exact Kd.N_nil _ _ _ _ _ | exact Kd.V_nil _ _ _ _ _ | exact Kd.Q_nil _ _ _ _ _ | exact Kd.S_nil _ _ _ _ _⟩, ⟨by repeat (first | (with_reducible first | exact HI143.out | apply IsS46.alloc | apply IsS46.drewN | apply IsS46.drew | apply IsS46.set_0) | exact HI143.out)⟩, ⟨by repeat (first | (with_reducible first | exact HB.out | apply below_alloc | apply pw_below_drewN | apply below_drew1 | refine below_set ?_ (IsS46.ge HI143.out)) | exact HB.out)⟩⟩
        case round =>
          clear H'
          try clear c1
          try clear p2
          try clear c4
          try clear c6
          try clear c7
          try clear c7b0
          try clear c7b1
          try clear c11
          try clear p2
          obtain ⟨x8_2, x9_2, x144000_2, rfl, HA, HK2, HO_8, HI143, HB⟩ := hrel
          cases gk with
          | zero => exact absurd HA.out (by simp [milestonelaw09_TrieUndoes.l0])
          | succ k2 =>
            have H := HA.out
            clear HA
            simp only [milestonelaw09_TrieUndoes.l0] at H
            by_cases c15 : x9_2 < (l0.length : Int)
            · rw [if_pos c15] at H
              have c15b0 : decide (x9_2 < (l0.length : Int)) = true := decide_eq_true c15
              clear c15
              by_cases c16 : 0 ≤ x9_2
              · rw [if_pos c16] at H
                have c16b0 : decide (0 ≤ x9_2) = true := decide_eq_true c16
                clear c16
                replace H := Option.bind_eq_some_iff.mp H
                obtain ⟨⟨t145, t146⟩, A170, H⟩ := H
                replace H : ((trie_Trie_Put.f x144000_2 t145 t146 x9_2 0 0).bind fun bt148 => ((milestonelaw09_find.f k2 x8_2 t145 t146).bind fun t150 => (if t150 ≥ 0 then (if 0 ≤ t150 then (if t150 < (x8_2.length : Int) then (milestonelaw09_TrieUndoes.l0 k2 l0 l1 a2 (x8_2.set (t150 : Int).toNat (⟨(⟨t145, t146⟩ : S27), x9_2, 0, 0⟩ : S33)) (wrap64 (x9_2 + 1)) bt148.2) else (none)) else (none)) else (if x8_2.length < 5864062014805 then (milestonelaw09_TrieUndoes.l0 k2 l0 l1 a2 (x8_2 ++ [(⟨(⟨t145, t146⟩ : S27), x9_2, 0, 0⟩ : S33)]) (wrap64 (x9_2 + 1)) bt148.2) else (none))))) = some r := H
                have A17 := Aside0.mk A170
                clear A170
                replace H := Option.bind_eq_some_iff.mp H
                obtain ⟨⟨t148, t149⟩, A180, H⟩ := H
                replace H : ((milestonelaw09_find.f k2 x8_2 t145 t146).bind fun t150 => (if t150 ≥ 0 then (if 0 ≤ t150 then (if t150 < (x8_2.length : Int) then (milestonelaw09_TrieUndoes.l0 k2 l0 l1 a2 (x8_2.set (t150 : Int).toNat (⟨(⟨t145, t146⟩ : S27), x9_2, 0, 0⟩ : S33)) (wrap64 (x9_2 + 1)) t149) else (none)) else (none)) else (if x8_2.length < 5864062014805 then (milestonelaw09_TrieUndoes.l0 k2 l0 l1 a2 (x8_2 ++ [(⟨(⟨t145, t146⟩ : S27), x9_2, 0, 0⟩ : S33)]) (wrap64 (x9_2 + 1)) t149) else (none)))) = some r := H
                have A18 := Aside0.mk A180
                clear A180
                replace H := Option.bind_eq_some_iff.mp H
                obtain ⟨t150, A190, H⟩ := H
                replace H : (if t150 ≥ 0 then (if 0 ≤ t150 then (if t150 < (x8_2.length : Int) then (milestonelaw09_TrieUndoes.l0 k2 l0 l1 a2 (x8_2.set (t150 : Int).toNat (⟨(⟨t145, t146⟩ : S27), x9_2, 0, 0⟩ : S33)) (wrap64 (x9_2 + 1)) t149) else (none)) else (none)) else (if x8_2.length < 5864062014805 then (milestonelaw09_TrieUndoes.l0 k2 l0 l1 a2 (x8_2 ++ [(⟨(⟨t145, t146⟩ : S27), x9_2, 0, 0⟩ : S33)]) (wrap64 (x9_2 + 1)) t149) else (none))) = some r := H
                have A19 := Aside0.mk A190
                clear A190
                by_cases c20 : t150 ≥ 0
                · rw [if_pos c20] at H
                  have c20b0 : decide (0 ≤ t150) = true := decide_eq_true c20
                  clear c20
                  by_cases c21 : 0 ≤ t150
                  · rw [if_pos c21] at H
                    have c21b0 : decide (0 ≤ t150) = true := decide_eq_true c21
                    clear c21
                    by_cases c22 : t150 < (x8_2.length : Int)
                    · rw [if_pos c22] at H
                      have c22b0 : decide (t150 < (x8_2.length : Int)) = true := decide_eq_true c22
                      clear c22
                      obtain ⟨y151, hy151⟩ : ∃ y_ : List (S33), y_ = (x8_2.set (t150 : Int).toNat (⟨(⟨t145, t146⟩ : S27), x9_2, 0, 0⟩ : S33)) := ⟨_, rfl⟩
                      replace H : (milestonelaw09_TrieUndoes.l0 k2 l0 l1 a2 y151 (wrap64 (x9_2 + 1)) t149) = some r := by first | (rw [hy151]; with_reducible exact H) | (have H2_ := (Option.bind_some _ _).symm.trans H; rw [hy151]; with_reducible exact H2_) | (have H2_ := (Option.bind_some _ _).symm.trans H; with_reducible exact H2_) | with_reducible exact H | (rw [hy151]; exact H) | exact H
                      have Ny151 := Aside0.mk hy151
                      clear hy151
                      have H' := Aside0.mk H
                      clear H
                      have p144 : 0 ≤ (x9_2 : Int) := of_decide_eq_true (by first | (with_reducible assumption) | assumption)
                      have q144 : x9_2 < (l0.length : Int) := of_decide_eq_true (by first | (with_reducible assumption) | assumption)
                      obtain ⟨ad144, e144, hx144_0, hx144_1, hx144_2, hx144_3⟩ := at_T30 HR0.out x9_2 p144 q144
                      cases e144
                      replace hx144_0 := (HB.out.cell (World.block_lt_of_cell? w _ hx144_0)).trans hx144_0
                      replace hx144_1 := (HB.out.cell (World.block_lt_of_cell? w _ hx144_1)).trans hx144_1
                      replace hx144_2 := (HB.out.cell (World.block_lt_of_cell? w _ hx144_2)).trans hx144_2
                      replace hx144_3 := (HB.out.cell (World.block_lt_of_cell? w _ hx144_3)).trans hx144_3
                      replace p144 := eq_true p144
                      replace q144 := eq_true q144
                      go_wp2_with (first | ((with_reducible refine gate_callee (f := 8) rfl ?_); refine goesL_ (some 45) rfl rfl Try.func8 (by kernel_rfl) rfl #[.agg #[.int .u8 ((rd_T30 l0 x9_2).f0), .int .u32 ((rd_T30 l0 x9_2).f1), .int .u8 ((rd_T30 l0 x9_2).f2), .int .u8 ((rd_T30 l0 x9_2).f3)]] rfl (by (try simp only [List.map_toArray, List.map_cons, List.map_nil]); first | done | rfl | (simp only [List.length_drop, List.length_take]; rfl) | (simp; done) | (refine qa_arr ?_; (repeat' (first | rfl | refine qa_cons ?_ ?_ | refine qa_int ?_ | refine qa_agg ?_ | refine qa_arr ?_ | omega)); done)) ?_; (with_reducible refine (milestonelaw09_place.calls k2 ((rd_T30 l0 x9_2).f0) ((rd_T30 l0 x9_2).f1) ((rd_T30 l0 x9_2).f2) ((rd_T30 l0 x9_2).f3) t145 t146 _ A17.out).mono ?_); rintro e w24 ⟨rfl, hb⟩; refine ⟨_, rfl, ?_⟩; have n0_ := Aside0.mk (Kd.R_below (by (with_reducible repeat (first | apply Kd.R_alloc | apply Kd.R_drewN | apply Kd.R_drew)); exact HO_8.out) hb); have n1_ := Aside0.mk (IsS46.below (by repeat (first | (with_reducible first | exact HI143.out | apply IsS46.alloc | apply IsS46.drewN | apply IsS46.drew | apply IsS46.set_0) | exact HI143.out)) hb); have n2_ := Aside0.mk (below_step (by repeat (first | (with_reducible first | exact HB.out | apply below_alloc | apply pw_below_drewN | apply below_drew1 | refine below_set ?_ (IsS46.ge HI143.out)) | exact HB.out)) hb); clear HO_8; clear HI143; clear HB; have HO_8 := n0_; have HI143 := n1_; have HB := n2_; clear n0_ n1_ n2_; (try clear hb); (try clear hb2); (try clear hk); (try clear hi)) | ((with_reducible refine gate_dst (N := 10) rfl ?_); (try (refine gate_guard (by rfl) ?_; dsimp only)); refine box_event ?hg (N := 10) ?hd (cs := #[.int .u32 0, .int .u8 0, .int .i64 0, .int .u16 0, .int .u16 0]) (t := 33) ?hr ?_; (case hd => rfl); (case hg => rfl); (case hr => first | (go_simp; done) | (go_simp; rfl)); intro gb147 hg w25 hbox hb; have n0_ := Aside0.mk (Kd.R_below (Kd.R_elderB (by (with_reducible repeat (first | apply Kd.R_alloc | apply Kd.R_drewN | apply Kd.R_drew)); exact HO_8.out) gb147 (Nat.le_of_eq hg.symm)) hb); have n1_ := Aside0.mk (IsS46.below (by repeat (first | (with_reducible first | exact HI143.out | apply IsS46.alloc | apply IsS46.drewN | apply IsS46.drew | apply IsS46.set_0) | exact HI143.out)) hb); have n2_ := Aside0.mk (below_step (by repeat (first | (with_reducible first | exact HB.out | apply below_alloc | apply pw_below_drewN | apply below_drew1 | refine below_set ?_ (IsS46.ge HI143.out)) | exact HB.out)) hb); have n3_ := Aside0.mk (hbox); have n4_ := Aside0.mk ((by rw [hg]; exact (below_size (by repeat (first | (with_reducible first | exact HB.out | apply below_alloc | apply pw_below_drewN | apply below_drew1 | refine below_set ?_ (IsS46.ge HI143.out)) | exact HB.out))) : w.heap.size ≤ gb147)); have n5_ := Aside0.mk ((by rw [hg]; exact (below_size (by repeat (first | (with_reducible first | exact HB.out | apply below_alloc | apply pw_below_drewN | apply below_drew1 | refine below_set ?_ (IsS46.ge HI143.out)) | exact HB.out))) : w.heap.size ≤ gb147)); have n6_ := Aside0.mk ((by rw [hg]; exact Nat.ne_of_lt (IsS46.lt (show IsS46 w _ g143 x144000_2 from by repeat (first | (with_reducible first | exact HI143.out | apply IsS46.alloc | apply IsS46.drewN | apply IsS46.drew | apply IsS46.set_0) | exact HI143.out))) : g143 ≠ gb147)); have n7_ := Aside0.mk ((by rw [hg]; exact Nat.ne_of_gt (IsS46.lt (show IsS46 w _ g143 x144000_2 from by repeat (first | (with_reducible first | exact HI143.out | apply IsS46.alloc | apply IsS46.drewN | apply IsS46.drew | apply IsS46.set_0) | exact HI143.out))) : gb147 ≠ g143)); clear HO_8; clear HI143; clear HB; have HO_8 := n0_; have HI143 := n1_; have HB := n2_; have BK147 := n3_; have GW147 := n4_; have GE147 := n5_; have NB143_147 := n6_; have NB147_143 := n7_; clear n0_ n1_ n2_ n3_ n4_ n5_ n6_ n7_; clear hb hbox hg; have hnb26 := NB147_143.out; have hnc26 := NB143_147.out; have hcz27_0 : w25.cell? ⟨gb147, 0, none⟩ = some (.int .u32 0) := (blk_cell BK147.out 0).trans rfl; have hcz27_1 : w25.cell? ⟨gb147, 1, none⟩ = some (.int .u8 0) := (blk_cell BK147.out 1).trans rfl; have hcz27_2 : w25.cell? ⟨gb147, 2, none⟩ = some (.int .i64 0) := (blk_cell BK147.out 2).trans rfl; have hcz27_3 : w25.cell? ⟨gb147, 3, none⟩ = some (.int .u16 0) := (blk_cell BK147.out 3).trans rfl; have hcz27_4 : w25.cell? ⟨gb147, 4, none⟩ = some (.int .u16 0) := (blk_cell BK147.out 4).trans rfl; have hfz27_0 := blk_frozen BK147.out 0; have hfz27_1 := blk_frozen BK147.out 1; have hfz27_2 := blk_frozen BK147.out 2; have hfz27_3 := blk_frozen BK147.out 3; have hfz27_4 := blk_frozen BK147.out 4) | ((with_reducible refine gate_callee (f := 14) rfl ?_); refine goesL_ (some 50) rfl rfl Try.func14 (by kernel_rfl) rfl #[.pointer (some ⟨g143, 0, none⟩), .agg #[.int .u32 t145, .int .u8 t146, .int .i64 x9_2, .int .u16 0, .int .u16 0]] rfl (by (try simp only [List.map_toArray, List.map_cons, List.map_nil]); first | done | rfl | (simp only [List.length_drop, List.length_take]; rfl) | (simp; done) | (refine qa_arr ?_; (repeat' (first | rfl | refine qa_cons ?_ ?_ | refine qa_int ?_ | refine qa_agg ?_ | refine qa_arr ?_ | omega)); done)) ?_; (with_reducible refine (trie_Trie_Put.calls g143 x144000_2 t145 t146 x9_2 0 0 t148 t149 w _ ?side1 ?side2 A18.out).mono ?_); (case side1 => repeat (first | (with_reducible first | exact HI143.out | apply IsS46.alloc | apply IsS46.drewN | apply IsS46.drew | apply IsS46.set_0 | (refine IsS46.far ?_ ?_ _; rotate_left; focus ((repeat (first | exact Oth.of_blk BK147.out (by decide) (by decide) | apply Oth.set | apply Oth.alloc | apply Oth.drewN | apply Oth.drew)); done))) | exact HI143.out)); (case side2 => repeat (first | (with_reducible first | exact HB.out | apply below_alloc | apply pw_below_drewN | apply below_drew1 | refine below_set ?_ (IsS46.ge HI143.out) | refine below_set ?_ GE147.out) | exact HB.out)); rintro e w28 ⟨rfl, hi, hb, hk⟩; refine ⟨_, rfl, ?_⟩; have n0_ := Aside0.mk (Kd.R_keepT (by (with_reducible repeat (first | apply Kd.R_alloc | apply Kd.R_drewN | apply Kd.R_drew)); exact (Kd.R_mono (Kd.R_far (p := ⟨gb147, 4, none⟩) (Kd.R_far (p := ⟨gb147, 3, none⟩) (Kd.R_far (p := ⟨gb147, 2, none⟩) (Kd.R_far (p := ⟨gb147, 1, none⟩) (Kd.R_far (p := ⟨gb147, 0, none⟩) (Kd.R_mono HO_8.out (fun k_ hk => (⟨hk, hk.2⟩ : _ ∧ k_ ≠ gb147))) (fun _ hk => hk.2) (.int .u32 t145)) (fun _ hk => hk.2) (.int .u8 t146)) (fun _ hk => hk.2) (.int .i64 x9_2)) (fun _ hk => hk.2) (.int .u16 0)) (fun _ hk => hk.2) (.int .u16 0)) (fun _ h_ => h_.1))) hk (by decide)); have n1_ := Aside0.mk (KeepT.blk hk (g := gb147) (o := .cells #[.int .u32 t145, .int .u8 t146, .int .i64 x9_2, .int .u16 0, .int .u16 0] 33 (0, 0)) (by (with_reducible repeat (first | refine blk_drewN ?_ _ | refine blk_drew ?_ | refine blk_alloc ?_ _)); refine blk_put (cs := #[.int .u32 t145, .int .u8 t146, .int .i64 x9_2, .int .u16 0, .int .u16 0]) ?_ 4 _ rfl; (with_reducible repeat (first | refine blk_drewN ?_ _ | refine blk_drew ?_ | refine blk_alloc ?_ _)); refine blk_put (cs := #[.int .u32 t145, .int .u8 t146, .int .i64 x9_2, .int .u16 0, .int .u16 0]) ?_ 3 _ rfl; (with_reducible repeat (first | refine blk_drewN ?_ _ | refine blk_drew ?_ | refine blk_alloc ?_ _)); refine blk_put (cs := #[.int .u32 t145, .int .u8 t146, .int .i64 0, .int .u16 0, .int .u16 0]) ?_ 2 _ rfl; (with_reducible repeat (first | refine blk_drewN ?_ _ | refine blk_drew ?_ | refine blk_alloc ?_ _)); refine blk_put (cs := #[.int .u32 t145, .int .u8 0, .int .i64 0, .int .u16 0, .int .u16 0]) ?_ 1 _ rfl; (with_reducible repeat (first | refine blk_drewN ?_ _ | refine blk_drew ?_ | refine blk_alloc ?_ _)); refine blk_put (cs := #[.int .u32 0, .int .u8 0, .int .i64 0, .int .u16 0, .int .u16 0]) ?_ 0 _ rfl; (with_reducible repeat (first | refine blk_drewN ?_ _ | refine blk_drew ?_ | refine blk_alloc ?_ _)); exact BK147.out) rfl (by decide) (by decide)); have n2_ := Aside0.mk (hb); have n3_ := Aside0.mk (hi); clear HO_8; clear BK147; clear HB; clear HI143; have HO_8 := n0_; have BK147 := n1_; have HB := n2_; have HI143 := n3_; clear n0_ n1_ n2_ n3_; (try clear hb); (try clear hb2); (try clear hk); (try clear hi); have hcz29_0 : w28.cell? ⟨gb147, 0, none⟩ = some (.int .u32 t145) := (blk_cell BK147.out 0).trans rfl; have hcz29_1 : w28.cell? ⟨gb147, 1, none⟩ = some (.int .u8 t146) := (blk_cell BK147.out 1).trans rfl; have hcz29_2 : w28.cell? ⟨gb147, 2, none⟩ = some (.int .i64 x9_2) := (blk_cell BK147.out 2).trans rfl; have hcz29_3 : w28.cell? ⟨gb147, 3, none⟩ = some (.int .u16 0) := (blk_cell BK147.out 3).trans rfl; have hcz29_4 : w28.cell? ⟨gb147, 4, none⟩ = some (.int .u16 0) := (blk_cell BK147.out 4).trans rfl; have hfz29_0 := blk_frozen BK147.out 0; have hfz29_1 := blk_frozen BK147.out 1; have hfz29_2 := blk_frozen BK147.out 2; have hfz29_3 := blk_frozen BK147.out 3; have hfz29_4 := blk_frozen BK147.out 4; obtain ⟨Ao30, co30, eo30⟩ := Kd.R_slice HO_8.out; subst eo30) | ((with_reducible refine gate_callee (f := 13) rfl ?_); refine goesL_ (some 54) rfl rfl Try.func13 (by kernel_rfl) rfl #[.slice Ao30 x8_2.length co30, .agg #[.int .u32 t145, .int .u8 t146]] rfl (by (try simp only [List.map_toArray, List.map_cons, List.map_nil]); first | done | rfl | (simp only [List.length_drop, List.length_take]; rfl) | (simp; done) | (refine qa_arr ?_; (repeat' (first | rfl | refine qa_cons ?_ ?_ | refine qa_int ?_ | refine qa_agg ?_ | refine qa_arr ?_ | omega)); done)) ?_; (with_reducible refine (milestonelaw09_find.calls k2 _ _ x8_2 t145 t146 t150 _ ?side1 ?side2 A19.out).mono ?_); (case side1 => repeat (first | exact (Kd.R_reads' HO_8.out).2.2 | (with_reducible refine Kd.C_alloc ?_ _) | (with_reducible refine Kd.C_drewN ?_ _) | (with_reducible refine Kd.C_drew ?_))); (case side2 => exact (Kd.R_reads' HO_8.out).2.1); rintro e w31 ⟨rfl, hb⟩; refine ⟨_, rfl, ?_⟩; have n0_ := Aside0.mk (Kd.R_below (by (with_reducible repeat (first | apply Kd.R_alloc | apply Kd.R_drewN | apply Kd.R_drew)); exact HO_8.out) hb); have n1_ := Aside0.mk (IsS46.below (by repeat (first | (with_reducible first | exact HI143.out | apply IsS46.alloc | apply IsS46.drewN | apply IsS46.drew | apply IsS46.set_0 | (refine IsS46.far ?_ ?_ _; rotate_left; focus ((repeat (first | exact Oth.of_blk BK147.out (by decide) (by decide) | apply Oth.set | apply Oth.alloc | apply Oth.drewN | apply Oth.drew)); done))) | exact HI143.out)) hb); have n2_ := Aside0.mk (blk_below (g := gb147) (o := .cells #[.int .u32 t145, .int .u8 t146, .int .i64 x9_2, .int .u16 0, .int .u16 0] 33 (0, 0)) (by (with_reducible repeat (first | refine blk_drewN ?_ _ | refine blk_drew ?_ | refine blk_alloc ?_ _)); exact BK147.out) hb); have n3_ := Aside0.mk (below_step (by repeat (first | (with_reducible first | exact HB.out | apply below_alloc | apply pw_below_drewN | apply below_drew1 | refine below_set ?_ (IsS46.ge HI143.out) | refine below_set ?_ GE147.out) | exact HB.out)) hb); clear HO_8; clear HI143; clear BK147; clear HB; have HO_8 := n0_; have HI143 := n1_; have BK147 := n2_; have HB := n3_; clear n0_ n1_ n2_ n3_; (try clear hb); (try clear hb2); (try clear hk); (try clear hi); have hcz32_0 : w31.cell? ⟨gb147, 0, none⟩ = some (.int .u32 t145) := (blk_cell BK147.out 0).trans rfl; have hcz32_1 : w31.cell? ⟨gb147, 1, none⟩ = some (.int .u8 t146) := (blk_cell BK147.out 1).trans rfl; have hcz32_2 : w31.cell? ⟨gb147, 2, none⟩ = some (.int .i64 x9_2) := (blk_cell BK147.out 2).trans rfl; have hcz32_3 : w31.cell? ⟨gb147, 3, none⟩ = some (.int .u16 0) := (blk_cell BK147.out 3).trans rfl; have hcz32_4 : w31.cell? ⟨gb147, 4, none⟩ = some (.int .u16 0) := (blk_cell BK147.out 4).trans rfl; have hfz32_0 := blk_frozen BK147.out 0; have hfz32_1 := blk_frozen BK147.out 1; have hfz32_2 := blk_frozen BK147.out 2; have hfz32_3 := blk_frozen BK147.out 3; have hfz32_4 := blk_frozen BK147.out 4; have p23 : 0 ≤ (t150 : Int) := of_decide_eq_true (by first | (with_reducible assumption) | assumption); have q23 : (t150 : Int) < ((x8_2.length : Int) : Int) := of_decide_eq_true (by first | (with_reducible assumption) | assumption); obtain ⟨go23, co23, eo23, gb23, gl23, cl23, HG23⟩ := Kd.R_form HO_8.out (by omega); (first | cases eo23 | (injection eo23 with ea_ en_ ec_; (first | subst ea_ | (injection ea_ with ea_; subst ea_)); subst ec_; clear en_)); have GB23 := Aside0.mk gb23; have GG23 := Aside0.mk HG23; clear gb23 gl23 HG23; obtain ⟨ce23, hcl23, hM23, hcc23, hfr23⟩ := Kd.R_elem HO_8.out z33 (t150 : Int) p23 q23; obtain rfl := k33_openM hM23; have hx23_0 : w31.cell? ⟨go23, (t150 : Int).toNat * 5, none⟩ = some (.int .u32 ((rd_T33 x8_2 t150).f0.f0)) := hcc23 0 _ rfl; have hx23_1 : w31.cell? ⟨go23, (t150 : Int).toNat * 5 + 1, none⟩ = some (.int .u8 ((rd_T33 x8_2 t150).f0.f1)) := hcc23 1 _ rfl; have hx23_2 : w31.cell? ⟨go23, (t150 : Int).toNat * 5 + 2, none⟩ = some (.int .i64 ((rd_T33 x8_2 t150).f1)) := hcc23 2 _ rfl; have hx23_3 : w31.cell? ⟨go23, (t150 : Int).toNat * 5 + 3, none⟩ = some (.int .u16 ((rd_T33 x8_2 t150).f2)) := hcc23 3 _ rfl; have hx23_4 : w31.cell? ⟨go23, (t150 : Int).toNat * 5 + 4, none⟩ = some (.int .u16 ((rd_T33 x8_2 t150).f3)) := hcc23 4 _ rfl; have hf23_0 : w31.frozen? ⟨go23, (t150 : Int).toNat * 5, none⟩ = false := hfr23 0; have hf23_1 : w31.frozen? ⟨go23, (t150 : Int).toNat * 5 + 1, none⟩ = false := hfr23 1; have hf23_2 : w31.frozen? ⟨go23, (t150 : Int).toNat * 5 + 2, none⟩ = false := hfr23 2; have hf23_3 : w31.frozen? ⟨go23, (t150 : Int).toNat * 5 + 3, none⟩ = false := hfr23 3; have hf23_4 : w31.frozen? ⟨go23, (t150 : Int).toNat * 5 + 4, none⟩ = false := hfr23 4; clear hcl23 hcc23 hfr23 hM23; replace p23 := eq_true p23; replace q23 := eq_true q23; have n_ := Aside0.mk (Kd.R_mono (ok' := (fun k_ => k_ ≠ gb147)) HO_8.out (fun k_ hk => hk.2)); clear HO_8; have HO_8 := n_; clear n_; have HX33 := Aside0.mk (show Kd.R k33 33 w31 w.heap.size (fun k_ => k_ ≠ gb147) (.slice (some ⟨go23, 0, none⟩) x8_2.length co30) x8_2 from (by (with_reducible repeat (first | apply Kd.R_alloc | apply Kd.R_drewN | apply Kd.R_drew)); exact HO_8.out)); obtain ⟨ce33, hcl33, hM33, hcc33, hfr33⟩ := Kd.R_elem HX33.out z33 (t150 : Int) (of_decide_eq_true (by first | (with_reducible assumption) | assumption)) (by have h_ : (t150 : Int) < ((x8_2.length : Int) : Int) := of_decide_eq_true (by first | (with_reducible assumption) | assumption); first | exact h_ | (have e_ := (Kd.R_reads' HO_8.out).1; omega) | simpa using h_); obtain rfl := k33_openM hM33; have HP33 := Kd.R_seg HX33.out (t150 : Int) (of_decide_eq_true (by first | (with_reducible assumption) | assumption)) (by have h_ : (t150 : Int) < ((x8_2.length : Int) : Int) := of_decide_eq_true (by first | (with_reducible assumption) | assumption); first | exact h_ | (have e_ := (Kd.R_reads' HO_8.out).1; omega) | simpa using h_) (seg := [.int .u32 t145, .int .u8 t146, .int .i64 x9_2, .int .u16 0, .int .u16 0]) (j := 0) hcl33 hcc33 (show 5 ≤ 5 from by decide) (x' := (⟨(⟨t145, t146⟩ : S27), x9_2, 0, 0⟩ : S33)) (k33_mkM _ _ _ (⟨(⟨t145, t146⟩ : S27), x9_2, 0, 0⟩ : S33) ) (fun _ hk => hk); have hx33_0 := hcc33 0 _ rfl; (try simp only [show (k33).sz = 5 from rfl, Nat.mul_one, Nat.add_zero] at hx33_0); have hf33_0 := hfr33 0; (try simp only [show (k33).sz = 5 from rfl, Nat.mul_one, Nat.add_zero] at hf33_0); have hx33_1 := hcc33 1 _ rfl; (try simp only [show (k33).sz = 5 from rfl, Nat.mul_one, Nat.add_zero] at hx33_1); have hf33_1 := hfr33 1; (try simp only [show (k33).sz = 5 from rfl, Nat.mul_one, Nat.add_zero] at hf33_1); have hx33_2 := hcc33 2 _ rfl; (try simp only [show (k33).sz = 5 from rfl, Nat.mul_one, Nat.add_zero] at hx33_2); have hf33_2 := hfr33 2; (try simp only [show (k33).sz = 5 from rfl, Nat.mul_one, Nat.add_zero] at hf33_2); have hx33_3 := hcc33 3 _ rfl; (try simp only [show (k33).sz = 5 from rfl, Nat.mul_one, Nat.add_zero] at hx33_3); have hf33_3 := hfr33 3; (try simp only [show (k33).sz = 5 from rfl, Nat.mul_one, Nat.add_zero] at hf33_3); have hx33_4 := hcc33 4 _ rfl; (try simp only [show (k33).sz = 5 from rfl, Nat.mul_one, Nat.add_zero] at hx33_4); have hf33_4 := hfr33 4; (try simp only [show (k33).sz = 5 from rfl, Nat.mul_one, Nat.add_zero] at hf33_4); clear hcl33 hcc33 hfr33 hM33) | ((with_reducible refine gate_store (t := 33) (p := 60) rfl ?_); refine store_event (t := 33) (p := 60) (v := ?vo_w34) (w1 := (((((w31.setCell ⟨go23, (t150 : Int).toNat * 5, none⟩ (.int .u32 t145)).setCell ⟨go23, (t150 : Int).toNat * 5 + 1, none⟩ (.int .u8 t146)).setCell ⟨go23, (t150 : Int).toNat * 5 + 2, none⟩ (.int .i64 x9_2)).setCell ⟨go23, (t150 : Int).toNat * 5 + 3, none⟩ (.int .u16 0)).setCell ⟨go23, (t150 : Int).toNat * 5 + 4, none⟩ (.int .u16 0))) ?hg ?ho ?hn ?hr ?_; (case ho => rfl); (case hg => rfl); (case hn => rfl); (case hr => first | (go_simp; done) | (go_simp; rfl)); intro w34 hw; have hg : w31.grownBy w34 (some go23) := (by rw [hw]; exact HP33.2); have hp_ : Kd.R k33 33 w34 w.heap.size (fun k_ => k_ ≠ gb147) (.slice (some ⟨go23, 0, none⟩) x8_2.length co30) y151 := (by rw [hw, Ny151.out]; exact HP33.1); clear HP33; have n0_ := Aside0.mk (hp_); have n1_ := Aside0.mk (IsS46.grown (by repeat (first | (with_reducible first | exact HI143.out | apply IsS46.alloc | apply IsS46.drewN | apply IsS46.drew | apply IsS46.set_0 | (refine IsS46.far ?_ ?_ _; rotate_left; focus ((repeat (first | exact Oth.of_blk BK147.out (by decide) (by decide) | apply Oth.set | apply Oth.alloc | apply Oth.drewN | apply Oth.drew)); done))) | exact HI143.out)) hg (IsS46.off HO_8.out (by decide))); have n2_ := Aside0.mk (blk_grown (g := gb147) (o := .cells #[.int .u32 t145, .int .u8 t146, .int .i64 x9_2, .int .u16 0, .int .u16 0] 33 (0, 0)) (by (with_reducible repeat (first | refine blk_drewN ?_ _ | refine blk_drew ?_ | refine blk_alloc ?_ _)); exact BK147.out) hg (Kd.R_away HO_8.out (fun _ hk => hk))); have n3_ := Aside0.mk ((by rw [hw]; exact below_set (below_set (below_set (below_set (below_set (HB.out) GB23.out) GB23.out) GB23.out) GB23.out) GB23.out : Below w.heap.size w w34)); clear HO_8; clear HI143; clear BK147; clear HB; have HO_8 := n0_; have HI143 := n1_; have BK147 := n2_; have HB := n3_; clear n0_ n1_ n2_ n3_; clear hg hw hp_))
                      go_roundg k2
                      case measure => have := HJ3.out; have := HK2.out; omega
                      case rel => exact ⟨(y151), (wrap64 (x9_2 + 1)), (t149), (by first | rfl | (simp; done) | (simp [*]; done) | (refine qa_int ?_; omega) | (refine qa_int ?_; simp <;> omega)), H', ⟨by have := HJ3.out; have := HK2.out; omega⟩, ⟨by (with_reducible repeat (first | apply Kd.R_alloc | apply Kd.R_drewN | apply Kd.R_drew)); exact Kd.R_mono HO_8.out (fun _ hk => trivial)⟩, ⟨by repeat (first | (with_reducible first | exact HI143.out | apply IsS46.alloc | apply IsS46.drewN | apply IsS46.drew | apply IsS46.set_0 | (refine IsS46.far ?_ ?_ _; rotate_left; focus ((repeat (first | exact Oth.of_blk BK147.out (by decide) (by decide) | apply Oth.set | apply Oth.alloc | apply Oth.drewN | apply Oth.drew)); done))) | exact HI143.out)⟩, ⟨by repeat (first | (with_reducible first | exact HB.out | apply below_alloc | apply pw_below_drewN | apply below_drew1 | refine below_set ?_ (IsS46.ge HI143.out) | refine below_set ?_ GE147.out) | exact HB.out)⟩⟩
                    · rw [if_neg c22] at H
                      exact absurd H (by simp)
                  · rw [if_neg c21] at H
                    exact absurd H (by simp)
                · rw [if_neg c20] at H
                  have c20b0 : decide (0 ≤ t150) = false := decide_eq_false c20
                  clear c20
                  by_cases c35 : x8_2.length < 5864062014805
                  · rw [if_pos c35] at H
                    have LMc35 := Aside0.mk c35
                    clear c35
                    obtain ⟨y152, hy152⟩ : ∃ y_ : List (S33), y_ = (x8_2 ++ [(⟨(⟨t145, t146⟩ : S27), x9_2, 0, 0⟩ : S33)]) := ⟨_, rfl⟩
                    replace H : (milestonelaw09_TrieUndoes.l0 k2 l0 l1 a2 y152 (wrap64 (x9_2 + 1)) t149) = some r := by first | (rw [hy152]; with_reducible exact H) | (have H2_ := (Option.bind_some _ _).symm.trans H; rw [hy152]; with_reducible exact H2_) | (have H2_ := (Option.bind_some _ _).symm.trans H; with_reducible exact H2_) | with_reducible exact H | (rw [hy152]; exact H) | exact H
                    have Ny152 := Aside0.mk hy152
                    clear hy152
                    have H' := Aside0.mk H
                    clear H
                    have p144 : 0 ≤ (x9_2 : Int) := of_decide_eq_true (by first | (with_reducible assumption) | assumption)
                    have q144 : x9_2 < (l0.length : Int) := of_decide_eq_true (by first | (with_reducible assumption) | assumption)
                    obtain ⟨ad144, e144, hx144_0, hx144_1, hx144_2, hx144_3⟩ := at_T30 HR0.out x9_2 p144 q144
                    cases e144
                    replace hx144_0 := (HB.out.cell (World.block_lt_of_cell? w _ hx144_0)).trans hx144_0
                    replace hx144_1 := (HB.out.cell (World.block_lt_of_cell? w _ hx144_1)).trans hx144_1
                    replace hx144_2 := (HB.out.cell (World.block_lt_of_cell? w _ hx144_2)).trans hx144_2
                    replace hx144_3 := (HB.out.cell (World.block_lt_of_cell? w _ hx144_3)).trans hx144_3
                    replace p144 := eq_true p144
                    replace q144 := eq_true q144
                    go_wp2_with (first | ((with_reducible refine gate_callee (f := 8) rfl ?_); refine goesL_ (some 45) rfl rfl Try.func8 (by kernel_rfl) rfl #[.agg #[.int .u8 ((rd_T30 l0 x9_2).f0), .int .u32 ((rd_T30 l0 x9_2).f1), .int .u8 ((rd_T30 l0 x9_2).f2), .int .u8 ((rd_T30 l0 x9_2).f3)]] rfl (by (try simp only [List.map_toArray, List.map_cons, List.map_nil]); first | done | rfl | (simp only [List.length_drop, List.length_take]; rfl) | (simp; done) | (refine qa_arr ?_; (repeat' (first | rfl | refine qa_cons ?_ ?_ | refine qa_int ?_ | refine qa_agg ?_ | refine qa_arr ?_ | omega)); done)) ?_; (with_reducible refine (milestonelaw09_place.calls k2 ((rd_T30 l0 x9_2).f0) ((rd_T30 l0 x9_2).f1) ((rd_T30 l0 x9_2).f2) ((rd_T30 l0 x9_2).f3) t145 t146 _ A17.out).mono ?_); rintro e w36 ⟨rfl, hb⟩; refine ⟨_, rfl, ?_⟩; have n0_ := Aside0.mk (Kd.R_below (by (with_reducible repeat (first | apply Kd.R_alloc | apply Kd.R_drewN | apply Kd.R_drew)); exact HO_8.out) hb); have n1_ := Aside0.mk (IsS46.below (by repeat (first | (with_reducible first | exact HI143.out | apply IsS46.alloc | apply IsS46.drewN | apply IsS46.drew | apply IsS46.set_0) | exact HI143.out)) hb); have n2_ := Aside0.mk (below_step (by repeat (first | (with_reducible first | exact HB.out | apply below_alloc | apply pw_below_drewN | apply below_drew1 | refine below_set ?_ (IsS46.ge HI143.out)) | exact HB.out)) hb); clear HO_8; clear HI143; clear HB; have HO_8 := n0_; have HI143 := n1_; have HB := n2_; clear n0_ n1_ n2_; (try clear hb); (try clear hb2); (try clear hk); (try clear hi)) | ((with_reducible refine gate_dst (N := 10) rfl ?_); (try (refine gate_guard (by rfl) ?_; dsimp only)); refine box_event ?hg (N := 10) ?hd (cs := #[.int .u32 0, .int .u8 0, .int .i64 0, .int .u16 0, .int .u16 0]) (t := 33) ?hr ?_; (case hd => rfl); (case hg => rfl); (case hr => first | (go_simp; done) | (go_simp; rfl)); intro gb147 hg w37 hbox hb; have n0_ := Aside0.mk (Kd.R_below (Kd.R_elderB (by (with_reducible repeat (first | apply Kd.R_alloc | apply Kd.R_drewN | apply Kd.R_drew)); exact HO_8.out) gb147 (Nat.le_of_eq hg.symm)) hb); have n1_ := Aside0.mk (IsS46.below (by repeat (first | (with_reducible first | exact HI143.out | apply IsS46.alloc | apply IsS46.drewN | apply IsS46.drew | apply IsS46.set_0) | exact HI143.out)) hb); have n2_ := Aside0.mk (below_step (by repeat (first | (with_reducible first | exact HB.out | apply below_alloc | apply pw_below_drewN | apply below_drew1 | refine below_set ?_ (IsS46.ge HI143.out)) | exact HB.out)) hb); have n3_ := Aside0.mk (hbox); have n4_ := Aside0.mk ((by rw [hg]; exact (below_size (by repeat (first | (with_reducible first | exact HB.out | apply below_alloc | apply pw_below_drewN | apply below_drew1 | refine below_set ?_ (IsS46.ge HI143.out)) | exact HB.out))) : w.heap.size ≤ gb147)); have n5_ := Aside0.mk ((by rw [hg]; exact (below_size (by repeat (first | (with_reducible first | exact HB.out | apply below_alloc | apply pw_below_drewN | apply below_drew1 | refine below_set ?_ (IsS46.ge HI143.out)) | exact HB.out))) : w.heap.size ≤ gb147)); have n6_ := Aside0.mk ((by rw [hg]; exact Nat.ne_of_lt (IsS46.lt (show IsS46 w _ g143 x144000_2 from by repeat (first | (with_reducible first | exact HI143.out | apply IsS46.alloc | apply IsS46.drewN | apply IsS46.drew | apply IsS46.set_0) | exact HI143.out))) : g143 ≠ gb147)); have n7_ := Aside0.mk ((by rw [hg]; exact Nat.ne_of_gt (IsS46.lt (show IsS46 w _ g143 x144000_2 from by repeat (first | (with_reducible first | exact HI143.out | apply IsS46.alloc | apply IsS46.drewN | apply IsS46.drew | apply IsS46.set_0) | exact HI143.out))) : gb147 ≠ g143)); clear HO_8; clear HI143; clear HB; have HO_8 := n0_; have HI143 := n1_; have HB := n2_; have BK147 := n3_; have GW147 := n4_; have GE147 := n5_; have NB143_147 := n6_; have NB147_143 := n7_; clear n0_ n1_ n2_ n3_ n4_ n5_ n6_ n7_; clear hb hbox hg; have hnb38 := NB147_143.out; have hnc38 := NB143_147.out; have hcz39_0 : w37.cell? ⟨gb147, 0, none⟩ = some (.int .u32 0) := (blk_cell BK147.out 0).trans rfl; have hcz39_1 : w37.cell? ⟨gb147, 1, none⟩ = some (.int .u8 0) := (blk_cell BK147.out 1).trans rfl; have hcz39_2 : w37.cell? ⟨gb147, 2, none⟩ = some (.int .i64 0) := (blk_cell BK147.out 2).trans rfl; have hcz39_3 : w37.cell? ⟨gb147, 3, none⟩ = some (.int .u16 0) := (blk_cell BK147.out 3).trans rfl; have hcz39_4 : w37.cell? ⟨gb147, 4, none⟩ = some (.int .u16 0) := (blk_cell BK147.out 4).trans rfl; have hfz39_0 := blk_frozen BK147.out 0; have hfz39_1 := blk_frozen BK147.out 1; have hfz39_2 := blk_frozen BK147.out 2; have hfz39_3 := blk_frozen BK147.out 3; have hfz39_4 := blk_frozen BK147.out 4) | ((with_reducible refine gate_callee (f := 14) rfl ?_); refine goesL_ (some 50) rfl rfl Try.func14 (by kernel_rfl) rfl #[.pointer (some ⟨g143, 0, none⟩), .agg #[.int .u32 t145, .int .u8 t146, .int .i64 x9_2, .int .u16 0, .int .u16 0]] rfl (by (try simp only [List.map_toArray, List.map_cons, List.map_nil]); first | done | rfl | (simp only [List.length_drop, List.length_take]; rfl) | (simp; done) | (refine qa_arr ?_; (repeat' (first | rfl | refine qa_cons ?_ ?_ | refine qa_int ?_ | refine qa_agg ?_ | refine qa_arr ?_ | omega)); done)) ?_; (with_reducible refine (trie_Trie_Put.calls g143 x144000_2 t145 t146 x9_2 0 0 t148 t149 w _ ?side1 ?side2 A18.out).mono ?_); (case side1 => repeat (first | (with_reducible first | exact HI143.out | apply IsS46.alloc | apply IsS46.drewN | apply IsS46.drew | apply IsS46.set_0 | (refine IsS46.far ?_ ?_ _; rotate_left; focus ((repeat (first | exact Oth.of_blk BK147.out (by decide) (by decide) | apply Oth.set | apply Oth.alloc | apply Oth.drewN | apply Oth.drew)); done))) | exact HI143.out)); (case side2 => repeat (first | (with_reducible first | exact HB.out | apply below_alloc | apply pw_below_drewN | apply below_drew1 | refine below_set ?_ (IsS46.ge HI143.out) | refine below_set ?_ GE147.out) | exact HB.out)); rintro e w40 ⟨rfl, hi, hb, hk⟩; refine ⟨_, rfl, ?_⟩; have n0_ := Aside0.mk (Kd.R_keepT (by (with_reducible repeat (first | apply Kd.R_alloc | apply Kd.R_drewN | apply Kd.R_drew)); exact (Kd.R_mono (Kd.R_far (p := ⟨gb147, 4, none⟩) (Kd.R_far (p := ⟨gb147, 3, none⟩) (Kd.R_far (p := ⟨gb147, 2, none⟩) (Kd.R_far (p := ⟨gb147, 1, none⟩) (Kd.R_far (p := ⟨gb147, 0, none⟩) (Kd.R_mono HO_8.out (fun k_ hk => (⟨hk, hk.2⟩ : _ ∧ k_ ≠ gb147))) (fun _ hk => hk.2) (.int .u32 t145)) (fun _ hk => hk.2) (.int .u8 t146)) (fun _ hk => hk.2) (.int .i64 x9_2)) (fun _ hk => hk.2) (.int .u16 0)) (fun _ hk => hk.2) (.int .u16 0)) (fun _ h_ => h_.1))) hk (by decide)); have n1_ := Aside0.mk (KeepT.blk hk (g := gb147) (o := .cells #[.int .u32 t145, .int .u8 t146, .int .i64 x9_2, .int .u16 0, .int .u16 0] 33 (0, 0)) (by (with_reducible repeat (first | refine blk_drewN ?_ _ | refine blk_drew ?_ | refine blk_alloc ?_ _)); refine blk_put (cs := #[.int .u32 t145, .int .u8 t146, .int .i64 x9_2, .int .u16 0, .int .u16 0]) ?_ 4 _ rfl; (with_reducible repeat (first | refine blk_drewN ?_ _ | refine blk_drew ?_ | refine blk_alloc ?_ _)); refine blk_put (cs := #[.int .u32 t145, .int .u8 t146, .int .i64 x9_2, .int .u16 0, .int .u16 0]) ?_ 3 _ rfl; (with_reducible repeat (first | refine blk_drewN ?_ _ | refine blk_drew ?_ | refine blk_alloc ?_ _)); refine blk_put (cs := #[.int .u32 t145, .int .u8 t146, .int .i64 0, .int .u16 0, .int .u16 0]) ?_ 2 _ rfl; (with_reducible repeat (first | refine blk_drewN ?_ _ | refine blk_drew ?_ | refine blk_alloc ?_ _)); refine blk_put (cs := #[.int .u32 t145, .int .u8 0, .int .i64 0, .int .u16 0, .int .u16 0]) ?_ 1 _ rfl; (with_reducible repeat (first | refine blk_drewN ?_ _ | refine blk_drew ?_ | refine blk_alloc ?_ _)); refine blk_put (cs := #[.int .u32 0, .int .u8 0, .int .i64 0, .int .u16 0, .int .u16 0]) ?_ 0 _ rfl; (with_reducible repeat (first | refine blk_drewN ?_ _ | refine blk_drew ?_ | refine blk_alloc ?_ _)); exact BK147.out) rfl (by decide) (by decide)); have n2_ := Aside0.mk (hb); have n3_ := Aside0.mk (hi); clear HO_8; clear BK147; clear HB; clear HI143; have HO_8 := n0_; have BK147 := n1_; have HB := n2_; have HI143 := n3_; clear n0_ n1_ n2_ n3_; (try clear hb); (try clear hb2); (try clear hk); (try clear hi); have hcz41_0 : w40.cell? ⟨gb147, 0, none⟩ = some (.int .u32 t145) := (blk_cell BK147.out 0).trans rfl; have hcz41_1 : w40.cell? ⟨gb147, 1, none⟩ = some (.int .u8 t146) := (blk_cell BK147.out 1).trans rfl; have hcz41_2 : w40.cell? ⟨gb147, 2, none⟩ = some (.int .i64 x9_2) := (blk_cell BK147.out 2).trans rfl; have hcz41_3 : w40.cell? ⟨gb147, 3, none⟩ = some (.int .u16 0) := (blk_cell BK147.out 3).trans rfl; have hcz41_4 : w40.cell? ⟨gb147, 4, none⟩ = some (.int .u16 0) := (blk_cell BK147.out 4).trans rfl; have hfz41_0 := blk_frozen BK147.out 0; have hfz41_1 := blk_frozen BK147.out 1; have hfz41_2 := blk_frozen BK147.out 2; have hfz41_3 := blk_frozen BK147.out 3; have hfz41_4 := blk_frozen BK147.out 4; obtain ⟨Ao42, co42, eo42⟩ := Kd.R_slice HO_8.out; subst eo42) | ((with_reducible refine gate_callee (f := 13) rfl ?_); refine goesL_ (some 54) rfl rfl Try.func13 (by kernel_rfl) rfl #[.slice Ao42 x8_2.length co42, .agg #[.int .u32 t145, .int .u8 t146]] rfl (by (try simp only [List.map_toArray, List.map_cons, List.map_nil]); first | done | rfl | (simp only [List.length_drop, List.length_take]; rfl) | (simp; done) | (refine qa_arr ?_; (repeat' (first | rfl | refine qa_cons ?_ ?_ | refine qa_int ?_ | refine qa_agg ?_ | refine qa_arr ?_ | omega)); done)) ?_; (with_reducible refine (milestonelaw09_find.calls k2 _ _ x8_2 t145 t146 t150 _ ?side1 ?side2 A19.out).mono ?_); (case side1 => repeat (first | exact (Kd.R_reads' HO_8.out).2.2 | (with_reducible refine Kd.C_alloc ?_ _) | (with_reducible refine Kd.C_drewN ?_ _) | (with_reducible refine Kd.C_drew ?_))); (case side2 => exact (Kd.R_reads' HO_8.out).2.1); rintro e w43 ⟨rfl, hb⟩; refine ⟨_, rfl, ?_⟩; have n0_ := Aside0.mk (Kd.R_below (by (with_reducible repeat (first | apply Kd.R_alloc | apply Kd.R_drewN | apply Kd.R_drew)); exact HO_8.out) hb); have n1_ := Aside0.mk (IsS46.below (by repeat (first | (with_reducible first | exact HI143.out | apply IsS46.alloc | apply IsS46.drewN | apply IsS46.drew | apply IsS46.set_0 | (refine IsS46.far ?_ ?_ _; rotate_left; focus ((repeat (first | exact Oth.of_blk BK147.out (by decide) (by decide) | apply Oth.set | apply Oth.alloc | apply Oth.drewN | apply Oth.drew)); done))) | exact HI143.out)) hb); have n2_ := Aside0.mk (blk_below (g := gb147) (o := .cells #[.int .u32 t145, .int .u8 t146, .int .i64 x9_2, .int .u16 0, .int .u16 0] 33 (0, 0)) (by (with_reducible repeat (first | refine blk_drewN ?_ _ | refine blk_drew ?_ | refine blk_alloc ?_ _)); exact BK147.out) hb); have n3_ := Aside0.mk (below_step (by repeat (first | (with_reducible first | exact HB.out | apply below_alloc | apply pw_below_drewN | apply below_drew1 | refine below_set ?_ (IsS46.ge HI143.out) | refine below_set ?_ GE147.out) | exact HB.out)) hb); clear HO_8; clear HI143; clear BK147; clear HB; have HO_8 := n0_; have HI143 := n1_; have BK147 := n2_; have HB := n3_; clear n0_ n1_ n2_ n3_; (try clear hb); (try clear hb2); (try clear hk); (try clear hi); have hcz44_0 : w43.cell? ⟨gb147, 0, none⟩ = some (.int .u32 t145) := (blk_cell BK147.out 0).trans rfl; have hcz44_1 : w43.cell? ⟨gb147, 1, none⟩ = some (.int .u8 t146) := (blk_cell BK147.out 1).trans rfl; have hcz44_2 : w43.cell? ⟨gb147, 2, none⟩ = some (.int .i64 x9_2) := (blk_cell BK147.out 2).trans rfl; have hcz44_3 : w43.cell? ⟨gb147, 3, none⟩ = some (.int .u16 0) := (blk_cell BK147.out 3).trans rfl; have hcz44_4 : w43.cell? ⟨gb147, 4, none⟩ = some (.int .u16 0) := (blk_cell BK147.out 4).trans rfl; have hfz44_0 := blk_frozen BK147.out 0; have hfz44_1 := blk_frozen BK147.out 1; have hfz44_2 := blk_frozen BK147.out 2; have hfz44_3 := blk_frozen BK147.out 3; have hfz44_4 := blk_frozen BK147.out 4) | ((with_reducible refine gate_builtin (b := .append) (xs := #[.tmp 61, .tmp 63]) rfl ?_); (try (refine gate_guard (by rfl) ?_; dsimp only)); at_builtin; refine Kd.R_append k33 (w0 := w) w.heap.size rfl (.tmp 61) (.tmp 63) 24 33 (.agg #[(.int .u32 0), (.int .u8 0), (.int .i64 0), (.int .u16 0), (.int .u16 0)]) 24 rfl Try.underlying24 info33 rfl (by decide) (by omega) (.slice Ao42 x8_2.length co42) x8_2 (⟨(⟨t145, t146⟩ : S27), x9_2, 0, 0⟩ : S33) [.int .u32 t145, .int .u8 t146, .int .i64 x9_2, .int .u16 0, .int .u16 0] (fun k_ => k_ ≠ gb147) (fun _ => False) rfl rfl ?aP (fun _ hk => hk.elim) ?aF ?aO ?aB ?aS ?aL ?_; (case aP => exact k33_mkM _ _ _ (⟨(⟨t145, t146⟩ : S27), x9_2, 0, 0⟩ : S33)); (case aB => exact (by repeat (first | (with_reducible first | exact HB.out | apply below_alloc | apply pw_below_drewN | apply below_drew1 | refine below_set ?_ (IsS46.ge HI143.out) | refine below_set ?_ GE147.out) | exact HB.out))); (case aF => exact (fun k_ hk => Kd.freshB (g := gb147) (o := .cells #[.int .u32 t145, .int .u8 t146, .int .i64 x9_2, .int .u16 0, .int .u16 0] 33 (0, 0)) (by (with_reducible repeat (first | refine blk_drewN ?_ _ | refine blk_drew ?_ | refine blk_alloc ?_ _)); exact BK147.out) k_ hk)); (case aO => exact (by (with_reducible repeat (first | apply Kd.R_alloc | apply Kd.R_drewN | apply Kd.R_drew)); exact Kd.R_mono HO_8.out (fun _ hk => hk.2))); (case aS => exact (below_size (by repeat (first | (with_reducible first | exact HB.out | apply below_alloc | apply pw_below_drewN | apply below_drew1 | refine below_set ?_ (IsS46.ge HI143.out) | refine below_set ?_ GE147.out) | exact HB.out)))); (case aL => have := LMc35.out; omega); intro v153 w45 ho hb hg hat; rw [← Ny152.out] at ho; have n0_ := Aside0.mk (IsS46.grown (by repeat (first | (with_reducible first | exact HI143.out | apply IsS46.alloc | apply IsS46.drewN | apply IsS46.drew | apply IsS46.set_0 | (refine IsS46.far ?_ ?_ _; rotate_left; focus ((repeat (first | exact Oth.of_blk BK147.out (by decide) (by decide) | apply Oth.set | apply Oth.alloc | apply Oth.drewN | apply Oth.drew)); done))) | exact HI143.out)) hg (IsS46.off (by (with_reducible repeat (first | apply Kd.R_alloc | apply Kd.R_drewN | apply Kd.R_drew)); exact HO_8.out) (by decide))); have n1_ := Aside0.mk (blk_grown (g := gb147) (o := .cells #[.int .u32 t145, .int .u8 t146, .int .i64 x9_2, .int .u16 0, .int .u16 0] 33 (0, 0)) (by (with_reducible repeat (first | refine blk_drewN ?_ _ | refine blk_drew ?_ | refine blk_alloc ?_ _)); exact BK147.out) hg (Kd.R_away HO_8.out (fun _ hk => hk.2))); have n2_ := Aside0.mk (hb); have n3_ := Aside0.mk (ho); clear HI143; clear BK147; clear HB; clear HO_8; have HI143 := n0_; have BK147 := n1_; have HB := n2_; have HO154 := n3_; clear n0_ n1_ n2_ n3_; clear ho hb hg hat))
                    go_roundg k2
                    case measure => have := HJ3.out; have := HK2.out; omega
                    case rel => exact ⟨(y152), (wrap64 (x9_2 + 1)), (t149), (by first | rfl | (simp; done) | (simp [*]; done) | (refine qa_int ?_; omega) | (refine qa_int ?_; simp <;> omega)), H', ⟨by have := HJ3.out; have := HK2.out; omega⟩, ⟨by (with_reducible repeat (first | apply Kd.R_alloc | apply Kd.R_drewN | apply Kd.R_drew)); exact Kd.R_mono HO154.out (fun _ hk => trivial)⟩, ⟨by repeat (first | (with_reducible first | exact HI143.out | apply IsS46.alloc | apply IsS46.drewN | apply IsS46.drew | apply IsS46.set_0 | (refine IsS46.far ?_ ?_ _; rotate_left; focus ((repeat (first | exact Oth.of_blk BK147.out (by decide) (by decide) | apply Oth.set | apply Oth.alloc | apply Oth.drewN | apply Oth.drew)); done))) | exact HI143.out)⟩, ⟨by repeat (first | (with_reducible first | exact HB.out | apply below_alloc | apply pw_below_drewN | apply below_drew1 | refine below_set ?_ (IsS46.ge HI143.out) | refine below_set ?_ GE147.out) | exact HB.out)⟩⟩
                  · rw [if_neg c35] at H
                    exact absurd H (by simp)
              · rw [if_neg c16] at H
                exact absurd H (by simp)
            · rw [if_neg c15] at H
              have c15b0 : decide (x9_2 < (l0.length : Int)) = false := decide_eq_false c15
              clear c15
              have H' := Aside0.mk H
              clear H
              go_wp2
              go_loopg [12] k2 (fun kq v12 w' => ∃ (x12_3 : Int) (x144000_3 : Tr S33), v12 = .int .i64 x12_3 ∧ Aside0 (milestonelaw09_TrieUndoes.l1 kq l1 a2 x8_2 x12_3 x144000_3 = some r) ∧ Aside0 (kq ≤ k2) ∧ Aside0 (Kd.R k33 33 w' w.heap.size (fun _ => True) u8 x8_2) ∧ Aside0 (IsS46 w w' g143 x144000_3) ∧ Aside0 (Below w.heap.size w w'))
              case atStart => exact ⟨(0), (x144000_2), (by first | rfl | (simp; done) | (simp [*]; done) | (refine qa_int ?_; omega) | (refine qa_int ?_; simp <;> omega)), H', ⟨Nat.le_refl _⟩, ⟨by (with_reducible repeat (first | apply Kd.R_alloc | apply Kd.R_drewN | apply Kd.R_drew)); exact HO_8.out⟩, ⟨by repeat (first | (with_reducible first | exact HI143.out | apply IsS46.alloc | apply IsS46.drewN | apply IsS46.drew | apply IsS46.set_0) | exact HI143.out)⟩, ⟨by repeat (first | (with_reducible first | exact HB.out | apply below_alloc | apply pw_below_drewN | apply below_drew1 | refine below_set ?_ (IsS46.ge HI143.out)) | exact HB.out)⟩⟩
              case round =>
                clear H'
                try clear c1
                try clear p1
                try clear q1
                try clear hx1
                try clear c2
                try clear p2
                try clear q2
                try clear hx2
                try clear c3
                try clear hx3
                try clear hf3
                try clear c4
                try clear c6
                try clear p6
                try clear c7
                try clear c7b0
                try clear c7b1
                try clear c8
                try clear c11
                try clear c13
                try clear c14
                try clear p14
                try clear q14
                try clear hx14
                try clear c15
                try clear c15b0
                try clear c16
                try clear c16b0
                try clear c20
                try clear c20b0
                try clear c21
                try clear c21b0
                try clear c22
                try clear c22b0
                try clear c23
                try clear p23
                try clear q23
                try clear hx23
                try clear hf23
                try clear c26
                try clear c33
                try clear hx33
                try clear hf33
                try clear c35
                try clear c38
                try clear hcz27_0
                try clear hcz27_1
                try clear hcz27_2
                try clear hcz27_3
                try clear hcz27_4
                try clear hcz29_0
                try clear hcz29_1
                try clear hcz29_2
                try clear hcz29_3
                try clear hcz29_4
                try clear hcz32_0
                try clear hcz32_1
                try clear hcz32_2
                try clear hcz32_3
                try clear hcz32_4
                try clear hcz39_0
                try clear hcz39_1
                try clear hcz39_2
                try clear hcz39_3
                try clear hcz39_4
                try clear hcz41_0
                try clear hcz41_1
                try clear hcz41_2
                try clear hcz41_3
                try clear hcz41_4
                try clear hcz44_0
                try clear hcz44_1
                try clear hcz44_2
                try clear hcz44_3
                try clear hcz44_4
                try clear hfz27_0
                try clear hfz27_1
                try clear hfz27_2
                try clear hfz27_3
                try clear hfz27_4
                try clear hfz29_0
                try clear hfz29_1
                try clear hfz29_2
                try clear hfz29_3
                try clear hfz29_4
                try clear hfz32_0
                try clear hfz32_1
                try clear hfz32_2
                try clear hfz32_3
                try clear hfz32_4
                try clear hfz39_0
                try clear hfz39_1
                try clear hfz39_2
                try clear hfz39_3
                try clear hfz39_4
                try clear hfz41_0
                try clear hfz41_1
                try clear hfz41_2
                try clear hfz41_3
                try clear hfz41_4
                try clear hfz44_0
                try clear hfz44_1
                try clear hfz44_2
                try clear hfz44_3
                try clear hfz44_4
                try clear hx144_0
                try clear hx144_1
                try clear hx144_2
                try clear hx144_3
                try clear hx23_0
                try clear hx23_1
                try clear hx23_2
                try clear hx23_3
                try clear hx23_4
                try clear hx33_0
                try clear hx33_1
                try clear hx33_2
                try clear hx33_3
                try clear hx33_4
                try clear p144
                try clear p2
                try clear p23
                try clear q144
                try clear q23
                obtain ⟨x12_3, x144000_3, rfl, HA, HK3, HO_8, HI143, HB⟩ := hrel
                cases gk with
                | zero => exact absurd HA.out (by simp [milestonelaw09_TrieUndoes.l1])
                | succ k3 =>
                  have H := HA.out
                  clear HA
                  simp only [milestonelaw09_TrieUndoes.l1] at H
                  by_cases c46 : x12_3 < (l1.length : Int)
                  · rw [if_pos c46] at H
                    have c46b0 : decide (x12_3 < (l1.length : Int)) = true := decide_eq_true c46
                    clear c46
                    by_cases c47 : 0 ≤ x12_3
                    · rw [if_pos c47] at H
                      have c47b0 : decide (0 ≤ x12_3) = true := decide_eq_true c47
                      clear c47
                      replace H := Option.bind_eq_some_iff.mp H
                      obtain ⟨⟨t156, t157⟩, A480, H⟩ := H
                      replace H : ((milestonelaw09_find.f k3 x8_2 t156 t157).bind fun t159 => (if t159 < 0 then ((trie_Trie_Put.f x144000_3 t156 t157 0 0 0).bind fun bt160 => (milestonelaw09_TrieUndoes.l1 k3 l1 a2 x8_2 (wrap64 (x12_3 + 1)) bt160.2)) else (milestonelaw09_TrieUndoes.l1 k3 l1 a2 x8_2 (wrap64 (x12_3 + 1)) x144000_3))) = some r := H
                      have A48 := Aside0.mk A480
                      clear A480
                      replace H := Option.bind_eq_some_iff.mp H
                      obtain ⟨t159, A490, H⟩ := H
                      replace H : (if t159 < 0 then ((trie_Trie_Put.f x144000_3 t156 t157 0 0 0).bind fun bt160 => (milestonelaw09_TrieUndoes.l1 k3 l1 a2 x8_2 (wrap64 (x12_3 + 1)) bt160.2)) else (milestonelaw09_TrieUndoes.l1 k3 l1 a2 x8_2 (wrap64 (x12_3 + 1)) x144000_3)) = some r := H
                      have A49 := Aside0.mk A490
                      clear A490
                      by_cases c50 : t159 < 0
                      · rw [if_pos c50] at H
                        have c50b0 : decide (t159 < 0) = true := decide_eq_true c50
                        clear c50
                        replace H := Option.bind_eq_some_iff.mp H
                        obtain ⟨⟨t160, t161⟩, A510, H⟩ := H
                        replace H : (milestonelaw09_TrieUndoes.l1 k3 l1 a2 x8_2 (wrap64 (x12_3 + 1)) t161) = some r := H
                        have A51 := Aside0.mk A510
                        clear A510
                        have H' := Aside0.mk H
                        clear H
                        have p155 : 0 ≤ (x12_3 : Int) := of_decide_eq_true (by first | (with_reducible assumption) | assumption)
                        have q155 : x12_3 < (l1.length : Int) := of_decide_eq_true (by first | (with_reducible assumption) | assumption)
                        obtain ⟨ad155, e155, hx155_0, hx155_1, hx155_2, hx155_3⟩ := at_T30 HR1.out x12_3 p155 q155
                        cases e155
                        replace hx155_0 := (HB.out.cell (World.block_lt_of_cell? w _ hx155_0)).trans hx155_0
                        replace hx155_1 := (HB.out.cell (World.block_lt_of_cell? w _ hx155_1)).trans hx155_1
                        replace hx155_2 := (HB.out.cell (World.block_lt_of_cell? w _ hx155_2)).trans hx155_2
                        replace hx155_3 := (HB.out.cell (World.block_lt_of_cell? w _ hx155_3)).trans hx155_3
                        replace p155 := eq_true p155
                        replace q155 := eq_true q155
                        go_wp2_with (first | ((with_reducible refine gate_callee (f := 8) rfl ?_); refine goesL_ (some 75) rfl rfl Try.func8 (by kernel_rfl) rfl #[.agg #[.int .u8 ((rd_T30 l1 x12_3).f0), .int .u32 ((rd_T30 l1 x12_3).f1), .int .u8 ((rd_T30 l1 x12_3).f2), .int .u8 ((rd_T30 l1 x12_3).f3)]] rfl (by (try simp only [List.map_toArray, List.map_cons, List.map_nil]); first | done | rfl | (simp only [List.length_drop, List.length_take]; rfl) | (simp; done) | (refine qa_arr ?_; (repeat' (first | rfl | refine qa_cons ?_ ?_ | refine qa_int ?_ | refine qa_agg ?_ | refine qa_arr ?_ | omega)); done)) ?_; (with_reducible refine (milestonelaw09_place.calls k3 ((rd_T30 l1 x12_3).f0) ((rd_T30 l1 x12_3).f1) ((rd_T30 l1 x12_3).f2) ((rd_T30 l1 x12_3).f3) t156 t157 _ A48.out).mono ?_); rintro e w52 ⟨rfl, hb⟩; refine ⟨_, rfl, ?_⟩; have n0_ := Aside0.mk (Kd.R_below (by (with_reducible repeat (first | apply Kd.R_alloc | apply Kd.R_drewN | apply Kd.R_drew)); exact HO_8.out) hb); have n1_ := Aside0.mk (IsS46.below (by repeat (first | (with_reducible first | exact HI143.out | apply IsS46.alloc | apply IsS46.drewN | apply IsS46.drew | apply IsS46.set_0) | exact HI143.out)) hb); have n2_ := Aside0.mk (below_step (by repeat (first | (with_reducible first | exact HB.out | apply below_alloc | apply pw_below_drewN | apply below_drew1 | refine below_set ?_ (IsS46.ge HI143.out)) | exact HB.out)) hb); clear HO_8; clear HI143; clear HB; have HO_8 := n0_; have HI143 := n1_; have HB := n2_; clear n0_ n1_ n2_; (try clear hb); (try clear hb2); (try clear hk); (try clear hi)) | ((with_reducible refine gate_dst (N := 13) rfl ?_); (try (refine gate_guard (by rfl) ?_; dsimp only)); refine box_event ?hg (N := 13) ?hd (cs := #[.int .u32 0, .int .u8 0]) (t := 27) ?hr ?_; (case hd => rfl); (case hg => rfl); (case hr => first | (go_simp; done) | (go_simp; rfl)); intro gb158 hg w53 hbox hb; have n0_ := Aside0.mk (Kd.R_below (by (with_reducible repeat (first | apply Kd.R_alloc | apply Kd.R_drewN | apply Kd.R_drew)); exact HO_8.out) hb); have n1_ := Aside0.mk (IsS46.below (by repeat (first | (with_reducible first | exact HI143.out | apply IsS46.alloc | apply IsS46.drewN | apply IsS46.drew | apply IsS46.set_0) | exact HI143.out)) hb); have n2_ := Aside0.mk (below_step (by repeat (first | (with_reducible first | exact HB.out | apply below_alloc | apply pw_below_drewN | apply below_drew1 | refine below_set ?_ (IsS46.ge HI143.out)) | exact HB.out)) hb); have n3_ := Aside0.mk (hbox); have n4_ := Aside0.mk ((by rw [hg]; exact (below_size (by repeat (first | (with_reducible first | exact HB.out | apply below_alloc | apply pw_below_drewN | apply below_drew1 | refine below_set ?_ (IsS46.ge HI143.out)) | exact HB.out))) : w.heap.size ≤ gb158)); have n5_ := Aside0.mk ((by rw [hg]; exact (below_size (by repeat (first | (with_reducible first | exact HB.out | apply below_alloc | apply pw_below_drewN | apply below_drew1 | refine below_set ?_ (IsS46.ge HI143.out)) | exact HB.out))) : w.heap.size ≤ gb158)); have n6_ := Aside0.mk ((by rw [hg]; exact Nat.ne_of_lt (IsS46.lt (show IsS46 w _ g143 x144000_3 from by repeat (first | (with_reducible first | exact HI143.out | apply IsS46.alloc | apply IsS46.drewN | apply IsS46.drew | apply IsS46.set_0) | exact HI143.out))) : g143 ≠ gb158)); have n7_ := Aside0.mk ((by rw [hg]; exact Nat.ne_of_gt (IsS46.lt (show IsS46 w _ g143 x144000_3 from by repeat (first | (with_reducible first | exact HI143.out | apply IsS46.alloc | apply IsS46.drewN | apply IsS46.drew | apply IsS46.set_0) | exact HI143.out))) : gb158 ≠ g143)); clear HO_8; clear HI143; clear HB; have HO_8 := n0_; have HI143 := n1_; have HB := n2_; have BK158 := n3_; have GW158 := n4_; have GE158 := n5_; have NB143_158 := n6_; have NB158_143 := n7_; clear n0_ n1_ n2_ n3_ n4_ n5_ n6_ n7_; clear hb hbox hg; have hnb54 := NB158_143.out; have hnc54 := NB143_158.out; have hcz55_0 : w53.cell? ⟨gb158, 0, none⟩ = some (.int .u32 0) := (blk_cell BK158.out 0).trans rfl; have hcz55_1 : w53.cell? ⟨gb158, 1, none⟩ = some (.int .u8 0) := (blk_cell BK158.out 1).trans rfl; have hfz55_0 := blk_frozen BK158.out 0; have hfz55_1 := blk_frozen BK158.out 1; obtain ⟨Ao56, co56, eo56⟩ := Kd.R_slice HO_8.out; subst eo56) | ((with_reducible refine gate_callee (f := 13) rfl ?_); refine goesL_ (some 78) rfl rfl Try.func13 (by kernel_rfl) rfl #[.slice Ao56 x8_2.length co56, .agg #[.int .u32 t156, .int .u8 t157]] rfl (by (try simp only [List.map_toArray, List.map_cons, List.map_nil]); first | done | rfl | (simp only [List.length_drop, List.length_take]; rfl) | (simp; done) | (refine qa_arr ?_; (repeat' (first | rfl | refine qa_cons ?_ ?_ | refine qa_int ?_ | refine qa_agg ?_ | refine qa_arr ?_ | omega)); done)) ?_; (with_reducible refine (milestonelaw09_find.calls k3 _ _ x8_2 t156 t157 t159 _ ?side1 ?side2 A49.out).mono ?_); (case side1 => refine (Kd.R_reads' (e := 33) (base := w.heap.size) (ok := fun k_ => True) (n := x8_2.length) (c := co56) ?_).2.2; exact (by (with_reducible repeat (first | apply Kd.R_alloc | apply Kd.R_drewN | apply Kd.R_drew)); exact (Kd.R_mono (Kd.R_far (p := ⟨gb158, 1, none⟩) (Kd.R_far (p := ⟨gb158, 0, none⟩) (Kd.R_types HO_8.out BK158.out (by decide)) (fun _ hk => hk.2) (.int .u32 t156)) (fun _ hk => hk.2) (.int .u8 t157)) (fun _ h_ => h_.1)))); (case side2 => exact (Kd.R_reads' HO_8.out).2.1); rintro e w57 ⟨rfl, hb⟩; refine ⟨_, rfl, ?_⟩; have n0_ := Aside0.mk (Kd.R_below (by (with_reducible repeat (first | apply Kd.R_alloc | apply Kd.R_drewN | apply Kd.R_drew)); exact (Kd.R_mono (Kd.R_far (p := ⟨gb158, 1, none⟩) (Kd.R_far (p := ⟨gb158, 0, none⟩) (Kd.R_types HO_8.out BK158.out (by decide)) (fun _ hk => hk.2) (.int .u32 t156)) (fun _ hk => hk.2) (.int .u8 t157)) (fun _ h_ => h_.1))) hb); have n1_ := Aside0.mk (IsS46.below (show IsS46 w ((w53.setCell ⟨gb158, 0, none⟩ (.int .u32 t156)).setCell ⟨gb158, 1, none⟩ (.int .u8 t157)) g143 x144000_3 from by repeat (first | (with_reducible first | exact HI143.out | apply IsS46.alloc | apply IsS46.drewN | apply IsS46.drew | apply IsS46.set_0 | (refine IsS46.far ?_ ?_ _; rotate_left; focus ((repeat (first | exact Oth.of_blk BK158.out (by decide) (by decide) | apply Oth.set | apply Oth.alloc | apply Oth.drewN | apply Oth.drew)); done))) | exact HI143.out)) hb); have n2_ := Aside0.mk (blk_below (g := gb158) (o := .cells #[.int .u32 t156, .int .u8 t157] 27 (0, 0)) (by (with_reducible repeat (first | refine blk_drewN ?_ _ | refine blk_drew ?_ | refine blk_alloc ?_ _)); refine blk_put (cs := #[.int .u32 t156, .int .u8 0]) ?_ 1 _ rfl; (with_reducible repeat (first | refine blk_drewN ?_ _ | refine blk_drew ?_ | refine blk_alloc ?_ _)); refine blk_put (cs := #[.int .u32 0, .int .u8 0]) ?_ 0 _ rfl; (with_reducible repeat (first | refine blk_drewN ?_ _ | refine blk_drew ?_ | refine blk_alloc ?_ _)); exact BK158.out) hb); have n3_ := Aside0.mk (below_step (by repeat (first | (with_reducible first | exact HB.out | apply below_alloc | apply pw_below_drewN | apply below_drew1 | refine below_set ?_ (IsS46.ge HI143.out) | refine below_set ?_ GE158.out) | exact HB.out)) hb); clear HO_8; clear HI143; clear BK158; clear HB; have HO_8 := n0_; have HI143 := n1_; have BK158 := n2_; have HB := n3_; clear n0_ n1_ n2_ n3_; (try clear hb); (try clear hb2); (try clear hk); (try clear hi); have hcz58_0 : w57.cell? ⟨gb158, 0, none⟩ = some (.int .u32 t156) := (blk_cell BK158.out 0).trans rfl; have hcz58_1 : w57.cell? ⟨gb158, 1, none⟩ = some (.int .u8 t157) := (blk_cell BK158.out 1).trans rfl; have hfz58_0 := blk_frozen BK158.out 0; have hfz58_1 := blk_frozen BK158.out 1) | ((with_reducible refine gate_callee (f := 14) rfl ?_); refine goesL_ (some 83) rfl rfl Try.func14 (by kernel_rfl) rfl #[.pointer (some ⟨g143, 0, none⟩), .agg #[.int .u32 t156, .int .u8 t157, .int .i64 0, .int .u16 0, .int .u16 0]] rfl (by (try simp only [List.map_toArray, List.map_cons, List.map_nil]); first | done | rfl | (simp only [List.length_drop, List.length_take]; rfl) | (simp; done) | (refine qa_arr ?_; (repeat' (first | rfl | refine qa_cons ?_ ?_ | refine qa_int ?_ | refine qa_agg ?_ | refine qa_arr ?_ | omega)); done)) ?_; (with_reducible refine (trie_Trie_Put.calls g143 x144000_3 t156 t157 0 0 0 t160 t161 w _ ?side1 ?side2 A51.out).mono ?_); (case side1 => repeat (first | (with_reducible first | exact HI143.out | apply IsS46.alloc | apply IsS46.drewN | apply IsS46.drew | apply IsS46.set_0 | (refine IsS46.far ?_ ?_ _; rotate_left; focus ((repeat (first | exact Oth.of_blk BK158.out (by decide) (by decide) | apply Oth.set | apply Oth.alloc | apply Oth.drewN | apply Oth.drew)); done))) | exact HI143.out)); (case side2 => repeat (first | (with_reducible first | exact HB.out | apply below_alloc | apply pw_below_drewN | apply below_drew1 | refine below_set ?_ (IsS46.ge HI143.out) | refine below_set ?_ GE158.out) | exact HB.out)); rintro e w59 ⟨rfl, hi, hb, hk⟩; refine ⟨_, rfl, ?_⟩; have n0_ := Aside0.mk (Kd.R_keepT (by (with_reducible repeat (first | apply Kd.R_alloc | apply Kd.R_drewN | apply Kd.R_drew)); exact HO_8.out) hk (by decide)); have n1_ := Aside0.mk (KeepT.blk hk (g := gb158) (o := .cells #[.int .u32 t156, .int .u8 t157] 27 (0, 0)) (by (with_reducible repeat (first | refine blk_drewN ?_ _ | refine blk_drew ?_ | refine blk_alloc ?_ _)); exact BK158.out) rfl (by decide) (by decide)); have n2_ := Aside0.mk (hb); have n3_ := Aside0.mk (hi); clear HO_8; clear BK158; clear HB; clear HI143; have HO_8 := n0_; have BK158 := n1_; have HB := n2_; have HI143 := n3_; clear n0_ n1_ n2_ n3_; (try clear hb); (try clear hb2); (try clear hk); (try clear hi)))
                        go_roundg k3
                        case measure => have := HJ3.out; have := HK2.out; have := HK3.out; omega
                        case rel => exact ⟨(wrap64 (x12_3 + 1)), (t161), (by first | rfl | (simp; done) | (simp [*]; done) | (refine qa_int ?_; omega) | (refine qa_int ?_; simp <;> omega)), H', ⟨by have := HJ3.out; have := HK2.out; have := HK3.out; omega⟩, ⟨by (with_reducible repeat (first | apply Kd.R_alloc | apply Kd.R_drewN | apply Kd.R_drew)); exact HO_8.out⟩, ⟨by repeat (first | (with_reducible first | exact HI143.out | apply IsS46.alloc | apply IsS46.drewN | apply IsS46.drew | apply IsS46.set_0 | (refine IsS46.far ?_ ?_ _; rotate_left; focus ((repeat (first | exact Oth.of_blk BK158.out (by decide) (by decide) | apply Oth.set | apply Oth.alloc | apply Oth.drewN | apply Oth.drew)); done))) | exact HI143.out)⟩, ⟨by repeat (first | (with_reducible first | exact HB.out | apply below_alloc | apply pw_below_drewN | apply below_drew1 | refine below_set ?_ (IsS46.ge HI143.out) | refine below_set ?_ GE158.out) | exact HB.out)⟩⟩
                      · rw [if_neg c50] at H
                        have c50b0 : decide (t159 < 0) = false := decide_eq_false c50
                        clear c50
                        have H' := Aside0.mk H
                        clear H
                        have p155 : 0 ≤ (x12_3 : Int) := of_decide_eq_true (by first | (with_reducible assumption) | assumption)
                        have q155 : x12_3 < (l1.length : Int) := of_decide_eq_true (by first | (with_reducible assumption) | assumption)
                        obtain ⟨ad155, e155, hx155_0, hx155_1, hx155_2, hx155_3⟩ := at_T30 HR1.out x12_3 p155 q155
                        cases e155
                        replace hx155_0 := (HB.out.cell (World.block_lt_of_cell? w _ hx155_0)).trans hx155_0
                        replace hx155_1 := (HB.out.cell (World.block_lt_of_cell? w _ hx155_1)).trans hx155_1
                        replace hx155_2 := (HB.out.cell (World.block_lt_of_cell? w _ hx155_2)).trans hx155_2
                        replace hx155_3 := (HB.out.cell (World.block_lt_of_cell? w _ hx155_3)).trans hx155_3
                        replace p155 := eq_true p155
                        replace q155 := eq_true q155
                        go_wp2_with (first | ((with_reducible refine gate_callee (f := 8) rfl ?_); refine goesL_ (some 75) rfl rfl Try.func8 (by kernel_rfl) rfl #[.agg #[.int .u8 ((rd_T30 l1 x12_3).f0), .int .u32 ((rd_T30 l1 x12_3).f1), .int .u8 ((rd_T30 l1 x12_3).f2), .int .u8 ((rd_T30 l1 x12_3).f3)]] rfl (by (try simp only [List.map_toArray, List.map_cons, List.map_nil]); first | done | rfl | (simp only [List.length_drop, List.length_take]; rfl) | (simp; done) | (refine qa_arr ?_; (repeat' (first | rfl | refine qa_cons ?_ ?_ | refine qa_int ?_ | refine qa_agg ?_ | refine qa_arr ?_ | omega)); done)) ?_; (with_reducible refine (milestonelaw09_place.calls k3 ((rd_T30 l1 x12_3).f0) ((rd_T30 l1 x12_3).f1) ((rd_T30 l1 x12_3).f2) ((rd_T30 l1 x12_3).f3) t156 t157 _ A48.out).mono ?_); rintro e w60 ⟨rfl, hb⟩; refine ⟨_, rfl, ?_⟩; have n0_ := Aside0.mk (Kd.R_below (by (with_reducible repeat (first | apply Kd.R_alloc | apply Kd.R_drewN | apply Kd.R_drew)); exact HO_8.out) hb); have n1_ := Aside0.mk (IsS46.below (by repeat (first | (with_reducible first | exact HI143.out | apply IsS46.alloc | apply IsS46.drewN | apply IsS46.drew | apply IsS46.set_0) | exact HI143.out)) hb); have n2_ := Aside0.mk (below_step (by repeat (first | (with_reducible first | exact HB.out | apply below_alloc | apply pw_below_drewN | apply below_drew1 | refine below_set ?_ (IsS46.ge HI143.out)) | exact HB.out)) hb); clear HO_8; clear HI143; clear HB; have HO_8 := n0_; have HI143 := n1_; have HB := n2_; clear n0_ n1_ n2_; (try clear hb); (try clear hb2); (try clear hk); (try clear hi)) | ((with_reducible refine gate_dst (N := 13) rfl ?_); (try (refine gate_guard (by rfl) ?_; dsimp only)); refine box_event ?hg (N := 13) ?hd (cs := #[.int .u32 0, .int .u8 0]) (t := 27) ?hr ?_; (case hd => rfl); (case hg => rfl); (case hr => first | (go_simp; done) | (go_simp; rfl)); intro gb158 hg w61 hbox hb; have n0_ := Aside0.mk (Kd.R_below (by (with_reducible repeat (first | apply Kd.R_alloc | apply Kd.R_drewN | apply Kd.R_drew)); exact HO_8.out) hb); have n1_ := Aside0.mk (IsS46.below (by repeat (first | (with_reducible first | exact HI143.out | apply IsS46.alloc | apply IsS46.drewN | apply IsS46.drew | apply IsS46.set_0) | exact HI143.out)) hb); have n2_ := Aside0.mk (below_step (by repeat (first | (with_reducible first | exact HB.out | apply below_alloc | apply pw_below_drewN | apply below_drew1 | refine below_set ?_ (IsS46.ge HI143.out)) | exact HB.out)) hb); have n3_ := Aside0.mk (hbox); have n4_ := Aside0.mk ((by rw [hg]; exact (below_size (by repeat (first | (with_reducible first | exact HB.out | apply below_alloc | apply pw_below_drewN | apply below_drew1 | refine below_set ?_ (IsS46.ge HI143.out)) | exact HB.out))) : w.heap.size ≤ gb158)); have n5_ := Aside0.mk ((by rw [hg]; exact (below_size (by repeat (first | (with_reducible first | exact HB.out | apply below_alloc | apply pw_below_drewN | apply below_drew1 | refine below_set ?_ (IsS46.ge HI143.out)) | exact HB.out))) : w.heap.size ≤ gb158)); have n6_ := Aside0.mk ((by rw [hg]; exact Nat.ne_of_lt (IsS46.lt (show IsS46 w _ g143 x144000_3 from by repeat (first | (with_reducible first | exact HI143.out | apply IsS46.alloc | apply IsS46.drewN | apply IsS46.drew | apply IsS46.set_0) | exact HI143.out))) : g143 ≠ gb158)); have n7_ := Aside0.mk ((by rw [hg]; exact Nat.ne_of_gt (IsS46.lt (show IsS46 w _ g143 x144000_3 from by repeat (first | (with_reducible first | exact HI143.out | apply IsS46.alloc | apply IsS46.drewN | apply IsS46.drew | apply IsS46.set_0) | exact HI143.out))) : gb158 ≠ g143)); clear HO_8; clear HI143; clear HB; have HO_8 := n0_; have HI143 := n1_; have HB := n2_; have BK158 := n3_; have GW158 := n4_; have GE158 := n5_; have NB143_158 := n6_; have NB158_143 := n7_; clear n0_ n1_ n2_ n3_ n4_ n5_ n6_ n7_; clear hb hbox hg; have hnb62 := NB158_143.out; have hnc62 := NB143_158.out; have hcz63_0 : w61.cell? ⟨gb158, 0, none⟩ = some (.int .u32 0) := (blk_cell BK158.out 0).trans rfl; have hcz63_1 : w61.cell? ⟨gb158, 1, none⟩ = some (.int .u8 0) := (blk_cell BK158.out 1).trans rfl; have hfz63_0 := blk_frozen BK158.out 0; have hfz63_1 := blk_frozen BK158.out 1; obtain ⟨Ao64, co64, eo64⟩ := Kd.R_slice HO_8.out; subst eo64) | ((with_reducible refine gate_callee (f := 13) rfl ?_); refine goesL_ (some 78) rfl rfl Try.func13 (by kernel_rfl) rfl #[.slice Ao64 x8_2.length co64, .agg #[.int .u32 t156, .int .u8 t157]] rfl (by (try simp only [List.map_toArray, List.map_cons, List.map_nil]); first | done | rfl | (simp only [List.length_drop, List.length_take]; rfl) | (simp; done) | (refine qa_arr ?_; (repeat' (first | rfl | refine qa_cons ?_ ?_ | refine qa_int ?_ | refine qa_agg ?_ | refine qa_arr ?_ | omega)); done)) ?_; (with_reducible refine (milestonelaw09_find.calls k3 _ _ x8_2 t156 t157 t159 _ ?side1 ?side2 A49.out).mono ?_); (case side1 => refine (Kd.R_reads' (e := 33) (base := w.heap.size) (ok := fun k_ => True) (n := x8_2.length) (c := co64) ?_).2.2; exact (by (with_reducible repeat (first | apply Kd.R_alloc | apply Kd.R_drewN | apply Kd.R_drew)); exact (Kd.R_mono (Kd.R_far (p := ⟨gb158, 1, none⟩) (Kd.R_far (p := ⟨gb158, 0, none⟩) (Kd.R_types HO_8.out BK158.out (by decide)) (fun _ hk => hk.2) (.int .u32 t156)) (fun _ hk => hk.2) (.int .u8 t157)) (fun _ h_ => h_.1)))); (case side2 => exact (Kd.R_reads' HO_8.out).2.1); rintro e w65 ⟨rfl, hb⟩; refine ⟨_, rfl, ?_⟩; have n0_ := Aside0.mk (Kd.R_below (by (with_reducible repeat (first | apply Kd.R_alloc | apply Kd.R_drewN | apply Kd.R_drew)); exact (Kd.R_mono (Kd.R_far (p := ⟨gb158, 1, none⟩) (Kd.R_far (p := ⟨gb158, 0, none⟩) (Kd.R_types HO_8.out BK158.out (by decide)) (fun _ hk => hk.2) (.int .u32 t156)) (fun _ hk => hk.2) (.int .u8 t157)) (fun _ h_ => h_.1))) hb); have n1_ := Aside0.mk (IsS46.below (show IsS46 w ((w61.setCell ⟨gb158, 0, none⟩ (.int .u32 t156)).setCell ⟨gb158, 1, none⟩ (.int .u8 t157)) g143 x144000_3 from by repeat (first | (with_reducible first | exact HI143.out | apply IsS46.alloc | apply IsS46.drewN | apply IsS46.drew | apply IsS46.set_0 | (refine IsS46.far ?_ ?_ _; rotate_left; focus ((repeat (first | exact Oth.of_blk BK158.out (by decide) (by decide) | apply Oth.set | apply Oth.alloc | apply Oth.drewN | apply Oth.drew)); done))) | exact HI143.out)) hb); have n2_ := Aside0.mk (blk_below (g := gb158) (o := .cells #[.int .u32 t156, .int .u8 t157] 27 (0, 0)) (by (with_reducible repeat (first | refine blk_drewN ?_ _ | refine blk_drew ?_ | refine blk_alloc ?_ _)); refine blk_put (cs := #[.int .u32 t156, .int .u8 0]) ?_ 1 _ rfl; (with_reducible repeat (first | refine blk_drewN ?_ _ | refine blk_drew ?_ | refine blk_alloc ?_ _)); refine blk_put (cs := #[.int .u32 0, .int .u8 0]) ?_ 0 _ rfl; (with_reducible repeat (first | refine blk_drewN ?_ _ | refine blk_drew ?_ | refine blk_alloc ?_ _)); exact BK158.out) hb); have n3_ := Aside0.mk (below_step (by repeat (first | (with_reducible first | exact HB.out | apply below_alloc | apply pw_below_drewN | apply below_drew1 | refine below_set ?_ (IsS46.ge HI143.out) | refine below_set ?_ GE158.out) | exact HB.out)) hb); clear HO_8; clear HI143; clear BK158; clear HB; have HO_8 := n0_; have HI143 := n1_; have BK158 := n2_; have HB := n3_; clear n0_ n1_ n2_ n3_; (try clear hb); (try clear hb2); (try clear hk); (try clear hi)))
                        go_roundg k3
                        case measure => have := HJ3.out; have := HK2.out; have := HK3.out; omega
                        case rel => exact ⟨(wrap64 (x12_3 + 1)), (x144000_3), (by first | rfl | (simp; done) | (simp [*]; done) | (refine qa_int ?_; omega) | (refine qa_int ?_; simp <;> omega)), H', ⟨by have := HJ3.out; have := HK2.out; have := HK3.out; omega⟩, ⟨by (with_reducible repeat (first | apply Kd.R_alloc | apply Kd.R_drewN | apply Kd.R_drew)); exact HO_8.out⟩, ⟨by repeat (first | (with_reducible first | exact HI143.out | apply IsS46.alloc | apply IsS46.drewN | apply IsS46.drew | apply IsS46.set_0 | (refine IsS46.far ?_ ?_ _; rotate_left; focus ((repeat (first | exact Oth.of_blk BK158.out (by decide) (by decide) | apply Oth.set | apply Oth.alloc | apply Oth.drewN | apply Oth.drew)); done))) | exact HI143.out)⟩, ⟨by repeat (first | (with_reducible first | exact HB.out | apply below_alloc | apply pw_below_drewN | apply below_drew1 | refine below_set ?_ (IsS46.ge HI143.out) | refine below_set ?_ GE158.out) | exact HB.out)⟩⟩
                    · rw [if_neg c47] at H
                      exact absurd H (by simp)
                  · rw [if_neg c46] at H
                    have c46b0 : decide (x12_3 < (l1.length : Int)) = false := decide_eq_false c46
                    clear c46
                    have H' := Aside0.mk H
                    clear H
                    go_wp2
                    go_loopg [14] k3 (fun kq v14 w' => ∃ (x14_4 : Int) (x144000_4 : Tr S33), v14 = .int .i64 x14_4 ∧ Aside0 (milestonelaw09_TrieUndoes.l2 kq l1 a2 x8_2 x14_4 x144000_4 = some r) ∧ Aside0 (kq ≤ k3) ∧ Aside0 (Kd.R k33 33 w' w.heap.size (fun _ => True) u8 x8_2) ∧ Aside0 (IsS46 w w' g143 x144000_4) ∧ Aside0 (Below w.heap.size w w'))
                    case atStart => exact ⟨(0), (x144000_3), (by first | rfl | (simp; done) | (simp [*]; done) | (refine qa_int ?_; omega) | (refine qa_int ?_; simp <;> omega)), H', ⟨Nat.le_refl _⟩, ⟨by (with_reducible repeat (first | apply Kd.R_alloc | apply Kd.R_drewN | apply Kd.R_drew)); exact HO_8.out⟩, ⟨by repeat (first | (with_reducible first | exact HI143.out | apply IsS46.alloc | apply IsS46.drewN | apply IsS46.drew | apply IsS46.set_0) | exact HI143.out)⟩, ⟨by repeat (first | (with_reducible first | exact HB.out | apply below_alloc | apply pw_below_drewN | apply below_drew1 | refine below_set ?_ (IsS46.ge HI143.out)) | exact HB.out)⟩⟩
                    case round =>
                      clear H'
                      try clear c1
                      try clear p1
                      try clear q1
                      try clear hx1
                      try clear c2
                      try clear p2
                      try clear q2
                      try clear hx2
                      try clear c3
                      try clear hx3
                      try clear hf3
                      try clear c4
                      try clear c5
                      try clear c6
                      try clear p6
                      try clear c7
                      try clear c7b0
                      try clear c7b1
                      try clear c8
                      try clear c11
                      try clear c13
                      try clear c14
                      try clear p14
                      try clear q14
                      try clear hx14
                      try clear c15
                      try clear c15b0
                      try clear p15
                      try clear q15
                      try clear hx15
                      try clear c16
                      try clear c16b0
                      try clear c20
                      try clear c20b0
                      try clear c21
                      try clear c21b0
                      try clear c22
                      try clear c22b0
                      try clear c23
                      try clear p23
                      try clear q23
                      try clear hx23
                      try clear hf23
                      try clear c26
                      try clear c33
                      try clear hx33
                      try clear hf33
                      try clear c35
                      try clear c38
                      try clear c46
                      try clear c46b0
                      try clear c47
                      try clear c47b0
                      try clear c50
                      try clear c50b0
                      try clear c54
                      try clear c62
                      try clear p64
                      try clear hcz27_0
                      try clear hcz27_1
                      try clear hcz27_2
                      try clear hcz27_3
                      try clear hcz27_4
                      try clear hcz29_0
                      try clear hcz29_1
                      try clear hcz29_2
                      try clear hcz29_3
                      try clear hcz29_4
                      try clear hcz32_0
                      try clear hcz32_1
                      try clear hcz32_2
                      try clear hcz32_3
                      try clear hcz32_4
                      try clear hcz39_0
                      try clear hcz39_1
                      try clear hcz39_2
                      try clear hcz39_3
                      try clear hcz39_4
                      try clear hcz41_0
                      try clear hcz41_1
                      try clear hcz41_2
                      try clear hcz41_3
                      try clear hcz41_4
                      try clear hcz44_0
                      try clear hcz44_1
                      try clear hcz44_2
                      try clear hcz44_3
                      try clear hcz44_4
                      try clear hcz55_0
                      try clear hcz55_1
                      try clear hcz58_0
                      try clear hcz58_1
                      try clear hcz63_0
                      try clear hcz63_1
                      try clear hfz27_0
                      try clear hfz27_1
                      try clear hfz27_2
                      try clear hfz27_3
                      try clear hfz27_4
                      try clear hfz29_0
                      try clear hfz29_1
                      try clear hfz29_2
                      try clear hfz29_3
                      try clear hfz29_4
                      try clear hfz32_0
                      try clear hfz32_1
                      try clear hfz32_2
                      try clear hfz32_3
                      try clear hfz32_4
                      try clear hfz39_0
                      try clear hfz39_1
                      try clear hfz39_2
                      try clear hfz39_3
                      try clear hfz39_4
                      try clear hfz41_0
                      try clear hfz41_1
                      try clear hfz41_2
                      try clear hfz41_3
                      try clear hfz41_4
                      try clear hfz44_0
                      try clear hfz44_1
                      try clear hfz44_2
                      try clear hfz44_3
                      try clear hfz44_4
                      try clear hfz55_0
                      try clear hfz55_1
                      try clear hfz58_0
                      try clear hfz58_1
                      try clear hfz63_0
                      try clear hfz63_1
                      try clear hx144_0
                      try clear hx144_1
                      try clear hx144_2
                      try clear hx144_3
                      try clear hx155_0
                      try clear hx155_1
                      try clear hx155_2
                      try clear hx155_3
                      try clear hx23_0
                      try clear hx23_1
                      try clear hx23_2
                      try clear hx23_3
                      try clear hx23_4
                      try clear hx33_0
                      try clear hx33_1
                      try clear hx33_2
                      try clear hx33_3
                      try clear hx33_4
                      try clear p1
                      try clear p14
                      try clear p144
                      try clear p155
                      try clear p2
                      try clear p23
                      try clear p6
                      try clear q1
                      try clear q14
                      try clear q144
                      try clear q155
                      try clear q2
                      try clear q23
                      obtain ⟨x14_4, x144000_4, rfl, HA, HK4, HO_8, HI143, HB⟩ := hrel
                      cases gk with
                      | zero => exact absurd HA.out (by simp [milestonelaw09_TrieUndoes.l2])
                      | succ k4 =>
                        have H := HA.out
                        clear HA
                        simp only [milestonelaw09_TrieUndoes.l2] at H
                        by_cases c66 : x14_4 < (l1.length : Int)
                        · rw [if_pos c66] at H
                          have c66b0 : decide (x14_4 < (l1.length : Int)) = true := decide_eq_true c66
                          clear c66
                          by_cases c67 : 0 ≤ x14_4
                          · rw [if_pos c67] at H
                            have c67b0 : decide (0 ≤ x14_4) = true := decide_eq_true c67
                            clear c67
                            replace H := Option.bind_eq_some_iff.mp H
                            obtain ⟨⟨t180, t181⟩, A680, H⟩ := H
                            replace H : ((milestonelaw09_find.f k4 x8_2 t180 t181).bind fun t183 => (if t183 < 0 then ((trie_Trie_Drop.f x144000_4 t180 t181).bind fun bt184 => (milestonelaw09_TrieUndoes.l2 k4 l1 a2 x8_2 (wrap64 (x14_4 + 1)) bt184.2)) else (milestonelaw09_TrieUndoes.l2 k4 l1 a2 x8_2 (wrap64 (x14_4 + 1)) x144000_4))) = some r := H
                            have A68 := Aside0.mk A680
                            clear A680
                            replace H := Option.bind_eq_some_iff.mp H
                            obtain ⟨t183, A690, H⟩ := H
                            replace H : (if t183 < 0 then ((trie_Trie_Drop.f x144000_4 t180 t181).bind fun bt184 => (milestonelaw09_TrieUndoes.l2 k4 l1 a2 x8_2 (wrap64 (x14_4 + 1)) bt184.2)) else (milestonelaw09_TrieUndoes.l2 k4 l1 a2 x8_2 (wrap64 (x14_4 + 1)) x144000_4)) = some r := H
                            have A69 := Aside0.mk A690
                            clear A690
                            by_cases c70 : t183 < 0
                            · rw [if_pos c70] at H
                              have c70b0 : decide (t183 < 0) = true := decide_eq_true c70
                              clear c70
                              replace H := Option.bind_eq_some_iff.mp H
                              obtain ⟨⟨t184, t185⟩, A710, H⟩ := H
                              replace H : (milestonelaw09_TrieUndoes.l2 k4 l1 a2 x8_2 (wrap64 (x14_4 + 1)) t185) = some r := H
                              have A71 := Aside0.mk A710
                              clear A710
                              have H' := Aside0.mk H
                              clear H
                              have p179 : 0 ≤ (x14_4 : Int) := of_decide_eq_true (by first | (with_reducible assumption) | assumption)
                              have q179 : x14_4 < (l1.length : Int) := of_decide_eq_true (by first | (with_reducible assumption) | assumption)
                              obtain ⟨ad179, e179, hx179_0, hx179_1, hx179_2, hx179_3⟩ := at_T30 HR1.out x14_4 p179 q179
                              cases e179
                              replace hx179_0 := (HB.out.cell (World.block_lt_of_cell? w _ hx179_0)).trans hx179_0
                              replace hx179_1 := (HB.out.cell (World.block_lt_of_cell? w _ hx179_1)).trans hx179_1
                              replace hx179_2 := (HB.out.cell (World.block_lt_of_cell? w _ hx179_2)).trans hx179_2
                              replace hx179_3 := (HB.out.cell (World.block_lt_of_cell? w _ hx179_3)).trans hx179_3
                              replace p179 := eq_true p179
                              replace q179 := eq_true q179
                              go_wp2_with (first | ((with_reducible refine gate_callee (f := 8) rfl ?_); refine goesL_ (some 94) rfl rfl Try.func8 (by kernel_rfl) rfl #[.agg #[.int .u8 ((rd_T30 l1 x14_4).f0), .int .u32 ((rd_T30 l1 x14_4).f1), .int .u8 ((rd_T30 l1 x14_4).f2), .int .u8 ((rd_T30 l1 x14_4).f3)]] rfl (by (try simp only [List.map_toArray, List.map_cons, List.map_nil]); first | done | rfl | (simp only [List.length_drop, List.length_take]; rfl) | (simp; done) | (refine qa_arr ?_; (repeat' (first | rfl | refine qa_cons ?_ ?_ | refine qa_int ?_ | refine qa_agg ?_ | refine qa_arr ?_ | omega)); done)) ?_; (with_reducible refine (milestonelaw09_place.calls k4 ((rd_T30 l1 x14_4).f0) ((rd_T30 l1 x14_4).f1) ((rd_T30 l1 x14_4).f2) ((rd_T30 l1 x14_4).f3) t180 t181 _ A68.out).mono ?_); rintro e w72 ⟨rfl, hb⟩; refine ⟨_, rfl, ?_⟩; have n0_ := Aside0.mk (Kd.R_below (by (with_reducible repeat (first | apply Kd.R_alloc | apply Kd.R_drewN | apply Kd.R_drew)); exact HO_8.out) hb); have n1_ := Aside0.mk (IsS46.below (by repeat (first | (with_reducible first | exact HI143.out | apply IsS46.alloc | apply IsS46.drewN | apply IsS46.drew | apply IsS46.set_0) | exact HI143.out)) hb); have n2_ := Aside0.mk (below_step (by repeat (first | (with_reducible first | exact HB.out | apply below_alloc | apply pw_below_drewN | apply below_drew1 | refine below_set ?_ (IsS46.ge HI143.out)) | exact HB.out)) hb); clear HO_8; clear HI143; clear HB; have HO_8 := n0_; have HI143 := n1_; have HB := n2_; clear n0_ n1_ n2_; (try clear hb); (try clear hb2); (try clear hk); (try clear hi)) | ((with_reducible refine gate_dst (N := 15) rfl ?_); (try (refine gate_guard (by rfl) ?_; dsimp only)); refine box_event ?hg (N := 15) ?hd (cs := #[.int .u32 0, .int .u8 0]) (t := 27) ?hr ?_; (case hd => rfl); (case hg => rfl); (case hr => first | (go_simp; done) | (go_simp; rfl)); intro gb182 hg w73 hbox hb; have n0_ := Aside0.mk (Kd.R_below (by (with_reducible repeat (first | apply Kd.R_alloc | apply Kd.R_drewN | apply Kd.R_drew)); exact HO_8.out) hb); have n1_ := Aside0.mk (IsS46.below (by repeat (first | (with_reducible first | exact HI143.out | apply IsS46.alloc | apply IsS46.drewN | apply IsS46.drew | apply IsS46.set_0) | exact HI143.out)) hb); have n2_ := Aside0.mk (below_step (by repeat (first | (with_reducible first | exact HB.out | apply below_alloc | apply pw_below_drewN | apply below_drew1 | refine below_set ?_ (IsS46.ge HI143.out)) | exact HB.out)) hb); have n3_ := Aside0.mk (hbox); have n4_ := Aside0.mk ((by rw [hg]; exact (below_size (by repeat (first | (with_reducible first | exact HB.out | apply below_alloc | apply pw_below_drewN | apply below_drew1 | refine below_set ?_ (IsS46.ge HI143.out)) | exact HB.out))) : w.heap.size ≤ gb182)); have n5_ := Aside0.mk ((by rw [hg]; exact (below_size (by repeat (first | (with_reducible first | exact HB.out | apply below_alloc | apply pw_below_drewN | apply below_drew1 | refine below_set ?_ (IsS46.ge HI143.out)) | exact HB.out))) : w.heap.size ≤ gb182)); have n6_ := Aside0.mk ((by rw [hg]; exact Nat.ne_of_lt (IsS46.lt (show IsS46 w _ g143 x144000_4 from by repeat (first | (with_reducible first | exact HI143.out | apply IsS46.alloc | apply IsS46.drewN | apply IsS46.drew | apply IsS46.set_0) | exact HI143.out))) : g143 ≠ gb182)); have n7_ := Aside0.mk ((by rw [hg]; exact Nat.ne_of_gt (IsS46.lt (show IsS46 w _ g143 x144000_4 from by repeat (first | (with_reducible first | exact HI143.out | apply IsS46.alloc | apply IsS46.drewN | apply IsS46.drew | apply IsS46.set_0) | exact HI143.out))) : gb182 ≠ g143)); clear HO_8; clear HI143; clear HB; have HO_8 := n0_; have HI143 := n1_; have HB := n2_; have BK182 := n3_; have GW182 := n4_; have GE182 := n5_; have NB143_182 := n6_; have NB182_143 := n7_; clear n0_ n1_ n2_ n3_ n4_ n5_ n6_ n7_; clear hb hbox hg; have hnb74 := NB182_143.out; have hnc74 := NB143_182.out; have hcz75_0 : w73.cell? ⟨gb182, 0, none⟩ = some (.int .u32 0) := (blk_cell BK182.out 0).trans rfl; have hcz75_1 : w73.cell? ⟨gb182, 1, none⟩ = some (.int .u8 0) := (blk_cell BK182.out 1).trans rfl; have hfz75_0 := blk_frozen BK182.out 0; have hfz75_1 := blk_frozen BK182.out 1; obtain ⟨Ao76, co76, eo76⟩ := Kd.R_slice HO_8.out; subst eo76) | ((with_reducible refine gate_callee (f := 13) rfl ?_); refine goesL_ (some 97) rfl rfl Try.func13 (by kernel_rfl) rfl #[.slice Ao76 x8_2.length co76, .agg #[.int .u32 t180, .int .u8 t181]] rfl (by (try simp only [List.map_toArray, List.map_cons, List.map_nil]); first | done | rfl | (simp only [List.length_drop, List.length_take]; rfl) | (simp; done) | (refine qa_arr ?_; (repeat' (first | rfl | refine qa_cons ?_ ?_ | refine qa_int ?_ | refine qa_agg ?_ | refine qa_arr ?_ | omega)); done)) ?_; (with_reducible refine (milestonelaw09_find.calls k4 _ _ x8_2 t180 t181 t183 _ ?side1 ?side2 A69.out).mono ?_); (case side1 => refine (Kd.R_reads' (e := 33) (base := w.heap.size) (ok := fun k_ => True) (n := x8_2.length) (c := co76) ?_).2.2; exact (by (with_reducible repeat (first | apply Kd.R_alloc | apply Kd.R_drewN | apply Kd.R_drew)); exact (Kd.R_mono (Kd.R_far (p := ⟨gb182, 1, none⟩) (Kd.R_far (p := ⟨gb182, 0, none⟩) (Kd.R_types HO_8.out BK182.out (by decide)) (fun _ hk => hk.2) (.int .u32 t180)) (fun _ hk => hk.2) (.int .u8 t181)) (fun _ h_ => h_.1)))); (case side2 => exact (Kd.R_reads' HO_8.out).2.1); rintro e w77 ⟨rfl, hb⟩; refine ⟨_, rfl, ?_⟩; have n0_ := Aside0.mk (Kd.R_below (by (with_reducible repeat (first | apply Kd.R_alloc | apply Kd.R_drewN | apply Kd.R_drew)); exact (Kd.R_mono (Kd.R_far (p := ⟨gb182, 1, none⟩) (Kd.R_far (p := ⟨gb182, 0, none⟩) (Kd.R_types HO_8.out BK182.out (by decide)) (fun _ hk => hk.2) (.int .u32 t180)) (fun _ hk => hk.2) (.int .u8 t181)) (fun _ h_ => h_.1))) hb); have n1_ := Aside0.mk (IsS46.below (show IsS46 w ((w73.setCell ⟨gb182, 0, none⟩ (.int .u32 t180)).setCell ⟨gb182, 1, none⟩ (.int .u8 t181)) g143 x144000_4 from by repeat (first | (with_reducible first | exact HI143.out | apply IsS46.alloc | apply IsS46.drewN | apply IsS46.drew | apply IsS46.set_0 | (refine IsS46.far ?_ ?_ _; rotate_left; focus ((repeat (first | exact Oth.of_blk BK182.out (by decide) (by decide) | apply Oth.set | apply Oth.alloc | apply Oth.drewN | apply Oth.drew)); done))) | exact HI143.out)) hb); have n2_ := Aside0.mk (blk_below (g := gb182) (o := .cells #[.int .u32 t180, .int .u8 t181] 27 (0, 0)) (by (with_reducible repeat (first | refine blk_drewN ?_ _ | refine blk_drew ?_ | refine blk_alloc ?_ _)); refine blk_put (cs := #[.int .u32 t180, .int .u8 0]) ?_ 1 _ rfl; (with_reducible repeat (first | refine blk_drewN ?_ _ | refine blk_drew ?_ | refine blk_alloc ?_ _)); refine blk_put (cs := #[.int .u32 0, .int .u8 0]) ?_ 0 _ rfl; (with_reducible repeat (first | refine blk_drewN ?_ _ | refine blk_drew ?_ | refine blk_alloc ?_ _)); exact BK182.out) hb); have n3_ := Aside0.mk (below_step (by repeat (first | (with_reducible first | exact HB.out | apply below_alloc | apply pw_below_drewN | apply below_drew1 | refine below_set ?_ (IsS46.ge HI143.out) | refine below_set ?_ GE182.out) | exact HB.out)) hb); clear HO_8; clear HI143; clear BK182; clear HB; have HO_8 := n0_; have HI143 := n1_; have BK182 := n2_; have HB := n3_; clear n0_ n1_ n2_ n3_; (try clear hb); (try clear hb2); (try clear hk); (try clear hi); have hcz78_0 : w77.cell? ⟨gb182, 0, none⟩ = some (.int .u32 t180) := (blk_cell BK182.out 0).trans rfl; have hcz78_1 : w77.cell? ⟨gb182, 1, none⟩ = some (.int .u8 t181) := (blk_cell BK182.out 1).trans rfl; have hfz78_0 := blk_frozen BK182.out 0; have hfz78_1 := blk_frozen BK182.out 1) | ((with_reducible refine gate_callee (f := 15) rfl ?_); refine goesL_ (some 101) rfl rfl Try.func15 (by kernel_rfl) rfl #[.pointer (some ⟨g143, 0, none⟩), .agg #[.int .u32 t180, .int .u8 t181]] rfl (by (try simp only [List.map_toArray, List.map_cons, List.map_nil]); first | done | rfl | (simp only [List.length_drop, List.length_take]; rfl) | (simp; done) | (refine qa_arr ?_; (repeat' (first | rfl | refine qa_cons ?_ ?_ | refine qa_int ?_ | refine qa_agg ?_ | refine qa_arr ?_ | omega)); done)) ?_; (with_reducible refine (trie_Trie_Drop.calls g143 x144000_4 t180 t181 t184 t185 w _ ?side1 ?side2 A71.out).mono ?_); (case side1 => repeat (first | (with_reducible first | exact HI143.out | apply IsS46.alloc | apply IsS46.drewN | apply IsS46.drew | apply IsS46.set_0 | (refine IsS46.far ?_ ?_ _; rotate_left; focus ((repeat (first | exact Oth.of_blk BK182.out (by decide) (by decide) | apply Oth.set | apply Oth.alloc | apply Oth.drewN | apply Oth.drew)); done))) | exact HI143.out)); (case side2 => repeat (first | (with_reducible first | exact HB.out | apply below_alloc | apply pw_below_drewN | apply below_drew1 | refine below_set ?_ (IsS46.ge HI143.out) | refine below_set ?_ GE182.out) | exact HB.out)); rintro e w79 ⟨rfl, hi, hb, hk⟩; refine ⟨_, rfl, ?_⟩; have n0_ := Aside0.mk (Kd.R_keepT (by (with_reducible repeat (first | apply Kd.R_alloc | apply Kd.R_drewN | apply Kd.R_drew)); exact HO_8.out) hk (by decide)); have n1_ := Aside0.mk (KeepT.blk hk (g := gb182) (o := .cells #[.int .u32 t180, .int .u8 t181] 27 (0, 0)) (by (with_reducible repeat (first | refine blk_drewN ?_ _ | refine blk_drew ?_ | refine blk_alloc ?_ _)); exact BK182.out) rfl (by decide) (by decide)); have n2_ := Aside0.mk (hb); have n3_ := Aside0.mk (hi); clear HO_8; clear BK182; clear HB; clear HI143; have HO_8 := n0_; have BK182 := n1_; have HB := n2_; have HI143 := n3_; clear n0_ n1_ n2_ n3_; (try clear hb); (try clear hb2); (try clear hk); (try clear hi)))
                              go_roundg k4
                              case measure => have := HJ3.out; have := HK2.out; have := HK3.out; have := HK4.out; omega
                              case rel => exact ⟨(wrap64 (x14_4 + 1)), (t185), (by first | rfl | (simp; done) | (simp [*]; done) | (refine qa_int ?_; omega) | (refine qa_int ?_; simp <;> omega)), H', ⟨by have := HJ3.out; have := HK2.out; have := HK3.out; have := HK4.out; omega⟩, ⟨by (with_reducible repeat (first | apply Kd.R_alloc | apply Kd.R_drewN | apply Kd.R_drew)); exact HO_8.out⟩, ⟨by repeat (first | (with_reducible first | exact HI143.out | apply IsS46.alloc | apply IsS46.drewN | apply IsS46.drew | apply IsS46.set_0 | (refine IsS46.far ?_ ?_ _; rotate_left; focus ((repeat (first | exact Oth.of_blk BK182.out (by decide) (by decide) | apply Oth.set | apply Oth.alloc | apply Oth.drewN | apply Oth.drew)); done))) | exact HI143.out)⟩, ⟨by repeat (first | (with_reducible first | exact HB.out | apply below_alloc | apply pw_below_drewN | apply below_drew1 | refine below_set ?_ (IsS46.ge HI143.out) | refine below_set ?_ GE182.out) | exact HB.out)⟩⟩
                            · rw [if_neg c70] at H
                              have c70b0 : decide (t183 < 0) = false := decide_eq_false c70
                              clear c70
                              have H' := Aside0.mk H
                              clear H
                              have p179 : 0 ≤ (x14_4 : Int) := of_decide_eq_true (by first | (with_reducible assumption) | assumption)
                              have q179 : x14_4 < (l1.length : Int) := of_decide_eq_true (by first | (with_reducible assumption) | assumption)
                              obtain ⟨ad179, e179, hx179_0, hx179_1, hx179_2, hx179_3⟩ := at_T30 HR1.out x14_4 p179 q179
                              cases e179
                              replace hx179_0 := (HB.out.cell (World.block_lt_of_cell? w _ hx179_0)).trans hx179_0
                              replace hx179_1 := (HB.out.cell (World.block_lt_of_cell? w _ hx179_1)).trans hx179_1
                              replace hx179_2 := (HB.out.cell (World.block_lt_of_cell? w _ hx179_2)).trans hx179_2
                              replace hx179_3 := (HB.out.cell (World.block_lt_of_cell? w _ hx179_3)).trans hx179_3
                              replace p179 := eq_true p179
                              replace q179 := eq_true q179
                              go_wp2_with (first | ((with_reducible refine gate_callee (f := 8) rfl ?_); refine goesL_ (some 94) rfl rfl Try.func8 (by kernel_rfl) rfl #[.agg #[.int .u8 ((rd_T30 l1 x14_4).f0), .int .u32 ((rd_T30 l1 x14_4).f1), .int .u8 ((rd_T30 l1 x14_4).f2), .int .u8 ((rd_T30 l1 x14_4).f3)]] rfl (by (try simp only [List.map_toArray, List.map_cons, List.map_nil]); first | done | rfl | (simp only [List.length_drop, List.length_take]; rfl) | (simp; done) | (refine qa_arr ?_; (repeat' (first | rfl | refine qa_cons ?_ ?_ | refine qa_int ?_ | refine qa_agg ?_ | refine qa_arr ?_ | omega)); done)) ?_; (with_reducible refine (milestonelaw09_place.calls k4 ((rd_T30 l1 x14_4).f0) ((rd_T30 l1 x14_4).f1) ((rd_T30 l1 x14_4).f2) ((rd_T30 l1 x14_4).f3) t180 t181 _ A68.out).mono ?_); rintro e w80 ⟨rfl, hb⟩; refine ⟨_, rfl, ?_⟩; have n0_ := Aside0.mk (Kd.R_below (by (with_reducible repeat (first | apply Kd.R_alloc | apply Kd.R_drewN | apply Kd.R_drew)); exact HO_8.out) hb); have n1_ := Aside0.mk (IsS46.below (by repeat (first | (with_reducible first | exact HI143.out | apply IsS46.alloc | apply IsS46.drewN | apply IsS46.drew | apply IsS46.set_0) | exact HI143.out)) hb); have n2_ := Aside0.mk (below_step (by repeat (first | (with_reducible first | exact HB.out | apply below_alloc | apply pw_below_drewN | apply below_drew1 | refine below_set ?_ (IsS46.ge HI143.out)) | exact HB.out)) hb); clear HO_8; clear HI143; clear HB; have HO_8 := n0_; have HI143 := n1_; have HB := n2_; clear n0_ n1_ n2_; (try clear hb); (try clear hb2); (try clear hk); (try clear hi)) | ((with_reducible refine gate_dst (N := 15) rfl ?_); (try (refine gate_guard (by rfl) ?_; dsimp only)); refine box_event ?hg (N := 15) ?hd (cs := #[.int .u32 0, .int .u8 0]) (t := 27) ?hr ?_; (case hd => rfl); (case hg => rfl); (case hr => first | (go_simp; done) | (go_simp; rfl)); intro gb182 hg w81 hbox hb; have n0_ := Aside0.mk (Kd.R_below (by (with_reducible repeat (first | apply Kd.R_alloc | apply Kd.R_drewN | apply Kd.R_drew)); exact HO_8.out) hb); have n1_ := Aside0.mk (IsS46.below (by repeat (first | (with_reducible first | exact HI143.out | apply IsS46.alloc | apply IsS46.drewN | apply IsS46.drew | apply IsS46.set_0) | exact HI143.out)) hb); have n2_ := Aside0.mk (below_step (by repeat (first | (with_reducible first | exact HB.out | apply below_alloc | apply pw_below_drewN | apply below_drew1 | refine below_set ?_ (IsS46.ge HI143.out)) | exact HB.out)) hb); have n3_ := Aside0.mk (hbox); have n4_ := Aside0.mk ((by rw [hg]; exact (below_size (by repeat (first | (with_reducible first | exact HB.out | apply below_alloc | apply pw_below_drewN | apply below_drew1 | refine below_set ?_ (IsS46.ge HI143.out)) | exact HB.out))) : w.heap.size ≤ gb182)); have n5_ := Aside0.mk ((by rw [hg]; exact (below_size (by repeat (first | (with_reducible first | exact HB.out | apply below_alloc | apply pw_below_drewN | apply below_drew1 | refine below_set ?_ (IsS46.ge HI143.out)) | exact HB.out))) : w.heap.size ≤ gb182)); have n6_ := Aside0.mk ((by rw [hg]; exact Nat.ne_of_lt (IsS46.lt (show IsS46 w _ g143 x144000_4 from by repeat (first | (with_reducible first | exact HI143.out | apply IsS46.alloc | apply IsS46.drewN | apply IsS46.drew | apply IsS46.set_0) | exact HI143.out))) : g143 ≠ gb182)); have n7_ := Aside0.mk ((by rw [hg]; exact Nat.ne_of_gt (IsS46.lt (show IsS46 w _ g143 x144000_4 from by repeat (first | (with_reducible first | exact HI143.out | apply IsS46.alloc | apply IsS46.drewN | apply IsS46.drew | apply IsS46.set_0) | exact HI143.out))) : gb182 ≠ g143)); clear HO_8; clear HI143; clear HB; have HO_8 := n0_; have HI143 := n1_; have HB := n2_; have BK182 := n3_; have GW182 := n4_; have GE182 := n5_; have NB143_182 := n6_; have NB182_143 := n7_; clear n0_ n1_ n2_ n3_ n4_ n5_ n6_ n7_; clear hb hbox hg; have hnb82 := NB182_143.out; have hnc82 := NB143_182.out; have hcz83_0 : w81.cell? ⟨gb182, 0, none⟩ = some (.int .u32 0) := (blk_cell BK182.out 0).trans rfl; have hcz83_1 : w81.cell? ⟨gb182, 1, none⟩ = some (.int .u8 0) := (blk_cell BK182.out 1).trans rfl; have hfz83_0 := blk_frozen BK182.out 0; have hfz83_1 := blk_frozen BK182.out 1; obtain ⟨Ao84, co84, eo84⟩ := Kd.R_slice HO_8.out; subst eo84) | ((with_reducible refine gate_callee (f := 13) rfl ?_); refine goesL_ (some 97) rfl rfl Try.func13 (by kernel_rfl) rfl #[.slice Ao84 x8_2.length co84, .agg #[.int .u32 t180, .int .u8 t181]] rfl (by (try simp only [List.map_toArray, List.map_cons, List.map_nil]); first | done | rfl | (simp only [List.length_drop, List.length_take]; rfl) | (simp; done) | (refine qa_arr ?_; (repeat' (first | rfl | refine qa_cons ?_ ?_ | refine qa_int ?_ | refine qa_agg ?_ | refine qa_arr ?_ | omega)); done)) ?_; (with_reducible refine (milestonelaw09_find.calls k4 _ _ x8_2 t180 t181 t183 _ ?side1 ?side2 A69.out).mono ?_); (case side1 => refine (Kd.R_reads' (e := 33) (base := w.heap.size) (ok := fun k_ => True) (n := x8_2.length) (c := co84) ?_).2.2; exact (by (with_reducible repeat (first | apply Kd.R_alloc | apply Kd.R_drewN | apply Kd.R_drew)); exact (Kd.R_mono (Kd.R_far (p := ⟨gb182, 1, none⟩) (Kd.R_far (p := ⟨gb182, 0, none⟩) (Kd.R_types HO_8.out BK182.out (by decide)) (fun _ hk => hk.2) (.int .u32 t180)) (fun _ hk => hk.2) (.int .u8 t181)) (fun _ h_ => h_.1)))); (case side2 => exact (Kd.R_reads' HO_8.out).2.1); rintro e w85 ⟨rfl, hb⟩; refine ⟨_, rfl, ?_⟩; have n0_ := Aside0.mk (Kd.R_below (by (with_reducible repeat (first | apply Kd.R_alloc | apply Kd.R_drewN | apply Kd.R_drew)); exact (Kd.R_mono (Kd.R_far (p := ⟨gb182, 1, none⟩) (Kd.R_far (p := ⟨gb182, 0, none⟩) (Kd.R_types HO_8.out BK182.out (by decide)) (fun _ hk => hk.2) (.int .u32 t180)) (fun _ hk => hk.2) (.int .u8 t181)) (fun _ h_ => h_.1))) hb); have n1_ := Aside0.mk (IsS46.below (show IsS46 w ((w81.setCell ⟨gb182, 0, none⟩ (.int .u32 t180)).setCell ⟨gb182, 1, none⟩ (.int .u8 t181)) g143 x144000_4 from by repeat (first | (with_reducible first | exact HI143.out | apply IsS46.alloc | apply IsS46.drewN | apply IsS46.drew | apply IsS46.set_0 | (refine IsS46.far ?_ ?_ _; rotate_left; focus ((repeat (first | exact Oth.of_blk BK182.out (by decide) (by decide) | apply Oth.set | apply Oth.alloc | apply Oth.drewN | apply Oth.drew)); done))) | exact HI143.out)) hb); have n2_ := Aside0.mk (blk_below (g := gb182) (o := .cells #[.int .u32 t180, .int .u8 t181] 27 (0, 0)) (by (with_reducible repeat (first | refine blk_drewN ?_ _ | refine blk_drew ?_ | refine blk_alloc ?_ _)); refine blk_put (cs := #[.int .u32 t180, .int .u8 0]) ?_ 1 _ rfl; (with_reducible repeat (first | refine blk_drewN ?_ _ | refine blk_drew ?_ | refine blk_alloc ?_ _)); refine blk_put (cs := #[.int .u32 0, .int .u8 0]) ?_ 0 _ rfl; (with_reducible repeat (first | refine blk_drewN ?_ _ | refine blk_drew ?_ | refine blk_alloc ?_ _)); exact BK182.out) hb); have n3_ := Aside0.mk (below_step (by repeat (first | (with_reducible first | exact HB.out | apply below_alloc | apply pw_below_drewN | apply below_drew1 | refine below_set ?_ (IsS46.ge HI143.out) | refine below_set ?_ GE182.out) | exact HB.out)) hb); clear HO_8; clear HI143; clear BK182; clear HB; have HO_8 := n0_; have HI143 := n1_; have BK182 := n2_; have HB := n3_; clear n0_ n1_ n2_ n3_; (try clear hb); (try clear hb2); (try clear hk); (try clear hi)))
                              go_roundg k4
                              case measure => have := HJ3.out; have := HK2.out; have := HK3.out; have := HK4.out; omega
                              case rel => exact ⟨(wrap64 (x14_4 + 1)), (x144000_4), (by first | rfl | (simp; done) | (simp [*]; done) | (refine qa_int ?_; omega) | (refine qa_int ?_; simp <;> omega)), H', ⟨by have := HJ3.out; have := HK2.out; have := HK3.out; have := HK4.out; omega⟩, ⟨by (with_reducible repeat (first | apply Kd.R_alloc | apply Kd.R_drewN | apply Kd.R_drew)); exact HO_8.out⟩, ⟨by repeat (first | (with_reducible first | exact HI143.out | apply IsS46.alloc | apply IsS46.drewN | apply IsS46.drew | apply IsS46.set_0 | (refine IsS46.far ?_ ?_ _; rotate_left; focus ((repeat (first | exact Oth.of_blk BK182.out (by decide) (by decide) | apply Oth.set | apply Oth.alloc | apply Oth.drewN | apply Oth.drew)); done))) | exact HI143.out)⟩, ⟨by repeat (first | (with_reducible first | exact HB.out | apply below_alloc | apply pw_below_drewN | apply below_drew1 | refine below_set ?_ (IsS46.ge HI143.out) | refine below_set ?_ GE182.out) | exact HB.out)⟩⟩
                          · rw [if_neg c67] at H
                            exact absurd H (by simp)
                        · rw [if_neg c66] at H
                          have c66b0 : decide (x14_4 < (l1.length : Int)) = false := decide_eq_false c66
                          clear c66
                          replace H := Option.bind_eq_some_iff.mp H
                          obtain ⟨⟨t162, t163, t164, t165, t166, t167, t168⟩, A860, H⟩ := H
                          replace H : ((milestonelaw09_longest.f k4 x8_2 a2).bind fun bt170 => ((trie_Trie_Len.f t168).bind fun bt177 => (if bt177.1 = (x8_2.length : Int) then (if (t167 == bt170.2.2.2.2.2) = true then (some ((t162 == bt170.1 && (t163 == bt170.2.1)) && (t164 == bt170.2.2.1 && (t165 == bt170.2.2.2.1 && (t166 == bt170.2.2.2.2.1))))) else (some false)) else (some false)))) = some r := H
                          have A86 := Aside0.mk A860
                          clear A860
                          replace H := Option.bind_eq_some_iff.mp H
                          obtain ⟨⟨t170, t171, t172, t173, t174, t175⟩, A870, H⟩ := H
                          replace H : ((trie_Trie_Len.f t168).bind fun bt177 => (if bt177.1 = (x8_2.length : Int) then (if (t167 == t175) = true then (some ((t162 == t170 && (t163 == t171)) && (t164 == t172 && (t165 == t173 && (t166 == t174))))) else (some false)) else (some false))) = some r := H
                          have A87 := Aside0.mk A870
                          clear A870
                          replace H := Option.bind_eq_some_iff.mp H
                          obtain ⟨⟨t177, t178⟩, A880, H⟩ := H
                          replace H : (if t177 = (x8_2.length : Int) then (if (t167 == t175) = true then (some ((t162 == t170 && (t163 == t171)) && (t164 == t172 && (t165 == t173 && (t166 == t174))))) else (some false)) else (some false)) = some r := H
                          have A88 := Aside0.mk A880
                          clear A880
                          by_cases c89 : t177 = (x8_2.length : Int)
                          · rw [if_pos c89] at H
                            have c89b0 : (t177 == (x8_2.length : Int)) = true := beq_iff_eq.mpr c89
                            have c89b1 : (t177 != (x8_2.length : Int)) = false := bne_eq_false_iff_eq.mpr c89
                            clear c89
                            by_cases c90 : (t167 == t175) = true
                            · rw [if_pos c90] at H
                              have c90b0 : (t167 == t175) = true := c90
                              (try (have c90b1 : decide (t167 = t175) = true := by simpa using c90))
                              (try (have c90b2 : (t167 == t175) = true := by simpa using c90))
                              clear c90
                              obtain rfl := Option.some.inj H
                              simp only [Option.some.injEq, Prod.mk.injEq] at H
                              obtain ⟨rfl⟩ := H
                              go_wp2_with (first | ((with_reducible refine gate_callee (f := 16) rfl ?_); refine goesL_ (some 105) rfl rfl Try.func16 (by kernel_rfl) rfl #[.pointer (some ⟨g143, 0, none⟩), .int .u32 a2] rfl (by (try simp only [List.map_toArray, List.map_cons, List.map_nil]); first | done | rfl | (simp only [List.length_drop, List.length_take]; rfl) | (simp; done) | (refine qa_arr ?_; (repeat' (first | rfl | refine qa_cons ?_ ?_ | refine qa_int ?_ | refine qa_agg ?_ | refine qa_arr ?_ | omega)); done)) ?_; (with_reducible refine (trie_Trie_Look.calls g143 x144000_4 a2 t162 t163 t164 t165 t166 t167 t168 w _ ?side1 ?side2 A86.out).mono ?_); (case side1 => repeat (first | (with_reducible first | exact HI143.out | apply IsS46.alloc | apply IsS46.drewN | apply IsS46.drew | apply IsS46.set_0) | exact HI143.out)); (case side2 => repeat (first | (with_reducible first | exact HB.out | apply below_alloc | apply pw_below_drewN | apply below_drew1 | refine below_set ?_ (IsS46.ge HI143.out)) | exact HB.out)); rintro e w91 ⟨rfl, hi, hb, hk⟩; refine ⟨_, rfl, ?_⟩; have n0_ := Aside0.mk (Kd.R_keepT (by (with_reducible repeat (first | apply Kd.R_alloc | apply Kd.R_drewN | apply Kd.R_drew)); exact HO_8.out) hk (by decide)); have n1_ := Aside0.mk (hb); have n2_ := Aside0.mk (hi); clear HO_8; clear HB; clear HI143; have HO_8 := n0_; have HB := n1_; have HI143 := n2_; clear n0_ n1_ n2_; (try clear hb); (try clear hb2); (try clear hk); (try clear hi)) | ((with_reducible refine gate_dst (N := 16) rfl ?_); (try (refine gate_guard (by rfl) ?_; dsimp only)); refine box_event ?hg (N := 16) ?hd (cs := #[.int .u32 0, .int .u8 0, .int .i64 0, .int .u16 0, .int .u16 0]) (t := 33) ?hr ?_; (case hd => rfl); (case hg => rfl); (case hr => first | (go_simp; done) | (go_simp; rfl)); intro gb169 hg w92 hbox hb; have n0_ := Aside0.mk (Kd.R_below (Kd.R_elderB (by (with_reducible repeat (first | apply Kd.R_alloc | apply Kd.R_drewN | apply Kd.R_drew)); exact HO_8.out) gb169 (Nat.le_of_eq hg.symm)) hb); have n1_ := Aside0.mk (IsS46.below (by repeat (first | (with_reducible first | exact HI143.out | apply IsS46.alloc | apply IsS46.drewN | apply IsS46.drew | apply IsS46.set_0) | exact HI143.out)) hb); have n2_ := Aside0.mk (below_step (by repeat (first | (with_reducible first | exact HB.out | apply below_alloc | apply pw_below_drewN | apply below_drew1 | refine below_set ?_ (IsS46.ge HI143.out)) | exact HB.out)) hb); have n3_ := Aside0.mk (hbox); have n4_ := Aside0.mk ((by rw [hg]; exact (below_size (by repeat (first | (with_reducible first | exact HB.out | apply below_alloc | apply pw_below_drewN | apply below_drew1 | refine below_set ?_ (IsS46.ge HI143.out)) | exact HB.out))) : w.heap.size ≤ gb169)); have n5_ := Aside0.mk ((by rw [hg]; exact (below_size (by repeat (first | (with_reducible first | exact HB.out | apply below_alloc | apply pw_below_drewN | apply below_drew1 | refine below_set ?_ (IsS46.ge HI143.out)) | exact HB.out))) : w.heap.size ≤ gb169)); have n6_ := Aside0.mk ((by rw [hg]; exact Nat.ne_of_lt (IsS46.lt (show IsS46 w _ g143 t168 from by repeat (first | (with_reducible first | exact HI143.out | apply IsS46.alloc | apply IsS46.drewN | apply IsS46.drew | apply IsS46.set_0) | exact HI143.out))) : g143 ≠ gb169)); have n7_ := Aside0.mk ((by rw [hg]; exact Nat.ne_of_gt (IsS46.lt (show IsS46 w _ g143 t168 from by repeat (first | (with_reducible first | exact HI143.out | apply IsS46.alloc | apply IsS46.drewN | apply IsS46.drew | apply IsS46.set_0) | exact HI143.out))) : gb169 ≠ g143)); clear HO_8; clear HI143; clear HB; have HO_8 := n0_; have HI143 := n1_; have HB := n2_; have BK169 := n3_; have GW169 := n4_; have GE169 := n5_; have NB143_169 := n6_; have NB169_143 := n7_; clear n0_ n1_ n2_ n3_ n4_ n5_ n6_ n7_; clear hb hbox hg; have hnb93 := NB169_143.out; have hnc93 := NB143_169.out; have hcz94_0 : w92.cell? ⟨gb169, 0, none⟩ = some (.int .u32 0) := (blk_cell BK169.out 0).trans rfl; have hcz94_1 : w92.cell? ⟨gb169, 1, none⟩ = some (.int .u8 0) := (blk_cell BK169.out 1).trans rfl; have hcz94_2 : w92.cell? ⟨gb169, 2, none⟩ = some (.int .i64 0) := (blk_cell BK169.out 2).trans rfl; have hcz94_3 : w92.cell? ⟨gb169, 3, none⟩ = some (.int .u16 0) := (blk_cell BK169.out 3).trans rfl; have hcz94_4 : w92.cell? ⟨gb169, 4, none⟩ = some (.int .u16 0) := (blk_cell BK169.out 4).trans rfl; have hfz94_0 := blk_frozen BK169.out 0; have hfz94_1 := blk_frozen BK169.out 1; have hfz94_2 := blk_frozen BK169.out 2; have hfz94_3 := blk_frozen BK169.out 3; have hfz94_4 := blk_frozen BK169.out 4; obtain ⟨Ao95, co95, eo95⟩ := Kd.R_slice HO_8.out; subst eo95) | ((with_reducible refine gate_callee (f := 17) rfl ?_); refine goesL_ (some 111) rfl rfl Try.func17 (by kernel_rfl) rfl #[.slice Ao95 x8_2.length co95, .int .u32 a2] rfl (by (try simp only [List.map_toArray, List.map_cons, List.map_nil]); first | done | rfl | (simp only [List.length_drop, List.length_take]; rfl) | (simp; done) | (refine qa_arr ?_; (repeat' (first | rfl | refine qa_cons ?_ ?_ | refine qa_int ?_ | refine qa_agg ?_ | refine qa_arr ?_ | omega)); done)) ?_; (with_reducible refine (milestonelaw09_longest.calls k4 _ _ x8_2 a2 t170 t171 t172 t173 t174 t175 _ ?side1 ?side2 A87.out).mono ?_); (case side1 => refine (Kd.R_reads' (e := 33) (base := w.heap.size) (ok := fun k_ => (True ∧ k_ ≠ gb169)) (n := x8_2.length) (c := co95) ?_).2.2; exact (by (with_reducible repeat (first | apply Kd.R_alloc | apply Kd.R_drewN | apply Kd.R_drew)); exact (Kd.R_mono (Kd.R_far (p := ⟨gb169, 4, none⟩) (Kd.R_far (p := ⟨gb169, 3, none⟩) (Kd.R_far (p := ⟨gb169, 2, none⟩) (Kd.R_far (p := ⟨gb169, 1, none⟩) (Kd.R_far (p := ⟨gb169, 0, none⟩) (Kd.R_mono HO_8.out (fun k_ hk => (⟨hk, hk.2⟩ : _ ∧ k_ ≠ gb169))) (fun _ hk => hk.2) (.int .u32 t162)) (fun _ hk => hk.2) (.int .u8 t163)) (fun _ hk => hk.2) (.int .i64 t164)) (fun _ hk => hk.2) (.int .u16 t165)) (fun _ hk => hk.2) (.int .u16 t166)) (fun _ h_ => h_.1)))); (case side2 => exact (Kd.R_reads' HO_8.out).2.1); rintro e w96 ⟨rfl, hb⟩; refine ⟨_, rfl, ?_⟩; have n0_ := Aside0.mk (Kd.R_below (by (with_reducible repeat (first | apply Kd.R_alloc | apply Kd.R_drewN | apply Kd.R_drew)); exact (Kd.R_mono (Kd.R_far (p := ⟨gb169, 4, none⟩) (Kd.R_far (p := ⟨gb169, 3, none⟩) (Kd.R_far (p := ⟨gb169, 2, none⟩) (Kd.R_far (p := ⟨gb169, 1, none⟩) (Kd.R_far (p := ⟨gb169, 0, none⟩) (Kd.R_mono HO_8.out (fun k_ hk => (⟨hk, hk.2⟩ : _ ∧ k_ ≠ gb169))) (fun _ hk => hk.2) (.int .u32 t162)) (fun _ hk => hk.2) (.int .u8 t163)) (fun _ hk => hk.2) (.int .i64 t164)) (fun _ hk => hk.2) (.int .u16 t165)) (fun _ hk => hk.2) (.int .u16 t166)) (fun _ h_ => h_.1))) hb); have n1_ := Aside0.mk (IsS46.below (show IsS46 w (((((w92.setCell ⟨gb169, 0, none⟩ (.int .u32 t162)).setCell ⟨gb169, 1, none⟩ (.int .u8 t163)).setCell ⟨gb169, 2, none⟩ (.int .i64 t164)).setCell ⟨gb169, 3, none⟩ (.int .u16 t165)).setCell ⟨gb169, 4, none⟩ (.int .u16 t166)) g143 t168 from by repeat (first | (with_reducible first | exact HI143.out | apply IsS46.alloc | apply IsS46.drewN | apply IsS46.drew | apply IsS46.set_0 | (refine IsS46.far ?_ ?_ _; rotate_left; focus ((repeat (first | exact Oth.of_blk BK169.out (by decide) (by decide) | apply Oth.set | apply Oth.alloc | apply Oth.drewN | apply Oth.drew)); done))) | exact HI143.out)) hb); have n2_ := Aside0.mk (blk_below (g := gb169) (o := .cells #[.int .u32 t162, .int .u8 t163, .int .i64 t164, .int .u16 t165, .int .u16 t166] 33 (0, 0)) (by (with_reducible repeat (first | refine blk_drewN ?_ _ | refine blk_drew ?_ | refine blk_alloc ?_ _)); refine blk_put (cs := #[.int .u32 t162, .int .u8 t163, .int .i64 t164, .int .u16 t165, .int .u16 0]) ?_ 4 _ rfl; (with_reducible repeat (first | refine blk_drewN ?_ _ | refine blk_drew ?_ | refine blk_alloc ?_ _)); refine blk_put (cs := #[.int .u32 t162, .int .u8 t163, .int .i64 t164, .int .u16 0, .int .u16 0]) ?_ 3 _ rfl; (with_reducible repeat (first | refine blk_drewN ?_ _ | refine blk_drew ?_ | refine blk_alloc ?_ _)); refine blk_put (cs := #[.int .u32 t162, .int .u8 t163, .int .i64 0, .int .u16 0, .int .u16 0]) ?_ 2 _ rfl; (with_reducible repeat (first | refine blk_drewN ?_ _ | refine blk_drew ?_ | refine blk_alloc ?_ _)); refine blk_put (cs := #[.int .u32 t162, .int .u8 0, .int .i64 0, .int .u16 0, .int .u16 0]) ?_ 1 _ rfl; (with_reducible repeat (first | refine blk_drewN ?_ _ | refine blk_drew ?_ | refine blk_alloc ?_ _)); refine blk_put (cs := #[.int .u32 0, .int .u8 0, .int .i64 0, .int .u16 0, .int .u16 0]) ?_ 0 _ rfl; (with_reducible repeat (first | refine blk_drewN ?_ _ | refine blk_drew ?_ | refine blk_alloc ?_ _)); exact BK169.out) hb); have n3_ := Aside0.mk (below_step (by repeat (first | (with_reducible first | exact HB.out | apply below_alloc | apply pw_below_drewN | apply below_drew1 | refine below_set ?_ (IsS46.ge HI143.out) | refine below_set ?_ GE169.out) | exact HB.out)) hb); clear HO_8; clear HI143; clear BK169; clear HB; have HO_8 := n0_; have HI143 := n1_; have BK169 := n2_; have HB := n3_; clear n0_ n1_ n2_ n3_; (try clear hb); (try clear hb2); (try clear hk); (try clear hi)) | ((with_reducible refine gate_dst (N := 18) rfl ?_); (try (refine gate_guard (by rfl) ?_; dsimp only)); refine box_event ?hg (N := 18) ?hd (cs := #[.int .u32 0, .int .u8 0, .int .i64 0, .int .u16 0, .int .u16 0]) (t := 33) ?hr ?_; (case hd => rfl); (case hg => rfl); (case hr => first | (go_simp; done) | (go_simp; rfl)); intro gb176 hg w97 hbox hb; have n0_ := Aside0.mk (Kd.R_below (Kd.R_elderB (by (with_reducible repeat (first | apply Kd.R_alloc | apply Kd.R_drewN | apply Kd.R_drew)); exact HO_8.out) gb176 (Nat.le_of_eq hg.symm)) hb); have n1_ := Aside0.mk (IsS46.below (by repeat (first | (with_reducible first | exact HI143.out | apply IsS46.alloc | apply IsS46.drewN | apply IsS46.drew | apply IsS46.set_0 | (refine IsS46.far ?_ ?_ _; rotate_left; focus ((repeat (first | exact Oth.of_blk BK169.out (by decide) (by decide) | apply Oth.set | apply Oth.alloc | apply Oth.drewN | apply Oth.drew)); done))) | exact HI143.out)) hb); have n2_ := Aside0.mk (blk_below (g := gb169) (o := .cells #[.int .u32 t162, .int .u8 t163, .int .i64 t164, .int .u16 t165, .int .u16 t166] 33 (0, 0)) (by (with_reducible repeat (first | refine blk_drewN ?_ _ | refine blk_drew ?_ | refine blk_alloc ?_ _)); exact BK169.out) hb); have n3_ := Aside0.mk (below_step (by repeat (first | (with_reducible first | exact HB.out | apply below_alloc | apply pw_below_drewN | apply below_drew1 | refine below_set ?_ (IsS46.ge HI143.out) | refine below_set ?_ GE169.out) | exact HB.out)) hb); have n4_ := Aside0.mk (hbox); have n5_ := Aside0.mk ((by rw [hg]; exact (below_size (by repeat (first | (with_reducible first | exact HB.out | apply below_alloc | apply pw_below_drewN | apply below_drew1 | refine below_set ?_ (IsS46.ge HI143.out) | refine below_set ?_ GE169.out) | exact HB.out))) : w.heap.size ≤ gb176)); have n6_ := Aside0.mk ((by rw [hg]; exact (below_size (by repeat (first | (with_reducible first | exact HB.out | apply below_alloc | apply pw_below_drewN | apply below_drew1 | refine below_set ?_ (IsS46.ge HI143.out) | refine below_set ?_ GE169.out) | exact HB.out))) : w.heap.size ≤ gb176)); have n7_ := Aside0.mk ((by rw [hg]; exact Nat.ne_of_lt (blk_lt (g := gb169) (o := .cells #[.int .u32 t162, .int .u8 t163, .int .i64 t164, .int .u16 t165, .int .u16 t166] 33 (0, 0)) (by (with_reducible repeat (first | refine blk_drewN ?_ _ | refine blk_drew ?_ | refine blk_alloc ?_ _)); exact BK169.out)) : gb169 ≠ gb176)); have n8_ := Aside0.mk ((by rw [hg]; exact Nat.ne_of_gt (blk_lt (g := gb169) (o := .cells #[.int .u32 t162, .int .u8 t163, .int .i64 t164, .int .u16 t165, .int .u16 t166] 33 (0, 0)) (by (with_reducible repeat (first | refine blk_drewN ?_ _ | refine blk_drew ?_ | refine blk_alloc ?_ _)); exact BK169.out)) : gb176 ≠ gb169)); have n9_ := Aside0.mk ((by rw [hg]; exact Nat.ne_of_lt (IsS46.lt (show IsS46 w _ g143 t168 from by repeat (first | (with_reducible first | exact HI143.out | apply IsS46.alloc | apply IsS46.drewN | apply IsS46.drew | apply IsS46.set_0 | (refine IsS46.far ?_ ?_ _; rotate_left; focus ((repeat (first | exact Oth.of_blk BK169.out (by decide) (by decide) | apply Oth.set | apply Oth.alloc | apply Oth.drewN | apply Oth.drew)); done))) | exact HI143.out))) : g143 ≠ gb176)); have n10_ := Aside0.mk ((by rw [hg]; exact Nat.ne_of_gt (IsS46.lt (show IsS46 w _ g143 t168 from by repeat (first | (with_reducible first | exact HI143.out | apply IsS46.alloc | apply IsS46.drewN | apply IsS46.drew | apply IsS46.set_0 | (refine IsS46.far ?_ ?_ _; rotate_left; focus ((repeat (first | exact Oth.of_blk BK169.out (by decide) (by decide) | apply Oth.set | apply Oth.alloc | apply Oth.drewN | apply Oth.drew)); done))) | exact HI143.out))) : gb176 ≠ g143)); clear HO_8; clear HI143; clear BK169; clear HB; have HO_8 := n0_; have HI143 := n1_; have BK169 := n2_; have HB := n3_; have BK176 := n4_; have GW176 := n5_; have GE176 := n6_; have NB169_176 := n7_; have NB176_169 := n8_; have NB143_176 := n9_; have NB176_143 := n10_; clear n0_ n1_ n2_ n3_ n4_ n5_ n6_ n7_ n8_ n9_ n10_; clear hb hbox hg; have hnb98 := NB176_169.out; have hnc98 := NB169_176.out; have hnb99 := NB176_143.out; have hnc99 := NB143_176.out; have hcz100_0 : w97.cell? ⟨gb176, 0, none⟩ = some (.int .u32 0) := (blk_cell BK176.out 0).trans rfl; have hcz100_1 : w97.cell? ⟨gb176, 1, none⟩ = some (.int .u8 0) := (blk_cell BK176.out 1).trans rfl; have hcz100_2 : w97.cell? ⟨gb176, 2, none⟩ = some (.int .i64 0) := (blk_cell BK176.out 2).trans rfl; have hcz100_3 : w97.cell? ⟨gb176, 3, none⟩ = some (.int .u16 0) := (blk_cell BK176.out 3).trans rfl; have hcz100_4 : w97.cell? ⟨gb176, 4, none⟩ = some (.int .u16 0) := (blk_cell BK176.out 4).trans rfl; have hfz100_0 := blk_frozen BK176.out 0; have hfz100_1 := blk_frozen BK176.out 1; have hfz100_2 := blk_frozen BK176.out 2; have hfz100_3 := blk_frozen BK176.out 3; have hfz100_4 := blk_frozen BK176.out 4) | ((with_reducible refine gate_callee (f := 11) rfl ?_); refine goesL_ (some 115) rfl rfl Try.func11 (by kernel_rfl) rfl #[.pointer (some ⟨g143, 0, none⟩)] rfl (by (try simp only [List.map_toArray, List.map_cons, List.map_nil]); first | done | rfl | (simp only [List.length_drop, List.length_take]; rfl) | (simp; done) | (refine qa_arr ?_; (repeat' (first | rfl | refine qa_cons ?_ ?_ | refine qa_int ?_ | refine qa_agg ?_ | refine qa_arr ?_ | omega)); done)) ?_; (with_reducible refine (trie_Trie_Len.calls g143 t168 t177 t178 w _ ?side1 ?side2 A88.out).mono ?_); (case side1 => repeat (first | (with_reducible first | exact HI143.out | apply IsS46.alloc | apply IsS46.drewN | apply IsS46.drew | apply IsS46.set_0 | (refine IsS46.far ?_ ?_ _; rotate_left; focus ((repeat (first | exact Oth.of_blk BK169.out (by decide) (by decide) | apply Oth.set | apply Oth.alloc | apply Oth.drewN | apply Oth.drew)); done)) | (refine IsS46.far ?_ ?_ _; rotate_left; focus ((repeat (first | exact Oth.of_blk BK176.out (by decide) (by decide) | apply Oth.set | apply Oth.alloc | apply Oth.drewN | apply Oth.drew)); done))) | exact HI143.out)); (case side2 => repeat (first | (with_reducible first | exact HB.out | apply below_alloc | apply pw_below_drewN | apply below_drew1 | refine below_set ?_ (IsS46.ge HI143.out) | refine below_set ?_ GE169.out | refine below_set ?_ GE176.out) | exact HB.out)); rintro e w101 ⟨rfl, hi, hb, hk⟩; refine ⟨_, rfl, ?_⟩; have n0_ := Aside0.mk (Kd.R_keepT (by (with_reducible repeat (first | apply Kd.R_alloc | apply Kd.R_drewN | apply Kd.R_drew)); exact (Kd.R_mono (Kd.R_far (p := ⟨gb176, 4, none⟩) (Kd.R_far (p := ⟨gb176, 3, none⟩) (Kd.R_far (p := ⟨gb176, 2, none⟩) (Kd.R_far (p := ⟨gb176, 1, none⟩) (Kd.R_far (p := ⟨gb176, 0, none⟩) (Kd.R_mono HO_8.out (fun k_ hk => (⟨hk, hk.2⟩ : _ ∧ k_ ≠ gb176))) (fun _ hk => hk.2) (.int .u32 t170)) (fun _ hk => hk.2) (.int .u8 t171)) (fun _ hk => hk.2) (.int .i64 t172)) (fun _ hk => hk.2) (.int .u16 t173)) (fun _ hk => hk.2) (.int .u16 t174)) (fun _ h_ => h_.1))) hk (by decide)); have n1_ := Aside0.mk (KeepT.blk hk (g := gb169) (o := .cells #[.int .u32 t162, .int .u8 t163, .int .i64 t164, .int .u16 t165, .int .u16 t166] 33 (0, 0)) (by (with_reducible repeat (first | refine blk_drewN ?_ _ | refine blk_drew ?_ | refine blk_alloc ?_ _)); refine blk_far ?_ NB169_176.out _; (with_reducible repeat (first | refine blk_drewN ?_ _ | refine blk_drew ?_ | refine blk_alloc ?_ _)); refine blk_far ?_ NB169_176.out _; (with_reducible repeat (first | refine blk_drewN ?_ _ | refine blk_drew ?_ | refine blk_alloc ?_ _)); refine blk_far ?_ NB169_176.out _; (with_reducible repeat (first | refine blk_drewN ?_ _ | refine blk_drew ?_ | refine blk_alloc ?_ _)); refine blk_far ?_ NB169_176.out _; (with_reducible repeat (first | refine blk_drewN ?_ _ | refine blk_drew ?_ | refine blk_alloc ?_ _)); refine blk_far ?_ NB169_176.out _; (with_reducible repeat (first | refine blk_drewN ?_ _ | refine blk_drew ?_ | refine blk_alloc ?_ _)); exact BK169.out) rfl (by decide) (by decide)); have n2_ := Aside0.mk (KeepT.blk hk (g := gb176) (o := .cells #[.int .u32 t170, .int .u8 t171, .int .i64 t172, .int .u16 t173, .int .u16 t174] 33 (0, 0)) (by (with_reducible repeat (first | refine blk_drewN ?_ _ | refine blk_drew ?_ | refine blk_alloc ?_ _)); refine blk_put (cs := #[.int .u32 t170, .int .u8 t171, .int .i64 t172, .int .u16 t173, .int .u16 0]) ?_ 4 _ rfl; (with_reducible repeat (first | refine blk_drewN ?_ _ | refine blk_drew ?_ | refine blk_alloc ?_ _)); refine blk_put (cs := #[.int .u32 t170, .int .u8 t171, .int .i64 t172, .int .u16 0, .int .u16 0]) ?_ 3 _ rfl; (with_reducible repeat (first | refine blk_drewN ?_ _ | refine blk_drew ?_ | refine blk_alloc ?_ _)); refine blk_put (cs := #[.int .u32 t170, .int .u8 t171, .int .i64 0, .int .u16 0, .int .u16 0]) ?_ 2 _ rfl; (with_reducible repeat (first | refine blk_drewN ?_ _ | refine blk_drew ?_ | refine blk_alloc ?_ _)); refine blk_put (cs := #[.int .u32 t170, .int .u8 0, .int .i64 0, .int .u16 0, .int .u16 0]) ?_ 1 _ rfl; (with_reducible repeat (first | refine blk_drewN ?_ _ | refine blk_drew ?_ | refine blk_alloc ?_ _)); refine blk_put (cs := #[.int .u32 0, .int .u8 0, .int .i64 0, .int .u16 0, .int .u16 0]) ?_ 0 _ rfl; (with_reducible repeat (first | refine blk_drewN ?_ _ | refine blk_drew ?_ | refine blk_alloc ?_ _)); exact BK176.out) rfl (by decide) (by decide)); have n3_ := Aside0.mk (hb); have n4_ := Aside0.mk (hi); clear HO_8; clear BK169; clear BK176; clear HB; clear HI143; have HO_8 := n0_; have BK169 := n1_; have BK176 := n2_; have HB := n3_; have HI143 := n4_; clear n0_ n1_ n2_ n3_ n4_; (try clear hb); (try clear hb2); (try clear hk); (try clear hi); have hcz102_0 : w101.cell? ⟨gb169, 0, none⟩ = some (.int .u32 t162) := (blk_cell BK169.out 0).trans rfl; have hcz102_1 : w101.cell? ⟨gb169, 1, none⟩ = some (.int .u8 t163) := (blk_cell BK169.out 1).trans rfl; have hcz102_2 : w101.cell? ⟨gb169, 2, none⟩ = some (.int .i64 t164) := (blk_cell BK169.out 2).trans rfl; have hcz102_3 : w101.cell? ⟨gb169, 3, none⟩ = some (.int .u16 t165) := (blk_cell BK169.out 3).trans rfl; have hcz102_4 : w101.cell? ⟨gb169, 4, none⟩ = some (.int .u16 t166) := (blk_cell BK169.out 4).trans rfl; have hfz102_0 := blk_frozen BK169.out 0; have hfz102_1 := blk_frozen BK169.out 1; have hfz102_2 := blk_frozen BK169.out 2; have hfz102_3 := blk_frozen BK169.out 3; have hfz102_4 := blk_frozen BK169.out 4; have hcz103_0 : w101.cell? ⟨gb176, 0, none⟩ = some (.int .u32 t170) := (blk_cell BK176.out 0).trans rfl; have hcz103_1 : w101.cell? ⟨gb176, 1, none⟩ = some (.int .u8 t171) := (blk_cell BK176.out 1).trans rfl; have hcz103_2 : w101.cell? ⟨gb176, 2, none⟩ = some (.int .i64 t172) := (blk_cell BK176.out 2).trans rfl; have hcz103_3 : w101.cell? ⟨gb176, 3, none⟩ = some (.int .u16 t173) := (blk_cell BK176.out 3).trans rfl; have hcz103_4 : w101.cell? ⟨gb176, 4, none⟩ = some (.int .u16 t174) := (blk_cell BK176.out 4).trans rfl; have hfz103_0 := blk_frozen BK176.out 0; have hfz103_1 := blk_frozen BK176.out 1; have hfz103_2 := blk_frozen BK176.out 2; have hfz103_3 := blk_frozen BK176.out 3; have hfz103_4 := blk_frozen BK176.out 4))
                              go_ret
                              exact ⟨by first | rfl | (simp [errW_none, errW_some] <;> rfl) | (simp [*, errW_none, errW_some] <;> rfl), by repeat (first | (with_reducible first | exact HB.out | apply below_alloc | apply pw_below_drewN | apply below_drew1 | refine below_set ?_ (IsS46.ge HI143.out) | refine below_set ?_ GE169.out | refine below_set ?_ GE176.out) | exact HB.out)⟩
                            · rw [if_neg c90] at H
                              have c90b0 : (t167 == t175) = false := by simpa using c90
                              (try (have c90b1 : decide (t167 = t175) = false := by simpa using c90))
                              (try (have c90b2 : (t167 == t175) = false := by simpa using c90))
                              (try (have c90b3 : ¬ (t167 = t175) := by simpa using c90))
                              clear c90
                              obtain rfl := Option.some.inj H
                              exact absurd HT.out (by decide)
                          · rw [if_neg c89] at H
                            have c89b0 : (t177 == (x8_2.length : Int)) = false := beq_eq_false_iff_ne.mpr c89
                            have c89b1 : (t177 != (x8_2.length : Int)) = true := bne_iff_ne.mpr c89
                            obtain rfl := Option.some.inj H
                            exact absurd HT.out (by decide)

/-- THE ONE PURE STATEMENT of milestonelaw09_TrieUndoes: yours. -/
def milestonelaw09_TrieUndoes.Pure : Prop := ∀ (l0 : List (S30)) (l1 : List (S30)) (a2 : Int), l0.length ≤ maxLen → (∀ x ∈ l0, ((Lit.int .u8 x.f0).wf = true ∧ ((Lit.int .u32 x.f1).wf = true ∧ ((Lit.int .u8 x.f2).wf = true ∧ (Lit.int .u8 x.f3).wf = true)))) → l1.length ≤ maxLen → (∀ x ∈ l1, ((Lit.int .u8 x.f0).wf = true ∧ ((Lit.int .u32 x.f1).wf = true ∧ ((Lit.int .u8 x.f2).wf = true ∧ (Lit.int .u8 x.f3).wf = true)))) → (Lit.int .u32 a2).wf = true → ∃ k, milestonelaw09_TrieUndoes.f k l0 l1 a2 = some true
theorem milestonelaw09_TrieUndoes.walk (P : milestonelaw09_TrieUndoes.Pure) (a0 : Option Addr) (cap0 : Nat) (l0 : List (S30)) (a1 : Option Addr) (cap1 : Nat) (l1 : List (S30)) (a2 : Int) (w : World) (hr0 : Kd.C k30 w a0 l0.length l0) (hc0 : l0.length ≤ cap0) (hm0 : l0.length ≤ maxLen) (hw0 : ∀ x ∈ l0, ((Lit.int .u8 x.f0).wf = true ∧ ((Lit.int .u32 x.f1).wf = true ∧ ((Lit.int .u8 x.f2).wf = true ∧ (Lit.int .u8 x.f3).wf = true)))) (hr1 : Kd.C k30 w a1 l1.length l1) (hc1 : l1.length ≤ cap1) (hm1 : l1.length ≤ maxLen) (hw1 : ∀ x ∈ l1, ((Lit.int .u8 x.f0).wf = true ∧ ((Lit.int .u32 x.f1).wf = true ∧ ((Lit.int .u8 x.f2).wf = true ∧ (Lit.int .u8 x.f3).wf = true)))) (w2 : (Lit.int .u32 a2).wf = true) :
    Calls Try.prog 4 #[.slice a0 l0.length cap0, .slice a1 l1.length cap1, .int .u32 a2] w fun e w' => e = .returned (.bool true) ∧ Below w.heap.size w w' := by
  obtain ⟨k, h⟩ := P l0 l1 a2 hm0 hw0 hm1 hw1 w2
  refine (milestonelaw09_TrieUndoes.calls k _ _ l0 _ _ l1 a2 true w hr0 hc0 hr1 hc1 h rfl).mono ?_
  rintro e w' ⟨rfl, hd⟩
  exact ⟨rfl, hd⟩

end Go.Proofs.Ytbmiifhmgfhidaa.QTrieUndoes
