-- Lines by a program of this session, for this claim.
import Derived.Test.YtbmiifhmgfhidaaQTrieNestsx0
import Derived.Test.YtbmiifhmgfhidaaQTrieNestsx2
import Derived.Test.YtbmiifhmgfhidaaQTrieNestsx3
import Derived.Test.YtbmiifhmgfhidaaQTrieNestsx4
import Derived.Test.YtbmiifhmgfhidaaQTrieNestsx5
namespace Go.Proofs.Ytbmiifhmgfhidaa.QTrieNests
open Go.RowKit Go.Proofs.YtbmiifhmgfhidaaW.PrintWords Go.Proofs.YtbmiifhmgfhidaaW.PrintLast Go.Proofs.YtbmiifhmgfhidaaW.PrintMore
attribute [local go_sem] max2_int min2_int max_two min_two max_three min_three max_four min_four   -- for this text's walks alone
set_option linter.unusedVariables false
set_option linter.unusedSimpArgs false

/-! ### milestonelaw09_TrieNests: function 6 -/
mutual
def milestonelaw09_TrieNests.j0 : Nat → List (S30) → Int → Bool → Option (Bool)
  | 0, _, _, _ => none
  | k + 1, x0, x1, x19 => if x19 = true then ((milestonelaw09_awake.f).bind fun t133 => (some t133)) else (milestonelaw09_TrieNests.l0 k x0 x1 0 (Tr.node none Tr.nil Tr.nil))
def milestonelaw09_TrieNests.l0 : Nat → List (S30) → Int → Int → Tr S33 → Option (Bool)
  | 0, _, _, _, _ => none
  | k + 1, x0, x1, x6, x135000 => if x6 < (x0.length : Int) then (if 0 ≤ x6 then ((milestonelaw09_place.f k ((rd_T30 x0 x6).f0) ((rd_T30 x0 x6).f1) ((rd_T30 x0 x6).f2) ((rd_T30 x0 x6).f3)).bind fun bt136 => ((trie_Trie_Put.f x135000 bt136.1 bt136.2 x6 0 0).bind fun bt138 => (milestonelaw09_TrieNests.l0 k x0 x1 (wrap64 (x6 + 1)) bt138.2))) else (none)) else (milestonelaw09_TrieNests.l1 k x1 99 0 x135000)
def milestonelaw09_TrieNests.l1 : Nat → Int → Int → Int → Tr S33 → Option (Bool)
  | 0, _, _, _, _ => none
  | k + 1, x1, x7, x8, x135000 => if x8 < 40 then ((trie_Trie_Look.f x135000 x1).bind fun bt140 => (if bt140.2.2.2.2.2.1 = true then ((prefix_Has.f bt140.1 bt140.2.1 x1).bind fun t154 => (if t154 = true then (if bt140.2.1 ≥ x7 then (some false) else ((trie_Trie_Drop.f bt140.2.2.2.2.2.2 bt140.1 bt140.2.1).bind fun bt155 => (if bt155.1 = 0 then (milestonelaw09_TrieNests.l1 k x1 bt140.2.1 (wrap64 (x8 + 1)) bt155.2) else (some false)))) else (some false))) else ((trie_Trie_All.f bt140.2.2.2.2.2.2).bind fun bt148 => (milestonelaw09_TrieNests.l2 k x1 bt148.1 0)))) else (some false)
def milestonelaw09_TrieNests.l2 : Nat → Int → List (S33) → Int → Option (Bool)
  | 0, _, _, _ => none
  | k + 1, x1, x11, x12 => if x12 < (x11.length : Int) then (if 0 ≤ x12 then ((prefix_Has.f ((rd_T33 x11 x12).f0.f0) ((rd_T33 x11 x12).f0.f1) x1).bind fun t153 => (if t153 = true then (some false) else (milestonelaw09_TrieNests.l2 k x1 x11 (wrap64 (x12 + 1))))) else (none)) else (some true)
end
def milestonelaw09_TrieNests.f (k : Nat) (l0 : List (S30)) (a1 : Int) : Option (Bool) := (milestonelaw09_awake.f).bind fun t132 => (if t132 = true then (milestonelaw09_TrieNests.j0 k l0 a1 (decide ((l0.length : Int) > 40))) else (milestonelaw09_TrieNests.j0 k l0 a1 true))
theorem milestonelaw09_TrieNests.mono_l : ∀ k, (∀ y0 y1 y2, LeO (milestonelaw09_TrieNests.j0 k y0 y1 y2) (milestonelaw09_TrieNests.j0 (k + 1) y0 y1 y2)) ∧ (∀ y0 y1 y2 y3, LeO (milestonelaw09_TrieNests.l0 k y0 y1 y2 y3) (milestonelaw09_TrieNests.l0 (k + 1) y0 y1 y2 y3)) ∧ (∀ y0 y1 y2 y3, LeO (milestonelaw09_TrieNests.l1 k y0 y1 y2 y3) (milestonelaw09_TrieNests.l1 (k + 1) y0 y1 y2 y3)) ∧ (∀ y0 y1 y2, LeO (milestonelaw09_TrieNests.l2 k y0 y1 y2) (milestonelaw09_TrieNests.l2 (k + 1) y0 y1 y2))
  | 0 => ⟨fun _ _ _ r h => by simp [milestonelaw09_TrieNests.j0] at h, fun _ _ _ _ r h => by simp [milestonelaw09_TrieNests.l0] at h, fun _ _ _ _ r h => by simp [milestonelaw09_TrieNests.l1] at h, fun _ _ _ r h => by simp [milestonelaw09_TrieNests.l2] at h⟩
  | k + 1 => by
    obtain ⟨ih0, ih1, ih2, ih3⟩ := milestonelaw09_TrieNests.mono_l k
    refine ⟨?_, ?_, ?_, ?_⟩
    · intro y0 y1 y2
      unfold milestonelaw09_TrieNests.j0
      repeat' first
      | (with_reducible exact ih0 _ _ _)
      | (with_reducible exact ih1 _ _ _ _)
      | (with_reducible exact ih2 _ _ _ _)
      | (with_reducible exact ih3 _ _ _)
      | (with_reducible exact milestonelaw09_place.mono _ _ _ _ _)
      | (with_reducible exact LeO.refl _)
      | (with_reducible exact LeO.none _)
      | (with_reducible refine LeO.ite ?_ ?_)
      | (with_reducible refine LeO.bind ?_ (fun _ => ?_))
      | exact ih0 _ _ _
      | exact ih1 _ _ _ _
      | exact ih2 _ _ _ _
      | exact ih3 _ _ _
      | exact milestonelaw09_place.mono _ _ _ _ _
      | exact LeO.none _
      | refine LeO.ite ?_ ?_
      | refine LeO.bind ?_ (fun _ => ?_)
    · intro y0 y1 y2 y3
      unfold milestonelaw09_TrieNests.l0
      repeat' first
      | (with_reducible exact ih0 _ _ _)
      | (with_reducible exact ih1 _ _ _ _)
      | (with_reducible exact ih2 _ _ _ _)
      | (with_reducible exact ih3 _ _ _)
      | (with_reducible exact milestonelaw09_place.mono _ _ _ _ _)
      | (with_reducible exact LeO.refl _)
      | (with_reducible exact LeO.none _)
      | (with_reducible refine LeO.ite ?_ ?_)
      | (with_reducible refine LeO.bind ?_ (fun _ => ?_))
      | exact ih0 _ _ _
      | exact ih1 _ _ _ _
      | exact ih2 _ _ _ _
      | exact ih3 _ _ _
      | exact milestonelaw09_place.mono _ _ _ _ _
      | exact LeO.none _
      | refine LeO.ite ?_ ?_
      | refine LeO.bind ?_ (fun _ => ?_)
    · intro y0 y1 y2 y3
      unfold milestonelaw09_TrieNests.l1
      repeat' first
      | (with_reducible exact ih0 _ _ _)
      | (with_reducible exact ih1 _ _ _ _)
      | (with_reducible exact ih2 _ _ _ _)
      | (with_reducible exact ih3 _ _ _)
      | (with_reducible exact milestonelaw09_place.mono _ _ _ _ _)
      | (with_reducible exact LeO.refl _)
      | (with_reducible exact LeO.none _)
      | (with_reducible refine LeO.ite ?_ ?_)
      | (with_reducible refine LeO.bind ?_ (fun _ => ?_))
      | exact ih0 _ _ _
      | exact ih1 _ _ _ _
      | exact ih2 _ _ _ _
      | exact ih3 _ _ _
      | exact milestonelaw09_place.mono _ _ _ _ _
      | exact LeO.none _
      | refine LeO.ite ?_ ?_
      | refine LeO.bind ?_ (fun _ => ?_)
    · intro y0 y1 y2
      unfold milestonelaw09_TrieNests.l2
      repeat' first
      | (with_reducible exact ih0 _ _ _)
      | (with_reducible exact ih1 _ _ _ _)
      | (with_reducible exact ih2 _ _ _ _)
      | (with_reducible exact ih3 _ _ _)
      | (with_reducible exact milestonelaw09_place.mono _ _ _ _ _)
      | (with_reducible exact LeO.refl _)
      | (with_reducible exact LeO.none _)
      | (with_reducible refine LeO.ite ?_ ?_)
      | (with_reducible refine LeO.bind ?_ (fun _ => ?_))
      | exact ih0 _ _ _
      | exact ih1 _ _ _ _
      | exact ih2 _ _ _ _
      | exact ih3 _ _ _
      | exact milestonelaw09_place.mono _ _ _ _ _
      | exact LeO.none _
      | refine LeO.ite ?_ ?_
      | refine LeO.bind ?_ (fun _ => ?_)
theorem milestonelaw09_TrieNests.mono : ∀ a0 a1 k, LeO (milestonelaw09_TrieNests.f k a0 a1) (milestonelaw09_TrieNests.f (k + 1) a0 a1) := by
  intro a0 a1 k
  obtain ⟨ih0, ih1, ih2, ih3⟩ := milestonelaw09_TrieNests.mono_l k
  unfold milestonelaw09_TrieNests.f
  repeat' first
      | (with_reducible exact ih0 _ _ _)
      | (with_reducible exact ih1 _ _ _ _)
      | (with_reducible exact ih2 _ _ _ _)
      | (with_reducible exact ih3 _ _ _)
      | (with_reducible exact milestonelaw09_place.mono _ _ _ _ _)
      | (with_reducible exact LeO.refl _)
      | (with_reducible exact LeO.none _)
      | (with_reducible refine LeO.ite ?_ ?_)
      | (with_reducible refine LeO.bind ?_ (fun _ => ?_))
      | exact ih0 _ _ _
      | exact ih1 _ _ _ _
      | exact ih2 _ _ _ _
      | exact ih3 _ _ _
      | exact milestonelaw09_place.mono _ _ _ _ _
      | exact LeO.none _
      | refine LeO.ite ?_ ?_
      | refine LeO.bind ?_ (fun _ => ?_)
set_option maxHeartbeats 8000000 in
set_option maxRecDepth 100000 in
theorem milestonelaw09_TrieNests.calls (k : Nat) (A0 : Option Addr) (c0 : Nat) (l0 : List (S30)) (a1 : Int) (r : Bool) (w : World) (hr0 : Kd.C k30 w A0 l0.length l0) (hc0 : l0.length ≤ c0) (h : milestonelaw09_TrieNests.f k l0 a1 = some r) (hT : r = true) :
    Calls Try.prog 6 #[.slice A0 l0.length c0, .int .u32 a1] w fun e w' => e = .returned (.bool r) ∧ Below w.heap.size w w' := by
  have HT := Aside0.mk hT
  clear hT
  have hu46 := Try.underlying46
  have hu30 := Try.underlying30
  have hu33 := Try.underlying33
  have hu27 := Try.underlying27
  have HR0 := Aside0.mk hr0
  have HC0 := Aside0.mk hc0
  clear hr0 hc0
  have HB := Aside0.mk (Below.refl w.heap.size w)
  have H : ((milestonelaw09_awake.f).bind fun t132 => (if t132 = true then (milestonelaw09_TrieNests.j0 k l0 a1 (decide ((l0.length : Int) > 40))) else (milestonelaw09_TrieNests.j0 k l0 a1 true))) = some r := h
  clear h
  have HC3 := Aside0.mk H
  clear H
  go_enter Try.func6, Try.ntmps6
  go_upto_region 1 with (fail)
  go_cut [19] (fun v19 wc => ∃ (kq : Nat) (x19_2 : Bool), v19 = .bool x19_2 ∧ Aside0 (milestonelaw09_TrieNests.j0 kq l0 a1 x19_2 = some r) ∧ Aside0 (kq ≤ k) ∧ Aside0 (Below w.heap.size w wc))
  case first =>
    have H := HC3.out
    clear HC3
    replace H := Option.bind_eq_some_iff.mp H
    obtain ⟨t132, A40, H⟩ := H
    replace H : (if t132 = true then (milestonelaw09_TrieNests.j0 k l0 a1 (decide ((l0.length : Int) > 40))) else (milestonelaw09_TrieNests.j0 k l0 a1 true)) = some r := H
    have A4 := Aside0.mk A40
    clear A40
    by_cases c5 : t132 = true
    · subst c5
      have H1 : (milestonelaw09_TrieNests.j0 k l0 a1 (decide ((l0.length : Int) > 40))) = some r := by rw [if_pos rfl] at H; exact H
      clear H
      have H := H1
      clear H1
      have H' := Aside0.mk H
      clear H
      go_wp2_with (first | ((with_reducible refine gate_callee (f := 7) rfl ?_); refine goesL_ (some 13) rfl rfl Try.func7 (by kernel_rfl) rfl #[] rfl (by (try simp only [List.map_toArray, List.map_cons, List.map_nil]); first | done | rfl | (simp only [List.length_drop, List.length_take]; rfl) | (simp; done) | (refine qa_arr ?_; (repeat' (first | rfl | refine qa_cons ?_ ?_ | refine qa_int ?_ | refine qa_agg ?_ | refine qa_arr ?_ | omega)); done)) ?_; (with_reducible refine (milestonelaw09_awake.calls  true _ A4.out).mono ?_); rintro e w6 ⟨rfl, hb⟩; refine ⟨_, rfl, ?_⟩; have n0_ := Aside0.mk (below_step (by repeat (first | (with_reducible first | exact HB.out | apply below_alloc | apply pw_below_drewN | apply below_drew1) | exact HB.out)) hb); clear HB; have HB := n0_; clear n0_; (try clear hb); (try clear hb2); (try clear hk); (try clear hi)))
      go_meet
      case rel => exact ⟨_, (decide ((l0.length : Int) > 40)), (by first | rfl | (simp; done) | (simp [*]; done) | (refine qa_int ?_; omega) | (refine qa_int ?_; simp <;> omega)), H', ⟨by first | omega | exact Nat.le_refl _⟩, ⟨by repeat (first | (with_reducible first | exact HB.out | apply below_alloc | apply pw_below_drewN | apply below_drew1) | exact HB.out)⟩⟩
    · replace c5 := Bool.eq_false_iff.mpr c5
      subst c5
      have H1 : (milestonelaw09_TrieNests.j0 k l0 a1 true) = some r := by rw [if_neg (show ¬ (false = true) by decide)] at H; exact H
      clear H
      have H := H1
      clear H1
      have H' := Aside0.mk H
      clear H
      go_wp2_with (first | ((with_reducible refine gate_callee (f := 7) rfl ?_); refine goesL_ (some 13) rfl rfl Try.func7 (by kernel_rfl) rfl #[] rfl (by (try simp only [List.map_toArray, List.map_cons, List.map_nil]); first | done | rfl | (simp only [List.length_drop, List.length_take]; rfl) | (simp; done) | (refine qa_arr ?_; (repeat' (first | rfl | refine qa_cons ?_ ?_ | refine qa_int ?_ | refine qa_agg ?_ | refine qa_arr ?_ | omega)); done)) ?_; (with_reducible refine (milestonelaw09_awake.calls  false _ A4.out).mono ?_); rintro e w7 ⟨rfl, hb⟩; refine ⟨_, rfl, ?_⟩; have n0_ := Aside0.mk (below_step (by repeat (first | (with_reducible first | exact HB.out | apply below_alloc | apply pw_below_drewN | apply below_drew1) | exact HB.out)) hb); clear HB; have HB := n0_; clear n0_; (try clear hb); (try clear hb2); (try clear hk); (try clear hi)))
      go_meet
      case rel => exact ⟨_, (true), (by first | rfl | (simp; done) | (simp [*]; done) | (refine qa_int ?_; omega) | (refine qa_int ?_; simp <;> omega)), H', ⟨by first | omega | exact Nat.le_refl _⟩, ⟨by repeat (first | (with_reducible first | exact HB.out | apply below_alloc | apply pw_below_drewN | apply below_drew1) | exact HB.out)⟩⟩
  case rest =>
    clear HC3
    try clear p2
    try clear c5
    try clear c6
    try clear c7
    obtain ⟨kq, x19_2, rfl, HA, HJ2, HB⟩ := hcut
    cases kq with
    | zero => exact absurd HA.out (by simp [milestonelaw09_TrieNests.j0])
    | succ kj2 =>
      have H := HA.out
      clear HA
      simp only [milestonelaw09_TrieNests.j0] at H
      by_cases c8 : x19_2 = true
      · subst c8
        have H1 : ((milestonelaw09_awake.f).bind fun t133 => (some t133)) = some r := by rw [if_pos rfl] at H; exact H
        clear H
        have H := H1
        clear H1
        replace H := Option.bind_eq_some_iff.mp H
        obtain ⟨t133, A90, H⟩ := H
        replace H : (some t133) = some r := H
        have A9 := Aside0.mk A90
        clear A90
        obtain rfl := Option.some.inj H
        simp only [Option.some.injEq, Prod.mk.injEq] at H
        obtain ⟨rfl⟩ := H
        go_wp2_with (first | ((with_reducible refine gate_callee (f := 7) rfl ?_); refine goesL_ (some 20) rfl rfl Try.func7 (by kernel_rfl) rfl #[] rfl (by (try simp only [List.map_toArray, List.map_cons, List.map_nil]); first | done | rfl | (simp only [List.length_drop, List.length_take]; rfl) | (simp; done) | (refine qa_arr ?_; (repeat' (first | rfl | refine qa_cons ?_ ?_ | refine qa_int ?_ | refine qa_agg ?_ | refine qa_arr ?_ | omega)); done)) ?_; (with_reducible refine (milestonelaw09_awake.calls  t133 _ A9.out).mono ?_); rintro e w10 ⟨rfl, hb⟩; refine ⟨_, rfl, ?_⟩; have n0_ := Aside0.mk (below_step (by repeat (first | (with_reducible first | exact HB.out | apply below_alloc | apply pw_below_drewN | apply below_drew1) | exact HB.out)) hb); clear HB; have HB := n0_; clear n0_; (try clear hb); (try clear hb2); (try clear hk); (try clear hi)))
        go_ret
        exact ⟨by first | rfl | (simp [errW_none, errW_some] <;> rfl) | (simp [*, errW_none, errW_some] <;> rfl), by repeat (first | (with_reducible first | exact HB.out | apply below_alloc | apply pw_below_drewN | apply below_drew1) | exact HB.out)⟩
      · replace c8 := Bool.eq_false_iff.mpr c8
        subst c8
        have H1 : (milestonelaw09_TrieNests.l0 kj2 l0 a1 0 (Tr.node none Tr.nil Tr.nil)) = some r := by rw [if_neg (show ¬ (false = true) by decide)] at H; exact H
        clear H
        have H := H1
        clear H1
        have H' := Aside0.mk H
        clear H
        go_wp2_with (first | ((with_reducible refine gate_dst (N := 22) rfl ?_); (try (refine gate_guard (by rfl) ?_; dsimp only)); refine box_event ?hg (N := 22) ?hd (cs := #[.bool false, .int .u32 0, .int .u8 0, .int .i64 0, .int .u16 0, .int .u16 0, .pointer none, .pointer none, .int .i64 0]) (t := 46) ?hr ?_; (case hd => rfl); (case hg => rfl); (case hr => first | (go_simp; done) | (go_simp; rfl)); intro g134 hg w11 hbox hb; have n0_ := Aside0.mk (below_step (by repeat (first | (with_reducible first | exact HB.out | apply below_alloc | apply pw_below_drewN | apply below_drew1) | exact HB.out)) hb); have n1_ := Aside0.mk (IsS46.mk0 hbox (by rw [hg]; exact (below_size (by repeat (first | (with_reducible first | exact HB.out | apply below_alloc | apply pw_below_drewN | apply below_drew1) | exact HB.out))))); clear HB; have HB := n0_; have HI134 := n1_; clear n0_ n1_; clear hb hbox hg))
        go_loopg [6] kj2 (fun kq v6 w' => ∃ (x6_2 : Int) (x135000_2 : Tr S33), v6 = .int .i64 x6_2 ∧ Aside0 (milestonelaw09_TrieNests.l0 kq l0 a1 x6_2 x135000_2 = some r) ∧ Aside0 (kq ≤ kj2) ∧ Aside0 (IsS46 w w' g134 x135000_2) ∧ Aside0 (Below w.heap.size w w'))
        case atStart => exact ⟨(0), ((Tr.node none Tr.nil Tr.nil)), (by first | rfl | (simp; done) | (simp [*]; done) | (refine qa_int ?_; omega) | (refine qa_int ?_; simp <;> omega)), H', ⟨Nat.le_refl _⟩, ⟨by repeat (first | (with_reducible first | exact HI134.out | apply IsS46.alloc | apply IsS46.drewN | apply IsS46.drew | apply IsS46.set_0) | exact HI134.out)⟩, ⟨by repeat (first | (with_reducible first | exact HB.out | apply below_alloc | apply pw_below_drewN | apply below_drew1 | refine below_set ?_ (IsS46.ge HI134.out)) | exact HB.out)⟩⟩
        case round =>
          clear H'
          try clear p2
          try clear c5
          try clear c6
          try clear c7
          try clear c8
          try clear p2
          obtain ⟨x6_2, x135000_2, rfl, HA, HK2, HI134, HB⟩ := hrel
          cases gk with
          | zero => exact absurd HA.out (by simp [milestonelaw09_TrieNests.l0])
          | succ k2 =>
            have H := HA.out
            clear HA
            simp only [milestonelaw09_TrieNests.l0] at H
            by_cases c12 : x6_2 < (l0.length : Int)
            · rw [if_pos c12] at H
              have c12b0 : decide (x6_2 < (l0.length : Int)) = true := decide_eq_true c12
              clear c12
              by_cases c13 : 0 ≤ x6_2
              · rw [if_pos c13] at H
                have c13b0 : decide (0 ≤ x6_2) = true := decide_eq_true c13
                clear c13
                replace H := Option.bind_eq_some_iff.mp H
                obtain ⟨⟨t136, t137⟩, A140, H⟩ := H
                replace H : ((trie_Trie_Put.f x135000_2 t136 t137 x6_2 0 0).bind fun bt138 => (milestonelaw09_TrieNests.l0 k2 l0 a1 (wrap64 (x6_2 + 1)) bt138.2)) = some r := H
                have A14 := Aside0.mk A140
                clear A140
                replace H := Option.bind_eq_some_iff.mp H
                obtain ⟨⟨t138, t139⟩, A150, H⟩ := H
                replace H : (milestonelaw09_TrieNests.l0 k2 l0 a1 (wrap64 (x6_2 + 1)) t139) = some r := H
                have A15 := Aside0.mk A150
                clear A150
                have H' := Aside0.mk H
                clear H
                have p135 : 0 ≤ (x6_2 : Int) := of_decide_eq_true (by first | (with_reducible assumption) | assumption)
                have q135 : x6_2 < (l0.length : Int) := of_decide_eq_true (by first | (with_reducible assumption) | assumption)
                obtain ⟨ad135, e135, hx135_0, hx135_1, hx135_2, hx135_3⟩ := at_T30 HR0.out x6_2 p135 q135
                cases e135
                replace hx135_0 := (HB.out.cell (World.block_lt_of_cell? w _ hx135_0)).trans hx135_0
                replace hx135_1 := (HB.out.cell (World.block_lt_of_cell? w _ hx135_1)).trans hx135_1
                replace hx135_2 := (HB.out.cell (World.block_lt_of_cell? w _ hx135_2)).trans hx135_2
                replace hx135_3 := (HB.out.cell (World.block_lt_of_cell? w _ hx135_3)).trans hx135_3
                replace p135 := eq_true p135
                replace q135 := eq_true q135
                go_wp2_with (first | ((with_reducible refine gate_callee (f := 8) rfl ?_); refine goesL_ (some 34) rfl rfl Try.func8 (by kernel_rfl) rfl #[.agg #[.int .u8 ((rd_T30 l0 x6_2).f0), .int .u32 ((rd_T30 l0 x6_2).f1), .int .u8 ((rd_T30 l0 x6_2).f2), .int .u8 ((rd_T30 l0 x6_2).f3)]] rfl (by (try simp only [List.map_toArray, List.map_cons, List.map_nil]); first | done | rfl | (simp only [List.length_drop, List.length_take]; rfl) | (simp; done) | (refine qa_arr ?_; (repeat' (first | rfl | refine qa_cons ?_ ?_ | refine qa_int ?_ | refine qa_agg ?_ | refine qa_arr ?_ | omega)); done)) ?_; (with_reducible refine (milestonelaw09_place.calls k2 ((rd_T30 l0 x6_2).f0) ((rd_T30 l0 x6_2).f1) ((rd_T30 l0 x6_2).f2) ((rd_T30 l0 x6_2).f3) t136 t137 _ A14.out).mono ?_); rintro e w16 ⟨rfl, hb⟩; refine ⟨_, rfl, ?_⟩; have n0_ := Aside0.mk (IsS46.below (by repeat (first | (with_reducible first | exact HI134.out | apply IsS46.alloc | apply IsS46.drewN | apply IsS46.drew | apply IsS46.set_0) | exact HI134.out)) hb); have n1_ := Aside0.mk (below_step (by repeat (first | (with_reducible first | exact HB.out | apply below_alloc | apply pw_below_drewN | apply below_drew1 | refine below_set ?_ (IsS46.ge HI134.out)) | exact HB.out)) hb); clear HI134; clear HB; have HI134 := n0_; have HB := n1_; clear n0_ n1_; (try clear hb); (try clear hb2); (try clear hk); (try clear hi)) | ((with_reducible refine gate_callee (f := 14) rfl ?_); refine goesL_ (some 37) rfl rfl Try.func14 (by kernel_rfl) rfl #[.pointer (some ⟨g134, 0, none⟩), .agg #[.int .u32 t136, .int .u8 t137, .int .i64 x6_2, .int .u16 0, .int .u16 0]] rfl (by (try simp only [List.map_toArray, List.map_cons, List.map_nil]); first | done | rfl | (simp only [List.length_drop, List.length_take]; rfl) | (simp; done) | (refine qa_arr ?_; (repeat' (first | rfl | refine qa_cons ?_ ?_ | refine qa_int ?_ | refine qa_agg ?_ | refine qa_arr ?_ | omega)); done)) ?_; (with_reducible refine (trie_Trie_Put.calls g134 x135000_2 t136 t137 x6_2 0 0 t138 t139 w _ ?side1 ?side2 A15.out).mono ?_); (case side1 => repeat (first | (with_reducible first | exact HI134.out | apply IsS46.alloc | apply IsS46.drewN | apply IsS46.drew | apply IsS46.set_0) | exact HI134.out)); (case side2 => repeat (first | (with_reducible first | exact HB.out | apply below_alloc | apply pw_below_drewN | apply below_drew1 | refine below_set ?_ (IsS46.ge HI134.out)) | exact HB.out)); rintro e w17 ⟨rfl, hi, hb, hk⟩; refine ⟨_, rfl, ?_⟩; have n0_ := Aside0.mk (hb); have n1_ := Aside0.mk (hi); clear HB; clear HI134; have HB := n0_; have HI134 := n1_; clear n0_ n1_; (try clear hb); (try clear hb2); (try clear hk); (try clear hi)))
                go_roundg k2
                case measure => have := HJ2.out; have := HK2.out; omega
                case rel => exact ⟨(wrap64 (x6_2 + 1)), (t139), (by first | rfl | (simp; done) | (simp [*]; done) | (refine qa_int ?_; omega) | (refine qa_int ?_; simp <;> omega)), H', ⟨by have := HJ2.out; have := HK2.out; omega⟩, ⟨by repeat (first | (with_reducible first | exact HI134.out | apply IsS46.alloc | apply IsS46.drewN | apply IsS46.drew | apply IsS46.set_0) | exact HI134.out)⟩, ⟨by repeat (first | (with_reducible first | exact HB.out | apply below_alloc | apply pw_below_drewN | apply below_drew1 | refine below_set ?_ (IsS46.ge HI134.out)) | exact HB.out)⟩⟩
              · rw [if_neg c13] at H
                exact absurd H (by simp)
            · rw [if_neg c12] at H
              have c12b0 : decide (x6_2 < (l0.length : Int)) = false := decide_eq_false c12
              clear c12
              have H' := Aside0.mk H
              clear H
              go_wp2
              go_loopg [7, 8] k2 (fun kq v7 v8 w' => ∃ (x7_3 : Int) (x8_3 : Int) (x135000_3 : Tr S33), v7 = .int .u8 x7_3 ∧ v8 = .int .i64 x8_3 ∧ Aside0 (milestonelaw09_TrieNests.l1 kq a1 x7_3 x8_3 x135000_3 = some r) ∧ Aside0 (kq ≤ k2) ∧ Aside0 (IsS46 w w' g134 x135000_3) ∧ Aside0 (Below w.heap.size w w'))
              case atStart => exact ⟨(99), (0), (x135000_2), (by first | rfl | (simp; done) | (simp [*]; done) | (refine qa_int ?_; omega) | (refine qa_int ?_; simp <;> omega)), (by first | rfl | (simp; done) | (simp [*]; done) | (refine qa_int ?_; omega) | (refine qa_int ?_; simp <;> omega)), H', ⟨Nat.le_refl _⟩, ⟨by repeat (first | (with_reducible first | exact HI134.out | apply IsS46.alloc | apply IsS46.drewN | apply IsS46.drew | apply IsS46.set_0) | exact HI134.out)⟩, ⟨by repeat (first | (with_reducible first | exact HB.out | apply below_alloc | apply pw_below_drewN | apply below_drew1 | refine below_set ?_ (IsS46.ge HI134.out)) | exact HB.out)⟩⟩
              case round =>
                clear H'
                try clear c1
                try clear p1
                try clear q1
                try clear hx1
                try clear p2
                try clear c5
                try clear c6
                try clear p6
                try clear c7
                try clear c8
                try clear c12
                try clear c12b0
                try clear c13
                try clear c13b0
                try clear p13
                try clear q13
                try clear hx13
                try clear c14
                try clear hx135_0
                try clear hx135_1
                try clear hx135_2
                try clear hx135_3
                try clear p135
                try clear p2
                try clear q135
                obtain ⟨x7_3, x8_3, x135000_3, rfl, rfl, HA, HK3, HI134, HB⟩ := hrel
                cases gk with
                | zero => exact absurd HA.out (by simp [milestonelaw09_TrieNests.l1])
                | succ k3 =>
                  have H := HA.out
                  clear HA
                  simp only [milestonelaw09_TrieNests.l1] at H
                  by_cases c18 : x8_3 < 40
                  · rw [if_pos c18] at H
                    have c18b0 : decide (x8_3 < 40) = true := decide_eq_true c18
                    clear c18
                    replace H := Option.bind_eq_some_iff.mp H
                    obtain ⟨⟨t140, t141, t142, t143, t144, t145, t146⟩, A190, H⟩ := H
                    replace H : (if t145 = true then ((prefix_Has.f t140 t141 a1).bind fun t154 => (if t154 = true then (if t141 ≥ x7_3 then (some false) else ((trie_Trie_Drop.f t146 t140 t141).bind fun bt155 => (if bt155.1 = 0 then (milestonelaw09_TrieNests.l1 k3 a1 t141 (wrap64 (x8_3 + 1)) bt155.2) else (some false)))) else (some false))) else ((trie_Trie_All.f t146).bind fun bt148 => (milestonelaw09_TrieNests.l2 k3 a1 bt148.1 0))) = some r := H
                    have A19 := Aside0.mk A190
                    clear A190
                    by_cases c20 : t145 = true
                    · subst c20
                      have H1 : ((prefix_Has.f t140 t141 a1).bind fun t154 => (if t154 = true then (if t141 ≥ x7_3 then (some false) else ((trie_Trie_Drop.f t146 t140 t141).bind fun bt155 => (if bt155.1 = 0 then (milestonelaw09_TrieNests.l1 k3 a1 t141 (wrap64 (x8_3 + 1)) bt155.2) else (some false)))) else (some false))) = some r := by rw [if_pos rfl] at H; exact H
                      clear H
                      have H := H1
                      clear H1
                      replace H := Option.bind_eq_some_iff.mp H
                      obtain ⟨t154, A210, H⟩ := H
                      replace H : (if t154 = true then (if t141 ≥ x7_3 then (some false) else ((trie_Trie_Drop.f t146 t140 t141).bind fun bt155 => (if bt155.1 = 0 then (milestonelaw09_TrieNests.l1 k3 a1 t141 (wrap64 (x8_3 + 1)) bt155.2) else (some false)))) else (some false)) = some r := H
                      have A21 := Aside0.mk A210
                      clear A210
                      by_cases c22 : t154 = true
                      · subst c22
                        have H1 : (if t141 ≥ x7_3 then (some false) else ((trie_Trie_Drop.f t146 t140 t141).bind fun bt155 => (if bt155.1 = 0 then (milestonelaw09_TrieNests.l1 k3 a1 t141 (wrap64 (x8_3 + 1)) bt155.2) else (some false)))) = some r := by rw [if_pos rfl] at H; exact H
                        clear H
                        have H := H1
                        clear H1
                        by_cases c23 : t141 ≥ x7_3
                        · rw [if_pos c23] at H
                          have c23b0 : decide (x7_3 ≤ t141) = true := decide_eq_true c23
                          clear c23
                          obtain rfl := Option.some.inj H
                          exact absurd HT.out (by decide)
                        · rw [if_neg c23] at H
                          have c23b0 : decide (x7_3 ≤ t141) = false := decide_eq_false c23
                          clear c23
                          replace H := Option.bind_eq_some_iff.mp H
                          obtain ⟨⟨t155, t156⟩, A240, H⟩ := H
                          replace H : (if t155 = 0 then (milestonelaw09_TrieNests.l1 k3 a1 t141 (wrap64 (x8_3 + 1)) t156) else (some false)) = some r := H
                          have A24 := Aside0.mk A240
                          clear A240
                          by_cases c25 : t155 = 0
                          · rw [if_pos c25] at H
                            have c25b0 : (t155 == 0) = true := beq_iff_eq.mpr c25
                            have c25b1 : (t155 != 0) = false := bne_eq_false_iff_eq.mpr c25
                            clear c25
                            have H' := Aside0.mk H
                            clear H
                            go_wp2_with (first | ((with_reducible refine gate_callee (f := 16) rfl ?_); refine goesL_ (some 45) rfl rfl Try.func16 (by kernel_rfl) rfl #[.pointer (some ⟨g134, 0, none⟩), .int .u32 a1] rfl (by (try simp only [List.map_toArray, List.map_cons, List.map_nil]); first | done | rfl | (simp only [List.length_drop, List.length_take]; rfl) | (simp; done) | (refine qa_arr ?_; (repeat' (first | rfl | refine qa_cons ?_ ?_ | refine qa_int ?_ | refine qa_agg ?_ | refine qa_arr ?_ | omega)); done)) ?_; (with_reducible refine (trie_Trie_Look.calls g134 x135000_3 a1 t140 t141 t142 t143 t144 true t146 w _ ?side1 ?side2 A19.out).mono ?_); (case side1 => repeat (first | (with_reducible first | exact HI134.out | apply IsS46.alloc | apply IsS46.drewN | apply IsS46.drew | apply IsS46.set_0) | exact HI134.out)); (case side2 => repeat (first | (with_reducible first | exact HB.out | apply below_alloc | apply pw_below_drewN | apply below_drew1 | refine below_set ?_ (IsS46.ge HI134.out)) | exact HB.out)); rintro e w26 ⟨rfl, hi, hb, hk⟩; refine ⟨_, rfl, ?_⟩; have n0_ := Aside0.mk (hb); have n1_ := Aside0.mk (hi); clear HB; clear HI134; have HB := n0_; have HI134 := n1_; clear n0_ n1_; (try clear hb); (try clear hb2); (try clear hk); (try clear hi)) | ((with_reducible refine gate_dst (N := 9) rfl ?_); (try (refine gate_guard (by rfl) ?_; dsimp only)); refine box_event ?hg (N := 9) ?hd (cs := #[.int .u32 0, .int .u8 0, .int .i64 0, .int .u16 0, .int .u16 0]) (t := 33) ?hr ?_; (case hd => rfl); (case hg => rfl); (case hr => first | (go_simp; done) | (go_simp; rfl)); intro gb147 hg w27 hbox hb; have n0_ := Aside0.mk (IsS46.below (by repeat (first | (with_reducible first | exact HI134.out | apply IsS46.alloc | apply IsS46.drewN | apply IsS46.drew | apply IsS46.set_0) | exact HI134.out)) hb); have n1_ := Aside0.mk (below_step (by repeat (first | (with_reducible first | exact HB.out | apply below_alloc | apply pw_below_drewN | apply below_drew1 | refine below_set ?_ (IsS46.ge HI134.out)) | exact HB.out)) hb); have n2_ := Aside0.mk (hbox); have n3_ := Aside0.mk ((by rw [hg]; exact (below_size (by repeat (first | (with_reducible first | exact HB.out | apply below_alloc | apply pw_below_drewN | apply below_drew1 | refine below_set ?_ (IsS46.ge HI134.out)) | exact HB.out))) : w.heap.size ≤ gb147)); have n4_ := Aside0.mk ((by rw [hg]; exact (below_size (by repeat (first | (with_reducible first | exact HB.out | apply below_alloc | apply pw_below_drewN | apply below_drew1 | refine below_set ?_ (IsS46.ge HI134.out)) | exact HB.out))) : w.heap.size ≤ gb147)); have n5_ := Aside0.mk ((by rw [hg]; exact Nat.ne_of_lt (IsS46.lt (show IsS46 w _ g134 t146 from by repeat (first | (with_reducible first | exact HI134.out | apply IsS46.alloc | apply IsS46.drewN | apply IsS46.drew | apply IsS46.set_0) | exact HI134.out))) : g134 ≠ gb147)); have n6_ := Aside0.mk ((by rw [hg]; exact Nat.ne_of_gt (IsS46.lt (show IsS46 w _ g134 t146 from by repeat (first | (with_reducible first | exact HI134.out | apply IsS46.alloc | apply IsS46.drewN | apply IsS46.drew | apply IsS46.set_0) | exact HI134.out))) : gb147 ≠ g134)); clear HI134; clear HB; have HI134 := n0_; have HB := n1_; have BK147 := n2_; have GW147 := n3_; have GE147 := n4_; have NB134_147 := n5_; have NB147_134 := n6_; clear n0_ n1_ n2_ n3_ n4_ n5_ n6_; clear hb hbox hg; have hnb28 := NB147_134.out; have hnc28 := NB134_147.out; have hcz29_0 : w27.cell? ⟨gb147, 0, none⟩ = some (.int .u32 0) := (blk_cell BK147.out 0).trans rfl; have hcz29_1 : w27.cell? ⟨gb147, 1, none⟩ = some (.int .u8 0) := (blk_cell BK147.out 1).trans rfl; have hcz29_2 : w27.cell? ⟨gb147, 2, none⟩ = some (.int .i64 0) := (blk_cell BK147.out 2).trans rfl; have hcz29_3 : w27.cell? ⟨gb147, 3, none⟩ = some (.int .u16 0) := (blk_cell BK147.out 3).trans rfl; have hcz29_4 : w27.cell? ⟨gb147, 4, none⟩ = some (.int .u16 0) := (blk_cell BK147.out 4).trans rfl; have hfz29_0 := blk_frozen BK147.out 0; have hfz29_1 := blk_frozen BK147.out 1; have hfz29_2 := blk_frozen BK147.out 2; have hfz29_3 := blk_frozen BK147.out 3; have hfz29_4 := blk_frozen BK147.out 4) | ((with_reducible refine gate_callee (f := 19) rfl ?_); refine goesL_ (some 68) rfl rfl Try.func19 (by kernel_rfl) rfl #[.agg #[.int .u32 t140, .int .u8 t141], .int .u32 a1] rfl (by (try simp only [List.map_toArray, List.map_cons, List.map_nil]); first | done | rfl | (simp only [List.length_drop, List.length_take]; rfl) | (simp; done) | (refine qa_arr ?_; (repeat' (first | rfl | refine qa_cons ?_ ?_ | refine qa_int ?_ | refine qa_agg ?_ | refine qa_arr ?_ | omega)); done)) ?_; (with_reducible refine (prefix_Has.calls t140 t141 a1 true _ A21.out).mono ?_); rintro e w30 ⟨rfl, hb⟩; refine ⟨_, rfl, ?_⟩; have n0_ := Aside0.mk (IsS46.below (show IsS46 w (((((w27.setCell ⟨gb147, 0, none⟩ (.int .u32 t140)).setCell ⟨gb147, 1, none⟩ (.int .u8 t141)).setCell ⟨gb147, 2, none⟩ (.int .i64 t142)).setCell ⟨gb147, 3, none⟩ (.int .u16 t143)).setCell ⟨gb147, 4, none⟩ (.int .u16 t144)) g134 t146 from by repeat (first | (with_reducible first | exact HI134.out | apply IsS46.alloc | apply IsS46.drewN | apply IsS46.drew | apply IsS46.set_0 | refine IsS46.far ?_ (by repeat (first | (with_reducible first | exact Oth.of_blk BK147.out (by decide) (by decide) | apply Oth.set | apply Oth.alloc | apply Oth.drewN | apply Oth.drew))) _) | exact HI134.out)) hb); have n1_ := Aside0.mk (blk_below (g := gb147) (o := .cells #[.int .u32 t140, .int .u8 t141, .int .i64 t142, .int .u16 t143, .int .u16 t144] 33 (0, 0)) (by (with_reducible repeat (first | refine blk_drewN ?_ _ | refine blk_drew ?_ | refine blk_alloc ?_ _)); refine blk_put (cs := #[.int .u32 t140, .int .u8 t141, .int .i64 t142, .int .u16 t143, .int .u16 0]) ?_ 4 _ rfl; (with_reducible repeat (first | refine blk_drewN ?_ _ | refine blk_drew ?_ | refine blk_alloc ?_ _)); refine blk_put (cs := #[.int .u32 t140, .int .u8 t141, .int .i64 t142, .int .u16 0, .int .u16 0]) ?_ 3 _ rfl; (with_reducible repeat (first | refine blk_drewN ?_ _ | refine blk_drew ?_ | refine blk_alloc ?_ _)); refine blk_put (cs := #[.int .u32 t140, .int .u8 t141, .int .i64 0, .int .u16 0, .int .u16 0]) ?_ 2 _ rfl; (with_reducible repeat (first | refine blk_drewN ?_ _ | refine blk_drew ?_ | refine blk_alloc ?_ _)); refine blk_put (cs := #[.int .u32 t140, .int .u8 0, .int .i64 0, .int .u16 0, .int .u16 0]) ?_ 1 _ rfl; (with_reducible repeat (first | refine blk_drewN ?_ _ | refine blk_drew ?_ | refine blk_alloc ?_ _)); refine blk_put (cs := #[.int .u32 0, .int .u8 0, .int .i64 0, .int .u16 0, .int .u16 0]) ?_ 0 _ rfl; (with_reducible repeat (first | refine blk_drewN ?_ _ | refine blk_drew ?_ | refine blk_alloc ?_ _)); exact BK147.out) hb); have n2_ := Aside0.mk (below_step (by repeat (first | (with_reducible first | exact HB.out | apply below_alloc | apply pw_below_drewN | apply below_drew1 | refine below_set ?_ (IsS46.ge HI134.out) | refine below_set ?_ GE147.out) | exact HB.out)) hb); clear HI134; clear BK147; clear HB; have HI134 := n0_; have BK147 := n1_; have HB := n2_; clear n0_ n1_ n2_; (try clear hb); (try clear hb2); (try clear hk); (try clear hi); have hcz31_0 : w30.cell? ⟨gb147, 0, none⟩ = some (.int .u32 t140) := (blk_cell BK147.out 0).trans rfl; have hcz31_1 : w30.cell? ⟨gb147, 1, none⟩ = some (.int .u8 t141) := (blk_cell BK147.out 1).trans rfl; have hcz31_2 : w30.cell? ⟨gb147, 2, none⟩ = some (.int .i64 t142) := (blk_cell BK147.out 2).trans rfl; have hcz31_3 : w30.cell? ⟨gb147, 3, none⟩ = some (.int .u16 t143) := (blk_cell BK147.out 3).trans rfl; have hcz31_4 : w30.cell? ⟨gb147, 4, none⟩ = some (.int .u16 t144) := (blk_cell BK147.out 4).trans rfl; have hfz31_0 := blk_frozen BK147.out 0; have hfz31_1 := blk_frozen BK147.out 1; have hfz31_2 := blk_frozen BK147.out 2; have hfz31_3 := blk_frozen BK147.out 3; have hfz31_4 := blk_frozen BK147.out 4) | (go_at_call 15; (with_reducible refine (trie_Trie_Drop.calls g134 t146 t140 t141 t155 t156 w _ ?side1 ?side2 A24.out).mono ?_); (case side1 => repeat (first | (with_reducible first | exact HI134.out | apply IsS46.alloc | apply IsS46.drewN | apply IsS46.drew | apply IsS46.set_0 | refine IsS46.far ?_ (by repeat (first | (with_reducible first | exact Oth.of_blk BK147.out (by decide) (by decide) | apply Oth.set | apply Oth.alloc | apply Oth.drewN | apply Oth.drew))) _) | exact HI134.out)); (case side2 => repeat (first | (with_reducible first | exact HB.out | apply below_alloc | apply pw_below_drewN | apply below_drew1 | refine below_set ?_ (IsS46.ge HI134.out) | refine below_set ?_ GE147.out) | exact HB.out)); rintro e w32 ⟨rfl, hi, hb, hk⟩; have n0_ := Aside0.mk (KeepT.blk hk (g := gb147) (o := .cells #[.int .u32 t140, .int .u8 t141, .int .i64 t142, .int .u16 t143, .int .u16 t144] 33 (0, 0)) (by (with_reducible repeat (first | refine blk_drewN ?_ _ | refine blk_drew ?_ | refine blk_alloc ?_ _)); exact BK147.out) rfl (by decide) (by decide)); have n1_ := Aside0.mk (hb); have n2_ := Aside0.mk (hi); clear BK147; clear HB; clear HI134; have BK147 := n0_; have HB := n1_; have HI134 := n2_; clear n0_ n1_ n2_; (try clear hb); (try clear hb2); (try clear hk); (try clear hi); have hcz33_0 : w32.cell? ⟨gb147, 0, none⟩ = some (.int .u32 t140) := (blk_cell BK147.out 0).trans rfl; have hcz33_1 : w32.cell? ⟨gb147, 1, none⟩ = some (.int .u8 t141) := (blk_cell BK147.out 1).trans rfl; have hcz33_2 : w32.cell? ⟨gb147, 2, none⟩ = some (.int .i64 t142) := (blk_cell BK147.out 2).trans rfl; have hcz33_3 : w32.cell? ⟨gb147, 3, none⟩ = some (.int .u16 t143) := (blk_cell BK147.out 3).trans rfl; have hcz33_4 : w32.cell? ⟨gb147, 4, none⟩ = some (.int .u16 t144) := (blk_cell BK147.out 4).trans rfl; have hfz33_0 := blk_frozen BK147.out 0; have hfz33_1 := blk_frozen BK147.out 1; have hfz33_2 := blk_frozen BK147.out 2; have hfz33_3 := blk_frozen BK147.out 3; have hfz33_4 := blk_frozen BK147.out 4) | (go_at_call 15; (refine calls_of_args (args' := #[.pointer (some ⟨g134, 0, none⟩), .agg #[.int .u32 t140, .int .u8 t141]]) ?_ ?_; focus (first | rfl | (simp; done) | (refine qa_arr ?_; (repeat' (first | rfl | refine qa_cons ?_ ?_ | refine qa_int ?_ | refine qa_agg ?_ | refine qa_arr ?_ | omega)); done)); (with_reducible refine (trie_Trie_Drop.calls g134 t146 t140 t141 t155 t156 w _ ?side1 ?side2 A24.out).mono ?_)); (case side1 => repeat (first | (with_reducible first | exact HI134.out | apply IsS46.alloc | apply IsS46.drewN | apply IsS46.drew | apply IsS46.set_0 | refine IsS46.far ?_ (by repeat (first | (with_reducible first | exact Oth.of_blk BK147.out (by decide) (by decide) | apply Oth.set | apply Oth.alloc | apply Oth.drewN | apply Oth.drew))) _) | exact HI134.out)); (case side2 => repeat (first | (with_reducible first | exact HB.out | apply below_alloc | apply pw_below_drewN | apply below_drew1 | refine below_set ?_ (IsS46.ge HI134.out) | refine below_set ?_ GE147.out) | exact HB.out)); rintro e w32 ⟨rfl, hi, hb, hk⟩; have n0_ := Aside0.mk (KeepT.blk hk (g := gb147) (o := .cells #[.int .u32 t140, .int .u8 t141, .int .i64 t142, .int .u16 t143, .int .u16 t144] 33 (0, 0)) (by (with_reducible repeat (first | refine blk_drewN ?_ _ | refine blk_drew ?_ | refine blk_alloc ?_ _)); exact BK147.out) rfl (by decide) (by decide)); have n1_ := Aside0.mk (hb); have n2_ := Aside0.mk (hi); clear BK147; clear HB; clear HI134; have BK147 := n0_; have HB := n1_; have HI134 := n2_; clear n0_ n1_ n2_; (try clear hb); (try clear hb2); (try clear hk); (try clear hi); have hcz33_0 : w32.cell? ⟨gb147, 0, none⟩ = some (.int .u32 t140) := (blk_cell BK147.out 0).trans rfl; have hcz33_1 : w32.cell? ⟨gb147, 1, none⟩ = some (.int .u8 t141) := (blk_cell BK147.out 1).trans rfl; have hcz33_2 : w32.cell? ⟨gb147, 2, none⟩ = some (.int .i64 t142) := (blk_cell BK147.out 2).trans rfl; have hcz33_3 : w32.cell? ⟨gb147, 3, none⟩ = some (.int .u16 t143) := (blk_cell BK147.out 3).trans rfl; have hcz33_4 : w32.cell? ⟨gb147, 4, none⟩ = some (.int .u16 t144) := (blk_cell BK147.out 4).trans rfl; have hfz33_0 := blk_frozen BK147.out 0; have hfz33_1 := blk_frozen BK147.out 1; have hfz33_2 := blk_frozen BK147.out 2; have hfz33_3 := blk_frozen BK147.out 3; have hfz33_4 := blk_frozen BK147.out 4))
                            go_roundg k3
                            case measure => have := HJ2.out; have := HK2.out; have := HK3.out; omega
                            case rel => exact ⟨(t141), (wrap64 (x8_3 + 1)), (t156), (by first | rfl | (simp; done) | (simp [*]; done) | (refine qa_int ?_; omega) | (refine qa_int ?_; simp <;> omega)), (by first | rfl | (simp; done) | (simp [*]; done) | (refine qa_int ?_; omega) | (refine qa_int ?_; simp <;> omega)), H', ⟨by have := HJ2.out; have := HK2.out; have := HK3.out; omega⟩, ⟨by repeat (first | (with_reducible first | exact HI134.out | apply IsS46.alloc | apply IsS46.drewN | apply IsS46.drew | apply IsS46.set_0 | refine IsS46.far ?_ (by repeat (first | (with_reducible first | exact Oth.of_blk BK147.out (by decide) (by decide) | apply Oth.set | apply Oth.alloc | apply Oth.drewN | apply Oth.drew))) _) | exact HI134.out)⟩, ⟨by repeat (first | (with_reducible first | exact HB.out | apply below_alloc | apply pw_below_drewN | apply below_drew1 | refine below_set ?_ (IsS46.ge HI134.out) | refine below_set ?_ GE147.out) | exact HB.out)⟩⟩
                          · rw [if_neg c25] at H
                            have c25b0 : (t155 == 0) = false := beq_eq_false_iff_ne.mpr c25
                            have c25b1 : (t155 != 0) = true := bne_iff_ne.mpr c25
                            obtain rfl := Option.some.inj H
                            exact absurd HT.out (by decide)
                      · replace c22 := Bool.eq_false_iff.mpr c22
                        subst c22
                        have H1 : (some false) = some r := by rw [if_neg (show ¬ (false = true) by decide)] at H; exact H
                        clear H
                        have H := H1
                        clear H1
                        obtain rfl := Option.some.inj H
                        exact absurd HT.out (by decide)
                    · replace c20 := Bool.eq_false_iff.mpr c20
                      subst c20
                      have H1 : ((trie_Trie_All.f t146).bind fun bt148 => (milestonelaw09_TrieNests.l2 k3 a1 bt148.1 0)) = some r := by rw [if_neg (show ¬ (false = true) by decide)] at H; exact H
                      clear H
                      have H := H1
                      clear H1
                      replace H := Option.bind_eq_some_iff.mp H
                      obtain ⟨⟨t148, t151⟩, A340, H⟩ := H
                      replace H : (milestonelaw09_TrieNests.l2 k3 a1 t148 0) = some r := H
                      have A34 := Aside0.mk A340
                      clear A340
                      have H' := Aside0.mk H
                      clear H
                      go_wp2_with (first | ((with_reducible refine gate_callee (f := 16) rfl ?_); refine goesL_ (some 45) rfl rfl Try.func16 (by kernel_rfl) rfl #[.pointer (some ⟨g134, 0, none⟩), .int .u32 a1] rfl (by (try simp only [List.map_toArray, List.map_cons, List.map_nil]); first | done | rfl | (simp only [List.length_drop, List.length_take]; rfl) | (simp; done) | (refine qa_arr ?_; (repeat' (first | rfl | refine qa_cons ?_ ?_ | refine qa_int ?_ | refine qa_agg ?_ | refine qa_arr ?_ | omega)); done)) ?_; (with_reducible refine (trie_Trie_Look.calls g134 x135000_3 a1 t140 t141 t142 t143 t144 false t146 w _ ?side1 ?side2 A19.out).mono ?_); (case side1 => repeat (first | (with_reducible first | exact HI134.out | apply IsS46.alloc | apply IsS46.drewN | apply IsS46.drew | apply IsS46.set_0) | exact HI134.out)); (case side2 => repeat (first | (with_reducible first | exact HB.out | apply below_alloc | apply pw_below_drewN | apply below_drew1 | refine below_set ?_ (IsS46.ge HI134.out)) | exact HB.out)); rintro e w35 ⟨rfl, hi, hb, hk⟩; refine ⟨_, rfl, ?_⟩; have n0_ := Aside0.mk (hb); have n1_ := Aside0.mk (hi); clear HB; clear HI134; have HB := n0_; have HI134 := n1_; clear n0_ n1_; (try clear hb); (try clear hb2); (try clear hk); (try clear hi)) | ((with_reducible refine gate_dst (N := 9) rfl ?_); (try (refine gate_guard (by rfl) ?_; dsimp only)); refine box_event ?hg (N := 9) ?hd (cs := #[.int .u32 0, .int .u8 0, .int .i64 0, .int .u16 0, .int .u16 0]) (t := 33) ?hr ?_; (case hd => rfl); (case hg => rfl); (case hr => first | (go_simp; done) | (go_simp; rfl)); intro gb147 hg w36 hbox hb; have n0_ := Aside0.mk (IsS46.below (by repeat (first | (with_reducible first | exact HI134.out | apply IsS46.alloc | apply IsS46.drewN | apply IsS46.drew | apply IsS46.set_0) | exact HI134.out)) hb); have n1_ := Aside0.mk (below_step (by repeat (first | (with_reducible first | exact HB.out | apply below_alloc | apply pw_below_drewN | apply below_drew1 | refine below_set ?_ (IsS46.ge HI134.out)) | exact HB.out)) hb); have n2_ := Aside0.mk (hbox); have n3_ := Aside0.mk ((by rw [hg]; exact (below_size (by repeat (first | (with_reducible first | exact HB.out | apply below_alloc | apply pw_below_drewN | apply below_drew1 | refine below_set ?_ (IsS46.ge HI134.out)) | exact HB.out))) : w.heap.size ≤ gb147)); have n4_ := Aside0.mk ((by rw [hg]; exact (below_size (by repeat (first | (with_reducible first | exact HB.out | apply below_alloc | apply pw_below_drewN | apply below_drew1 | refine below_set ?_ (IsS46.ge HI134.out)) | exact HB.out))) : w.heap.size ≤ gb147)); have n5_ := Aside0.mk ((by rw [hg]; exact Nat.ne_of_lt (IsS46.lt (show IsS46 w _ g134 t146 from by repeat (first | (with_reducible first | exact HI134.out | apply IsS46.alloc | apply IsS46.drewN | apply IsS46.drew | apply IsS46.set_0) | exact HI134.out))) : g134 ≠ gb147)); have n6_ := Aside0.mk ((by rw [hg]; exact Nat.ne_of_gt (IsS46.lt (show IsS46 w _ g134 t146 from by repeat (first | (with_reducible first | exact HI134.out | apply IsS46.alloc | apply IsS46.drewN | apply IsS46.drew | apply IsS46.set_0) | exact HI134.out))) : gb147 ≠ g134)); clear HI134; clear HB; have HI134 := n0_; have HB := n1_; have BK147 := n2_; have GW147 := n3_; have GE147 := n4_; have NB134_147 := n5_; have NB147_134 := n6_; clear n0_ n1_ n2_ n3_ n4_ n5_ n6_; clear hb hbox hg; have hnb37 := NB147_134.out; have hnc37 := NB134_147.out; have hcz38_0 : w36.cell? ⟨gb147, 0, none⟩ = some (.int .u32 0) := (blk_cell BK147.out 0).trans rfl; have hcz38_1 : w36.cell? ⟨gb147, 1, none⟩ = some (.int .u8 0) := (blk_cell BK147.out 1).trans rfl; have hcz38_2 : w36.cell? ⟨gb147, 2, none⟩ = some (.int .i64 0) := (blk_cell BK147.out 2).trans rfl; have hcz38_3 : w36.cell? ⟨gb147, 3, none⟩ = some (.int .u16 0) := (blk_cell BK147.out 3).trans rfl; have hcz38_4 : w36.cell? ⟨gb147, 4, none⟩ = some (.int .u16 0) := (blk_cell BK147.out 4).trans rfl; have hfz38_0 := blk_frozen BK147.out 0; have hfz38_1 := blk_frozen BK147.out 1; have hfz38_2 := blk_frozen BK147.out 2; have hfz38_3 := blk_frozen BK147.out 3; have hfz38_4 := blk_frozen BK147.out 4) | ((with_reducible refine gate_callee (f := 10) rfl ?_); refine goesL_ (some 51) rfl rfl Try.func10 (by kernel_rfl) rfl #[.pointer (some ⟨g134, 0, none⟩)] rfl (by (try simp only [List.map_toArray, List.map_cons, List.map_nil]); first | done | rfl | (simp only [List.length_drop, List.length_take]; rfl) | (simp; done) | (refine qa_arr ?_; (repeat' (first | rfl | refine qa_cons ?_ ?_ | refine qa_int ?_ | refine qa_agg ?_ | refine qa_arr ?_ | omega)); done)) ?_; (with_reducible refine (trie_Trie_All.calls g134 t146 t148 t151 w _ ?side1 ?side2 A34.out).mono ?_); (case side1 => repeat (first | (with_reducible first | exact HI134.out | apply IsS46.alloc | apply IsS46.drewN | apply IsS46.drew | apply IsS46.set_0 | refine IsS46.far ?_ (by repeat (first | (with_reducible first | exact Oth.of_blk BK147.out (by decide) (by decide) | apply Oth.set | apply Oth.alloc | apply Oth.drewN | apply Oth.drew))) _) | exact HI134.out)); (case side2 => repeat (first | (with_reducible first | exact HB.out | apply below_alloc | apply pw_below_drewN | apply below_drew1 | refine below_set ?_ (IsS46.ge HI134.out) | refine below_set ?_ GE147.out) | exact HB.out)); rintro e w39 ⟨v149, rfl, ho0, hi, hb, hk⟩; refine ⟨_, rfl, ?_⟩; have n0_ := Aside0.mk (KeepT.blk hk (g := gb147) (o := .cells #[.int .u32 t140, .int .u8 t141, .int .i64 t142, .int .u16 t143, .int .u16 t144] 33 (0, 0)) (by (with_reducible repeat (first | refine blk_drewN ?_ _ | refine blk_drew ?_ | refine blk_alloc ?_ _)); refine blk_put (cs := #[.int .u32 t140, .int .u8 t141, .int .i64 t142, .int .u16 t143, .int .u16 0]) ?_ 4 _ rfl; (with_reducible repeat (first | refine blk_drewN ?_ _ | refine blk_drew ?_ | refine blk_alloc ?_ _)); refine blk_put (cs := #[.int .u32 t140, .int .u8 t141, .int .i64 t142, .int .u16 0, .int .u16 0]) ?_ 3 _ rfl; (with_reducible repeat (first | refine blk_drewN ?_ _ | refine blk_drew ?_ | refine blk_alloc ?_ _)); refine blk_put (cs := #[.int .u32 t140, .int .u8 t141, .int .i64 0, .int .u16 0, .int .u16 0]) ?_ 2 _ rfl; (with_reducible repeat (first | refine blk_drewN ?_ _ | refine blk_drew ?_ | refine blk_alloc ?_ _)); refine blk_put (cs := #[.int .u32 t140, .int .u8 0, .int .i64 0, .int .u16 0, .int .u16 0]) ?_ 1 _ rfl; (with_reducible repeat (first | refine blk_drewN ?_ _ | refine blk_drew ?_ | refine blk_alloc ?_ _)); refine blk_put (cs := #[.int .u32 0, .int .u8 0, .int .i64 0, .int .u16 0, .int .u16 0]) ?_ 0 _ rfl; (with_reducible repeat (first | refine blk_drewN ?_ _ | refine blk_drew ?_ | refine blk_alloc ?_ _)); exact BK147.out) rfl (by decide) (by decide)); have n1_ := Aside0.mk (Kd.R_lower (Kd.R_newB ho0 (g := gb147) (o := .cells #[.int .u32 t140, .int .u8 t141, .int .i64 t142, .int .u16 t143, .int .u16 t144] 33 (0, 0)) (by (with_reducible repeat (first | refine blk_drewN ?_ _ | refine blk_drew ?_ | refine blk_alloc ?_ _)); refine blk_put (cs := #[.int .u32 t140, .int .u8 t141, .int .i64 t142, .int .u16 t143, .int .u16 0]) ?_ 4 _ rfl; (with_reducible repeat (first | refine blk_drewN ?_ _ | refine blk_drew ?_ | refine blk_alloc ?_ _)); refine blk_put (cs := #[.int .u32 t140, .int .u8 t141, .int .i64 t142, .int .u16 0, .int .u16 0]) ?_ 3 _ rfl; (with_reducible repeat (first | refine blk_drewN ?_ _ | refine blk_drew ?_ | refine blk_alloc ?_ _)); refine blk_put (cs := #[.int .u32 t140, .int .u8 t141, .int .i64 0, .int .u16 0, .int .u16 0]) ?_ 2 _ rfl; (with_reducible repeat (first | refine blk_drewN ?_ _ | refine blk_drew ?_ | refine blk_alloc ?_ _)); refine blk_put (cs := #[.int .u32 t140, .int .u8 0, .int .i64 0, .int .u16 0, .int .u16 0]) ?_ 1 _ rfl; (with_reducible repeat (first | refine blk_drewN ?_ _ | refine blk_drew ?_ | refine blk_alloc ?_ _)); refine blk_put (cs := #[.int .u32 0, .int .u8 0, .int .i64 0, .int .u16 0, .int .u16 0]) ?_ 0 _ rfl; (with_reducible repeat (first | refine blk_drewN ?_ _ | refine blk_drew ?_ | refine blk_alloc ?_ _)); exact BK147.out)) (below_size (by repeat (first | (with_reducible first | exact HB.out | apply below_alloc | apply pw_below_drewN | apply below_drew1 | refine below_set ?_ (IsS46.ge HI134.out) | refine below_set ?_ GE147.out) | exact HB.out)))); have n2_ := Aside0.mk (hb); have n3_ := Aside0.mk (hi); clear BK147; clear HB; clear HI134; have BK147 := n0_; have HO150 := n1_; have HB := n2_; have HI134 := n3_; clear n0_ n1_ n2_ n3_; (try clear hb); (try clear hb2); (try clear hk); (try clear hi); (try clear ho0)))
                      go_loopg [12] k3 (fun kq v12 w' => ∃ (x12_4 : Int), v12 = .int .i64 x12_4 ∧ Aside0 (milestonelaw09_TrieNests.l2 kq a1 t148 x12_4 = some r) ∧ Aside0 (kq ≤ k3) ∧ Aside0 (Kd.R k33 33 w' w.heap.size (fun k_ => k_ ≠ gb147) v149 t148) ∧ Aside0 (w'.heap[gb147]? = some (.cells #[.int .u32 t140, .int .u8 t141, .int .i64 t142, .int .u16 t143, .int .u16 t144] 33 (0, 0))) ∧ Aside0 (Below w.heap.size w w'))
                      case atStart => exact ⟨(0), (by first | rfl | (simp; done) | (simp [*]; done) | (refine qa_int ?_; omega) | (refine qa_int ?_; simp <;> omega)), H', ⟨Nat.le_refl _⟩, ⟨by (with_reducible repeat (first | apply Kd.R_alloc | apply Kd.R_drewN | apply Kd.R_drew)); exact Kd.R_mono HO150.out (fun _ hk => hk.2)⟩, ⟨by (with_reducible repeat (first | refine blk_drewN ?_ _ | refine blk_drew ?_ | refine blk_alloc ?_ _)); exact BK147.out⟩, ⟨by repeat (first | (with_reducible first | exact HB.out | apply below_alloc | apply pw_below_drewN | apply below_drew1 | refine below_set ?_ (IsS46.ge HI134.out) | refine below_set ?_ GE147.out) | exact HB.out)⟩⟩
                      case round =>
                        clear H'
                        try clear c1
                        try clear p1
                        try clear q1
                        try clear hx1
                        try clear c2
                        try clear p2
                        try clear c3
                        try clear c5
                        try clear c6
                        try clear p6
                        try clear c7
                        try clear c8
                        try clear c10
                        try clear c12
                        try clear c12b0
                        try clear c13
                        try clear c13b0
                        try clear p13
                        try clear q13
                        try clear hx13
                        try clear c14
                        try clear c16
                        try clear c18
                        try clear c18b0
                        try clear c19
                        try clear c20
                        try clear c22
                        try clear c23
                        try clear c23b0
                        try clear c25
                        try clear c25b0
                        try clear c25b1
                        try clear c28
                        try clear c37
                        try clear hcz29_0
                        try clear hcz29_1
                        try clear hcz29_2
                        try clear hcz29_3
                        try clear hcz29_4
                        try clear hcz31_0
                        try clear hcz31_1
                        try clear hcz31_2
                        try clear hcz31_3
                        try clear hcz31_4
                        try clear hcz33_0
                        try clear hcz33_1
                        try clear hcz33_2
                        try clear hcz33_3
                        try clear hcz33_4
                        try clear hcz38_0
                        try clear hcz38_1
                        try clear hcz38_2
                        try clear hcz38_3
                        try clear hcz38_4
                        try clear hfz29_0
                        try clear hfz29_1
                        try clear hfz29_2
                        try clear hfz29_3
                        try clear hfz29_4
                        try clear hfz31_0
                        try clear hfz31_1
                        try clear hfz31_2
                        try clear hfz31_3
                        try clear hfz31_4
                        try clear hfz33_0
                        try clear hfz33_1
                        try clear hfz33_2
                        try clear hfz33_3
                        try clear hfz33_4
                        try clear hfz38_0
                        try clear hfz38_1
                        try clear hfz38_2
                        try clear hfz38_3
                        try clear hfz38_4
                        try clear hx135_0
                        try clear hx135_1
                        try clear hx135_2
                        try clear hx135_3
                        try clear p1
                        try clear p13
                        try clear p135
                        try clear p2
                        try clear p6
                        try clear q1
                        try clear q13
                        try clear q135
                        obtain ⟨x12_4, rfl, HA, HK4, HO_11, BK147, HB⟩ := hrel
                        cases gk with
                        | zero => exact absurd HA.out (by simp [milestonelaw09_TrieNests.l2])
                        | succ k4 =>
                          have H := HA.out
                          clear HA
                          simp only [milestonelaw09_TrieNests.l2] at H
                          by_cases c40 : x12_4 < (t148.length : Int)
                          · rw [if_pos c40] at H
                            have c40b0 : decide (x12_4 < (t148.length : Int)) = true := decide_eq_true c40
                            clear c40
                            by_cases c41 : 0 ≤ x12_4
                            · rw [if_pos c41] at H
                              have c41b0 : decide (0 ≤ x12_4) = true := decide_eq_true c41
                              clear c41
                              replace H := Option.bind_eq_some_iff.mp H
                              obtain ⟨t153, A420, H⟩ := H
                              replace H : (if t153 = true then (some false) else (milestonelaw09_TrieNests.l2 k4 a1 t148 (wrap64 (x12_4 + 1)))) = some r := H
                              have A42 := Aside0.mk A420
                              clear A420
                              by_cases c43 : t153 = true
                              · subst c43
                                have H1 : (some false) = some r := by rw [if_pos rfl] at H; exact H
                                clear H
                                have H := H1
                                clear H1
                                obtain rfl := Option.some.inj H
                                exact absurd HT.out (by decide)
                              · replace c43 := Bool.eq_false_iff.mpr c43
                                subst c43
                                have H1 : (milestonelaw09_TrieNests.l2 k4 a1 t148 (wrap64 (x12_4 + 1))) = some r := by rw [if_neg (show ¬ (false = true) by decide)] at H; exact H
                                clear H
                                have H := H1
                                clear H1
                                have H' := Aside0.mk H
                                clear H
                                obtain ⟨Ao44, co44, eo44⟩ := Kd.R_slice HO_11.out
                                subst eo44
                                have p152 : 0 ≤ (x12_4 : Int) := of_decide_eq_true (by first | (with_reducible assumption) | assumption)
                                have q152 : x12_4 < (t148.length : Int) := of_decide_eq_true (by first | (with_reducible assumption) | assumption)
                                obtain ⟨ad152, e152, hx152_0, hx152_1, hx152_2, hx152_3, hx152_4⟩ := at_T33 (Kd.R_reads' HO_11.out).2.2 x12_4 p152 q152
                                cases e152
                                replace p152 := eq_true p152
                                replace q152 := eq_true q152
                                go_wp2_with (first | ((with_reducible refine gate_callee (f := 19) rfl ?_); refine goesL_ (some 64) rfl rfl Try.func19 (by kernel_rfl) rfl #[.agg #[.int .u32 ((rd_T33 t148 x12_4).f0.f0), .int .u8 ((rd_T33 t148 x12_4).f0.f1)], .int .u32 a1] rfl (by (try simp only [List.map_toArray, List.map_cons, List.map_nil]); first | done | rfl | (simp only [List.length_drop, List.length_take]; rfl) | (simp; done) | (refine qa_arr ?_; (repeat' (first | rfl | refine qa_cons ?_ ?_ | refine qa_int ?_ | refine qa_agg ?_ | refine qa_arr ?_ | omega)); done)) ?_; (with_reducible refine (prefix_Has.calls ((rd_T33 t148 x12_4).f0.f0) ((rd_T33 t148 x12_4).f0.f1) a1 false _ A42.out).mono ?_); rintro e w45 ⟨rfl, hb⟩; refine ⟨_, rfl, ?_⟩; have n0_ := Aside0.mk (Kd.R_below (by (with_reducible repeat (first | apply Kd.R_alloc | apply Kd.R_drewN | apply Kd.R_drew)); exact HO_11.out) hb); have n1_ := Aside0.mk (blk_below (g := gb147) (o := .cells #[.int .u32 t140, .int .u8 t141, .int .i64 t142, .int .u16 t143, .int .u16 t144] 33 (0, 0)) (by (with_reducible repeat (first | refine blk_drewN ?_ _ | refine blk_drew ?_ | refine blk_alloc ?_ _)); exact BK147.out) hb); have n2_ := Aside0.mk (below_step (by repeat (first | (with_reducible first | exact HB.out | apply below_alloc | apply pw_below_drewN | apply below_drew1 | refine below_set ?_ GE147.out) | exact HB.out)) hb); clear HO_11; clear BK147; clear HB; have HO_11 := n0_; have BK147 := n1_; have HB := n2_; clear n0_ n1_ n2_; (try clear hb); (try clear hb2); (try clear hk); (try clear hi)))
                                go_roundg k4
                                case measure => have := HJ2.out; have := HK2.out; have := HK3.out; have := HK4.out; omega
                                case rel => exact ⟨(wrap64 (x12_4 + 1)), (by first | rfl | (simp; done) | (simp [*]; done) | (refine qa_int ?_; omega) | (refine qa_int ?_; simp <;> omega)), H', ⟨by have := HJ2.out; have := HK2.out; have := HK3.out; have := HK4.out; omega⟩, ⟨by (with_reducible repeat (first | apply Kd.R_alloc | apply Kd.R_drewN | apply Kd.R_drew)); exact HO_11.out⟩, ⟨by (with_reducible repeat (first | refine blk_drewN ?_ _ | refine blk_drew ?_ | refine blk_alloc ?_ _)); exact BK147.out⟩, ⟨by repeat (first | (with_reducible first | exact HB.out | apply below_alloc | apply pw_below_drewN | apply below_drew1 | refine below_set ?_ GE147.out) | exact HB.out)⟩⟩
                            · rw [if_neg c41] at H
                              exact absurd H (by simp)
                          · rw [if_neg c40] at H
                            have c40b0 : decide (x12_4 < (t148.length : Int)) = false := decide_eq_false c40
                            clear c40
                            obtain rfl := Option.some.inj H
                            simp only [Option.some.injEq, Prod.mk.injEq] at H
                            obtain ⟨rfl⟩ := H
                            obtain ⟨Ao46, co46, eo46⟩ := Kd.R_slice HO_11.out
                            subst eo46
                            go_wp2
                            go_ret
                            exact ⟨by first | rfl | (simp [errW_none, errW_some] <;> rfl) | (simp [*, errW_none, errW_some] <;> rfl), by repeat (first | (with_reducible first | exact HB.out | apply below_alloc | apply pw_below_drewN | apply below_drew1 | refine below_set ?_ GE147.out) | exact HB.out)⟩
                  · rw [if_neg c18] at H
                    have c18b0 : decide (x8_3 < 40) = false := decide_eq_false c18
                    clear c18
                    obtain rfl := Option.some.inj H
                    exact absurd HT.out (by decide)

/-- THE ONE PURE STATEMENT of milestonelaw09_TrieNests: yours. -/
def milestonelaw09_TrieNests.Pure : Prop := ∀ (l0 : List (S30)) (a1 : Int), l0.length ≤ maxLen → (∀ x ∈ l0, ((Lit.int .u8 x.f0).wf = true ∧ ((Lit.int .u32 x.f1).wf = true ∧ ((Lit.int .u8 x.f2).wf = true ∧ (Lit.int .u8 x.f3).wf = true)))) → (Lit.int .u32 a1).wf = true → ∃ k, milestonelaw09_TrieNests.f k l0 a1 = some true
theorem milestonelaw09_TrieNests.walk (P : milestonelaw09_TrieNests.Pure) (a0 : Option Addr) (cap0 : Nat) (l0 : List (S30)) (a1 : Int) (w : World) (hr0 : Kd.C k30 w a0 l0.length l0) (hc0 : l0.length ≤ cap0) (hm0 : l0.length ≤ maxLen) (hw0 : ∀ x ∈ l0, ((Lit.int .u8 x.f0).wf = true ∧ ((Lit.int .u32 x.f1).wf = true ∧ ((Lit.int .u8 x.f2).wf = true ∧ (Lit.int .u8 x.f3).wf = true)))) (w1 : (Lit.int .u32 a1).wf = true) :
    Calls Try.prog 6 #[.slice a0 l0.length cap0, .int .u32 a1] w fun e w' => e = .returned (.bool true) ∧ Below w.heap.size w w' := by
  obtain ⟨k, h⟩ := P l0 a1 hm0 hw0 w1
  refine (milestonelaw09_TrieNests.calls k _ _ l0 a1 true w hr0 hc0 h rfl).mono ?_
  rintro e w' ⟨rfl, hd⟩
  exact ⟨rfl, hd⟩

end Go.Proofs.Ytbmiifhmgfhidaa.QTrieNests
