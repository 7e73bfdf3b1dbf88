-- Lines by a program of this session, for this claim.
import Derived.Test.YtpcohoeafldpmaaQSerialNewerx0
namespace Go.Proofs.Ytpcohoeafldpmaa.QSerialNewer
open Go.RowKit Go.Proofs.YtpcohoeafldpmaaW.PrintWords Go.Proofs.YtpcohoeafldpmaaW.PrintLast Go.Proofs.YtpcohoeafldpmaaW.PrintMore
attribute [local go_sem] max2_int min2_int max_two min_two max_three min_three max_four min_four   -- for this text's walks alone
set_option linter.unusedVariables false
set_option linter.unusedSimpArgs false

/-! ### serial_Newer: function 13 -/
def serial_Newer.f (a0 : Int) (a1 : Int) : Option (Bool) := if a0 = a1 then (some false) else (some (decide ((IntKind.u16.wrap (a0 - a1)) < 32768)))
set_option maxHeartbeats 8000000 in
set_option maxRecDepth 100000 in
theorem serial_Newer.calls (a0 : Int) (a1 : Int) (r : Bool) (w : World) (h : serial_Newer.f a0 a1 = some r) :
    Calls Try.prog 13 #[.int .u16 a0, .int .u16 a1] w fun e w' => e = .returned (.bool r) ∧ Drawn0 w w' := by
  have H : (if a0 = a1 then (some false) else (some (decide ((IntKind.u16.wrap (a0 - a1)) < 32768)))) = some r := h
  clear h
  by_cases c3 : a0 = a1
  · rw [if_pos c3] at H
    have c3b0 : (a0 == a1) = true := beq_iff_eq.mpr c3
    have c3b1 : (a0 != a1) = false := bne_eq_false_iff_eq.mpr c3
    clear c3
    obtain rfl := Option.some.inj H
    go_enter Try.func13, Try.ntmps13
    go_wp2
    go_ret
    exact ⟨by first | rfl | (simp; done) | (simp [*]; done) | (refine qa_int ?_; omega) | (refine qa_int ?_; simp <;> omega), by repeat (first | exact Drawn0.refl _ | apply Drawn0.step)⟩
  · rw [if_neg c3] at H
    have c3b0 : (a0 == a1) = false := beq_eq_false_iff_ne.mpr c3
    have c3b1 : (a0 != a1) = true := bne_iff_ne.mpr c3
    obtain rfl := Option.some.inj H
    go_enter Try.func13, Try.ntmps13
    go_wp2
    go_ret
    exact ⟨by first | rfl | (simp; done) | (simp [*]; done) | (refine qa_int ?_; omega) | (refine qa_int ?_; simp <;> omega), by repeat (first | exact Drawn0.refl _ | apply Drawn0.step)⟩

/-! ### milestonelaw02_awake: function 12 -/
def milestonelaw02_awake.f  : Option (Bool) := (serial_Newer.f 0 65535).bind fun t101 => (if t101 = true then ((serial_Newer.f 65535 0).bind fun t102 => (some (!t102))) else (some false))
set_option maxHeartbeats 8000000 in
set_option maxRecDepth 100000 in
theorem milestonelaw02_awake.calls  (r : Bool) (w : World) (h : milestonelaw02_awake.f  = some r) :
    Calls Try.prog 12 #[] w fun e w' => e = .returned (.bool r) ∧ Drawn0 w w' := by
  have H : ((serial_Newer.f 0 65535).bind fun t101 => (if t101 = true then ((serial_Newer.f 65535 0).bind fun t102 => (some (!t102))) else (some false))) = some r := h
  clear h
  replace H := Option.bind_eq_some_iff.mp H
  obtain ⟨t101, A10, H⟩ := H
  replace H : (if t101 = true then ((serial_Newer.f 65535 0).bind fun t102 => (some (!t102))) else (some false)) = some r := H
  have A1 := Aside0.mk A10
  clear A10
  by_cases c2 : t101 = true
  · subst c2
    have H1 : ((serial_Newer.f 65535 0).bind fun t102 => (some (!t102))) = some r := by rw [if_pos rfl] at H; exact H
    clear H
    have H := H1
    clear H1
    replace H := Option.bind_eq_some_iff.mp H
    obtain ⟨t102, A30, H⟩ := H
    replace H : (some (!t102)) = some r := H
    have A3 := Aside0.mk A30
    clear A30
    obtain rfl := Option.some.inj H
    go_enter Try.func12, Try.ntmps12
    go_wp2_with (first | ((with_reducible refine gate_callee (f := 13) rfl ?_); refine goesL_ (some 1) rfl rfl Try.func13 (by kernel_rfl) rfl #[.int .u16 0, .int .u16 65535] rfl (by (try simp only [List.map_toArray, List.map_cons, List.map_nil]); first | done | rfl | (simp only [List.length_drop, List.length_take]; rfl) | (simp; done) | (go_simp; done) | (refine qa_arr ?_; (repeat' (first | rfl | refine qa_cons ?_ ?_ | refine qa_int ?_ | refine qa_agg ?_ | refine qa_arr ?_ | omega)); done)) ?_; (with_reducible refine (serial_Newer.calls 0 65535 true _ A1.out).mono ?_); rintro e w' ⟨rfl, ⟨nd, rfl⟩⟩; refine ⟨_, rfl, ?_⟩) | (go_at_call 13; (first | (with_reducible refine (serial_Newer.calls 65535 0 t102 _ A3.out).mono ?_) | (refine calls_of_args (args' := #[.int .u16 65535, .int .u16 0]) ?_ ?_; focus (first | rfl | (simp; done) | (go_simp; done) | (refine qa_arr ?_; (repeat' (first | rfl | refine qa_cons ?_ ?_ | refine qa_int ?_ | refine qa_agg ?_ | refine qa_arr ?_ | omega)); done)); (with_reducible refine (serial_Newer.calls 65535 0 t102 _ A3.out).mono ?_))); rintro e w' ⟨rfl, ⟨nd, rfl⟩⟩))
    go_ret
    exact ⟨by first | rfl | (simp; done) | (simp [*]; done) | (refine qa_int ?_; omega) | (refine qa_int ?_; simp <;> omega), by repeat (first | exact Drawn0.refl _ | apply Drawn0.step)⟩
  · replace c2 := Bool.eq_false_iff.mpr c2
    subst c2
    have H1 : (some false) = some r := by rw [if_neg (show ¬ (false = true) by decide)] at H; exact H
    clear H
    have H := H1
    clear H1
    obtain rfl := Option.some.inj H
    go_enter Try.func12, Try.ntmps12
    go_wp2_with (first | ((with_reducible refine gate_callee (f := 13) rfl ?_); refine goesL_ (some 1) rfl rfl Try.func13 (by kernel_rfl) rfl #[.int .u16 0, .int .u16 65535] rfl (by (try simp only [List.map_toArray, List.map_cons, List.map_nil]); first | done | rfl | (simp only [List.length_drop, List.length_take]; rfl) | (simp; done) | (go_simp; done) | (refine qa_arr ?_; (repeat' (first | rfl | refine qa_cons ?_ ?_ | refine qa_int ?_ | refine qa_agg ?_ | refine qa_arr ?_ | omega)); done)) ?_; (with_reducible refine (serial_Newer.calls 0 65535 false _ A1.out).mono ?_); rintro e w' ⟨rfl, ⟨nd, rfl⟩⟩; refine ⟨_, rfl, ?_⟩))
    go_ret
    exact ⟨by first | rfl | (simp; done) | (simp [*]; done) | (refine qa_int ?_; omega) | (refine qa_int ?_; simp <;> omega), by repeat (first | exact Drawn0.refl _ | apply Drawn0.step)⟩

/-! ### milestoneref01_Newer: function 14 -/
def milestoneref01_Newer.f (a0 : Int) (a1 : Int) : Option (Bool) := if (Int.tmod (wrap64 ((wrap64 ((wrap64 (a0)) - (wrap64 (a1)))) + 65536)) 65536) ≥ 1 then (some (decide ((Int.tmod (wrap64 ((wrap64 ((wrap64 (a0)) - (wrap64 (a1)))) + 65536)) 65536) ≤ 32767))) else (some false)
set_option maxHeartbeats 8000000 in
set_option maxRecDepth 100000 in
theorem milestoneref01_Newer.calls (a0 : Int) (a1 : Int) (r : Bool) (w : World) (h : milestoneref01_Newer.f a0 a1 = some r) :
    Calls Try.prog 14 #[.int .u16 a0, .int .u16 a1] w fun e w' => e = .returned (.bool r) ∧ Drawn0 w w' := by
  have H : (if (Int.tmod (wrap64 ((wrap64 ((wrap64 (a0)) - (wrap64 (a1)))) + 65536)) 65536) ≥ 1 then (some (decide ((Int.tmod (wrap64 ((wrap64 ((wrap64 (a0)) - (wrap64 (a1)))) + 65536)) 65536) ≤ 32767))) else (some false)) = some r := h
  clear h
  by_cases c3 : (Int.tmod (wrap64 ((wrap64 ((wrap64 (a0)) - (wrap64 (a1)))) + 65536)) 65536) ≥ 1
  · rw [if_pos c3] at H
    have c3b0 : decide (1 ≤ (Int.tmod (wrap64 ((wrap64 ((wrap64 (a0)) - (wrap64 (a1)))) + 65536)) 65536)) = true := decide_eq_true c3
    clear c3
    obtain rfl := Option.some.inj H
    go_enter Try.func14, Try.ntmps14
    go_wp2
    go_ret
    exact ⟨by first | rfl | (simp; done) | (simp [*]; done) | (refine qa_int ?_; omega) | (refine qa_int ?_; simp <;> omega), by repeat (first | exact Drawn0.refl _ | apply Drawn0.step)⟩
  · rw [if_neg c3] at H
    have c3b0 : decide (1 ≤ (Int.tmod (wrap64 ((wrap64 ((wrap64 (a0)) - (wrap64 (a1)))) + 65536)) 65536)) = false := decide_eq_false c3
    clear c3
    obtain rfl := Option.some.inj H
    go_enter Try.func14, Try.ntmps14
    go_wp2
    go_ret
    exact ⟨by first | rfl | (simp; done) | (simp [*]; done) | (refine qa_int ?_; omega) | (refine qa_int ?_; simp <;> omega), by repeat (first | exact Drawn0.refl _ | apply Drawn0.step)⟩

/-! ### serial_Next: function 15 -/
def serial_Next.f (a0 : Int) (a1 : Int) : Option (Int) := some (IntKind.u16.wrap (a0 + (IntKind.u16.wrap (a1))))
set_option maxHeartbeats 8000000 in
set_option maxRecDepth 100000 in
theorem serial_Next.calls (a0 : Int) (a1 : Int) (r : Int) (w : World) (h : serial_Next.f a0 a1 = some r) :
    Calls Try.prog 15 #[.int .u16 a0, .int .i64 a1] w fun e w' => e = .returned (.int .u16 r) ∧ Drawn0 w w' := by
  have H : (some (IntKind.u16.wrap (a0 + (IntKind.u16.wrap (a1))))) = some r := h
  clear h
  obtain rfl := Option.some.inj H
  go_enter Try.func15, Try.ntmps15
  go_wp2
  go_ret
  exact ⟨by first | rfl | (simp; done) | (simp [*]; done) | (refine qa_int ?_; omega) | (refine qa_int ?_; simp <;> omega), by repeat (first | exact Drawn0.refl _ | apply Drawn0.step)⟩

/-! ### milestonelaw02_SerialNewer: function 3 -/
def milestonelaw02_SerialNewer.f (a0 : Int) (a1 : Int) (a2 : Int) : Option (Bool) := (milestonelaw02_awake.f).bind fun t103 => (if t103 = true then ((serial_Newer.f a0 a1).bind fun t104 => ((milestoneref01_Newer.f a0 a1).bind fun t105 => (if (t104 == t105) = true then (if t104 = true then ((serial_Newer.f a1 a0).bind fun t106 => (if t106 = true then (some false) else ((serial_Next.f a0 (wrap64 (a2))).bind fun t107 => (if (wrap64 (t107)) = (Int.tmod (wrap64 ((Int.tmod (wrap64 ((wrap64 (a0)) + (wrap64 (a2)))) 65536) + 65536)) 65536) then (some true) else (some false))))) else ((serial_Next.f a0 (wrap64 (a2))).bind fun t108 => (if (wrap64 (t108)) = (Int.tmod (wrap64 ((Int.tmod (wrap64 ((wrap64 (a0)) + (wrap64 (a2)))) 65536) + 65536)) 65536) then ((serial_Newer.f a1 a0).bind fun t109 => (if t109 = true then (some true) else (if a0 = a1 then (some true) else (some ((IntKind.u16.wrap (a0 - a1)) == 32768))))) else (some false)))) else (some false)))) else (some false))
set_option maxHeartbeats 8000000 in
set_option maxRecDepth 100000 in
theorem milestonelaw02_SerialNewer.calls (a0 : Int) (a1 : Int) (a2 : Int) (r : Bool) (w : World) (h : milestonelaw02_SerialNewer.f a0 a1 a2 = some r) :
    Calls Try.prog 3 #[.int .u16 a0, .int .u16 a1, .int .i32 a2] w fun e w' => e = .returned (.bool r) ∧ Drawn0 w w' := by
  have H : ((milestonelaw02_awake.f).bind fun t103 => (if t103 = true then ((serial_Newer.f a0 a1).bind fun t104 => ((milestoneref01_Newer.f a0 a1).bind fun t105 => (if (t104 == t105) = true then (if t104 = true then ((serial_Newer.f a1 a0).bind fun t106 => (if t106 = true then (some false) else ((serial_Next.f a0 (wrap64 (a2))).bind fun t107 => (if (wrap64 (t107)) = (Int.tmod (wrap64 ((Int.tmod (wrap64 ((wrap64 (a0)) + (wrap64 (a2)))) 65536) + 65536)) 65536) then (some true) else (some false))))) else ((serial_Next.f a0 (wrap64 (a2))).bind fun t108 => (if (wrap64 (t108)) = (Int.tmod (wrap64 ((Int.tmod (wrap64 ((wrap64 (a0)) + (wrap64 (a2)))) 65536) + 65536)) 65536) then ((serial_Newer.f a1 a0).bind fun t109 => (if t109 = true then (some true) else (if a0 = a1 then (some true) else (some ((IntKind.u16.wrap (a0 - a1)) == 32768))))) else (some false)))) else (some false)))) else (some false))) = some r := h
  clear h
  replace H := Option.bind_eq_some_iff.mp H
  obtain ⟨t103, A40, H⟩ := H
  replace H : (if t103 = true then ((serial_Newer.f a0 a1).bind fun t104 => ((milestoneref01_Newer.f a0 a1).bind fun t105 => (if (t104 == t105) = true then (if t104 = true then ((serial_Newer.f a1 a0).bind fun t106 => (if t106 = true then (some false) else ((serial_Next.f a0 (wrap64 (a2))).bind fun t107 => (if (wrap64 (t107)) = (Int.tmod (wrap64 ((Int.tmod (wrap64 ((wrap64 (a0)) + (wrap64 (a2)))) 65536) + 65536)) 65536) then (some true) else (some false))))) else ((serial_Next.f a0 (wrap64 (a2))).bind fun t108 => (if (wrap64 (t108)) = (Int.tmod (wrap64 ((Int.tmod (wrap64 ((wrap64 (a0)) + (wrap64 (a2)))) 65536) + 65536)) 65536) then ((serial_Newer.f a1 a0).bind fun t109 => (if t109 = true then (some true) else (if a0 = a1 then (some true) else (some ((IntKind.u16.wrap (a0 - a1)) == 32768))))) else (some false)))) else (some false)))) else (some false)) = some r := H
  have A4 := Aside0.mk A40
  clear A40
  by_cases c5 : t103 = true
  · subst c5
    have H1 : ((serial_Newer.f a0 a1).bind fun t104 => ((milestoneref01_Newer.f a0 a1).bind fun t105 => (if (t104 == t105) = true then (if t104 = true then ((serial_Newer.f a1 a0).bind fun t106 => (if t106 = true then (some false) else ((serial_Next.f a0 (wrap64 (a2))).bind fun t107 => (if (wrap64 (t107)) = (Int.tmod (wrap64 ((Int.tmod (wrap64 ((wrap64 (a0)) + (wrap64 (a2)))) 65536) + 65536)) 65536) then (some true) else (some false))))) else ((serial_Next.f a0 (wrap64 (a2))).bind fun t108 => (if (wrap64 (t108)) = (Int.tmod (wrap64 ((Int.tmod (wrap64 ((wrap64 (a0)) + (wrap64 (a2)))) 65536) + 65536)) 65536) then ((serial_Newer.f a1 a0).bind fun t109 => (if t109 = true then (some true) else (if a0 = a1 then (some true) else (some ((IntKind.u16.wrap (a0 - a1)) == 32768))))) else (some false)))) else (some false)))) = some r := by rw [if_pos rfl] at H; exact H
    clear H
    have H := H1
    clear H1
    replace H := Option.bind_eq_some_iff.mp H
    obtain ⟨t104, A60, H⟩ := H
    replace H : ((milestoneref01_Newer.f a0 a1).bind fun t105 => (if (t104 == t105) = true then (if t104 = true then ((serial_Newer.f a1 a0).bind fun t106 => (if t106 = true then (some false) else ((serial_Next.f a0 (wrap64 (a2))).bind fun t107 => (if (wrap64 (t107)) = (Int.tmod (wrap64 ((Int.tmod (wrap64 ((wrap64 (a0)) + (wrap64 (a2)))) 65536) + 65536)) 65536) then (some true) else (some false))))) else ((serial_Next.f a0 (wrap64 (a2))).bind fun t108 => (if (wrap64 (t108)) = (Int.tmod (wrap64 ((Int.tmod (wrap64 ((wrap64 (a0)) + (wrap64 (a2)))) 65536) + 65536)) 65536) then ((serial_Newer.f a1 a0).bind fun t109 => (if t109 = true then (some true) else (if a0 = a1 then (some true) else (some ((IntKind.u16.wrap (a0 - a1)) == 32768))))) else (some false)))) else (some false))) = some r := H
    have A6 := Aside0.mk A60
    clear A60
    replace H := Option.bind_eq_some_iff.mp H
    obtain ⟨t105, A70, H⟩ := H
    replace H : (if (t104 == t105) = true then (if t104 = true then ((serial_Newer.f a1 a0).bind fun t106 => (if t106 = true then (some false) else ((serial_Next.f a0 (wrap64 (a2))).bind fun t107 => (if (wrap64 (t107)) = (Int.tmod (wrap64 ((Int.tmod (wrap64 ((wrap64 (a0)) + (wrap64 (a2)))) 65536) + 65536)) 65536) then (some true) else (some false))))) else ((serial_Next.f a0 (wrap64 (a2))).bind fun t108 => (if (wrap64 (t108)) = (Int.tmod (wrap64 ((Int.tmod (wrap64 ((wrap64 (a0)) + (wrap64 (a2)))) 65536) + 65536)) 65536) then ((serial_Newer.f a1 a0).bind fun t109 => (if t109 = true then (some true) else (if a0 = a1 then (some true) else (some ((IntKind.u16.wrap (a0 - a1)) == 32768))))) else (some false)))) else (some false)) = some r := H
    have A7 := Aside0.mk A70
    clear A70
    by_cases c8 : (t104 == t105) = true
    · rw [if_pos c8] at H
      have c8b0 : (t104 == t105) = true := c8
      (try (have c8b1 : decide (t104 = t105) = true := by simpa using c8))
      (try (have c8b2 : (t104 == t105) = true := by simpa using c8))
      clear c8
      by_cases c9 : t104 = true
      · subst c9
        have H1 : ((serial_Newer.f a1 a0).bind fun t106 => (if t106 = true then (some false) else ((serial_Next.f a0 (wrap64 (a2))).bind fun t107 => (if (wrap64 (t107)) = (Int.tmod (wrap64 ((Int.tmod (wrap64 ((wrap64 (a0)) + (wrap64 (a2)))) 65536) + 65536)) 65536) then (some true) else (some false))))) = some r := by rw [if_pos rfl] at H; exact H
        clear H
        have H := H1
        clear H1
        replace H := Option.bind_eq_some_iff.mp H
        obtain ⟨t106, A100, H⟩ := H
        replace H : (if t106 = true then (some false) else ((serial_Next.f a0 (wrap64 (a2))).bind fun t107 => (if (wrap64 (t107)) = (Int.tmod (wrap64 ((Int.tmod (wrap64 ((wrap64 (a0)) + (wrap64 (a2)))) 65536) + 65536)) 65536) then (some true) else (some false)))) = some r := H
        have A10 := Aside0.mk A100
        clear A100
        by_cases c11 : t106 = true
        · subst c11
          have H1 : (some false) = some r := by rw [if_pos rfl] at H; exact H
          clear H
          have H := H1
          clear H1
          obtain rfl := Option.some.inj H
          go_enter Try.func3, Try.ntmps3
          go_wp2_with (first | ((with_reducible refine gate_callee (f := 12) rfl ?_); refine goesL_ (some 7) rfl rfl Try.func12 (by kernel_rfl) rfl #[] rfl (by (try simp only [List.map_toArray, List.map_cons, List.map_nil]); first | done | rfl | (simp only [List.length_drop, List.length_take]; rfl) | (simp; done) | (go_simp; done) | (refine qa_arr ?_; (repeat' (first | rfl | refine qa_cons ?_ ?_ | refine qa_int ?_ | refine qa_agg ?_ | refine qa_arr ?_ | omega)); done)) ?_; (with_reducible refine (milestonelaw02_awake.calls  true _ A4.out).mono ?_); rintro e w' ⟨rfl, ⟨nd, rfl⟩⟩; refine ⟨_, rfl, ?_⟩) | (go_at_call 13; (first | (with_reducible refine (serial_Newer.calls a0 a1 true _ A6.out).mono ?_) | (refine calls_of_args (args' := #[.int .u16 a0, .int .u16 a1]) ?_ ?_; focus (first | rfl | (simp; done) | (go_simp; done) | (refine qa_arr ?_; (repeat' (first | rfl | refine qa_cons ?_ ?_ | refine qa_int ?_ | refine qa_agg ?_ | refine qa_arr ?_ | omega)); done)); (with_reducible refine (serial_Newer.calls a0 a1 true _ A6.out).mono ?_))); rintro e w' ⟨rfl, ⟨nd, rfl⟩⟩) | (go_at_call 14; (first | (with_reducible refine (milestoneref01_Newer.calls a0 a1 t105 _ A7.out).mono ?_) | (refine calls_of_args (args' := #[.int .u16 a0, .int .u16 a1]) ?_ ?_; focus (first | rfl | (simp; done) | (go_simp; done) | (refine qa_arr ?_; (repeat' (first | rfl | refine qa_cons ?_ ?_ | refine qa_int ?_ | refine qa_agg ?_ | refine qa_arr ?_ | omega)); done)); (with_reducible refine (milestoneref01_Newer.calls a0 a1 t105 _ A7.out).mono ?_))); rintro e w' ⟨rfl, ⟨nd, rfl⟩⟩) | (go_at_call 13; (first | (with_reducible refine (serial_Newer.calls a1 a0 true _ A10.out).mono ?_) | (refine calls_of_args (args' := #[.int .u16 a1, .int .u16 a0]) ?_ ?_; focus (first | rfl | (simp; done) | (go_simp; done) | (refine qa_arr ?_; (repeat' (first | rfl | refine qa_cons ?_ ?_ | refine qa_int ?_ | refine qa_agg ?_ | refine qa_arr ?_ | omega)); done)); (with_reducible refine (serial_Newer.calls a1 a0 true _ A10.out).mono ?_))); rintro e w' ⟨rfl, ⟨nd, rfl⟩⟩))
          go_ret
          exact ⟨by first | rfl | (simp; done) | (simp [*]; done) | (refine qa_int ?_; omega) | (refine qa_int ?_; simp <;> omega), by repeat (first | exact Drawn0.refl _ | apply Drawn0.step)⟩
        · replace c11 := Bool.eq_false_iff.mpr c11
          subst c11
          have H1 : ((serial_Next.f a0 (wrap64 (a2))).bind fun t107 => (if (wrap64 (t107)) = (Int.tmod (wrap64 ((Int.tmod (wrap64 ((wrap64 (a0)) + (wrap64 (a2)))) 65536) + 65536)) 65536) then (some true) else (some false))) = some r := by rw [if_neg (show ¬ (false = true) by decide)] at H; exact H
          clear H
          have H := H1
          clear H1
          replace H := Option.bind_eq_some_iff.mp H
          obtain ⟨t107, A120, H⟩ := H
          replace H : (if (wrap64 (t107)) = (Int.tmod (wrap64 ((Int.tmod (wrap64 ((wrap64 (a0)) + (wrap64 (a2)))) 65536) + 65536)) 65536) then (some true) else (some false)) = some r := H
          have A12 := Aside0.mk A120
          clear A120
          by_cases c13 : (wrap64 (t107)) = (Int.tmod (wrap64 ((Int.tmod (wrap64 ((wrap64 (a0)) + (wrap64 (a2)))) 65536) + 65536)) 65536)
          · rw [if_pos c13] at H
            have c13b0 : ((wrap64 (t107)) == (Int.tmod (wrap64 ((Int.tmod (wrap64 ((wrap64 (a0)) + (wrap64 (a2)))) 65536) + 65536)) 65536)) = true := beq_iff_eq.mpr c13
            have c13b1 : ((wrap64 (t107)) != (Int.tmod (wrap64 ((Int.tmod (wrap64 ((wrap64 (a0)) + (wrap64 (a2)))) 65536) + 65536)) 65536)) = false := bne_eq_false_iff_eq.mpr c13
            clear c13
            obtain rfl := Option.some.inj H
            go_enter Try.func3, Try.ntmps3
            go_wp2_with (first | ((with_reducible refine gate_callee (f := 12) rfl ?_); refine goesL_ (some 7) rfl rfl Try.func12 (by kernel_rfl) rfl #[] rfl (by (try simp only [List.map_toArray, List.map_cons, List.map_nil]); first | done | rfl | (simp only [List.length_drop, List.length_take]; rfl) | (simp; done) | (go_simp; done) | (refine qa_arr ?_; (repeat' (first | rfl | refine qa_cons ?_ ?_ | refine qa_int ?_ | refine qa_agg ?_ | refine qa_arr ?_ | omega)); done)) ?_; (with_reducible refine (milestonelaw02_awake.calls  true _ A4.out).mono ?_); rintro e w' ⟨rfl, ⟨nd, rfl⟩⟩; refine ⟨_, rfl, ?_⟩) | (go_at_call 13; (first | (with_reducible refine (serial_Newer.calls a0 a1 true _ A6.out).mono ?_) | (refine calls_of_args (args' := #[.int .u16 a0, .int .u16 a1]) ?_ ?_; focus (first | rfl | (simp; done) | (go_simp; done) | (refine qa_arr ?_; (repeat' (first | rfl | refine qa_cons ?_ ?_ | refine qa_int ?_ | refine qa_agg ?_ | refine qa_arr ?_ | omega)); done)); (with_reducible refine (serial_Newer.calls a0 a1 true _ A6.out).mono ?_))); rintro e w' ⟨rfl, ⟨nd, rfl⟩⟩) | (go_at_call 14; (first | (with_reducible refine (milestoneref01_Newer.calls a0 a1 t105 _ A7.out).mono ?_) | (refine calls_of_args (args' := #[.int .u16 a0, .int .u16 a1]) ?_ ?_; focus (first | rfl | (simp; done) | (go_simp; done) | (refine qa_arr ?_; (repeat' (first | rfl | refine qa_cons ?_ ?_ | refine qa_int ?_ | refine qa_agg ?_ | refine qa_arr ?_ | omega)); done)); (with_reducible refine (milestoneref01_Newer.calls a0 a1 t105 _ A7.out).mono ?_))); rintro e w' ⟨rfl, ⟨nd, rfl⟩⟩) | (go_at_call 13; (first | (with_reducible refine (serial_Newer.calls a1 a0 false _ A10.out).mono ?_) | (refine calls_of_args (args' := #[.int .u16 a1, .int .u16 a0]) ?_ ?_; focus (first | rfl | (simp; done) | (go_simp; done) | (refine qa_arr ?_; (repeat' (first | rfl | refine qa_cons ?_ ?_ | refine qa_int ?_ | refine qa_agg ?_ | refine qa_arr ?_ | omega)); done)); (with_reducible refine (serial_Newer.calls a1 a0 false _ A10.out).mono ?_))); rintro e w' ⟨rfl, ⟨nd, rfl⟩⟩) | (go_at_call 15; (first | (with_reducible refine (serial_Next.calls a0 (wrap64 (a2)) t107 _ A12.out).mono ?_) | (refine calls_of_args (args' := #[.int .u16 a0, .int .i64 (wrap64 (a2))]) ?_ ?_; focus (first | rfl | (simp; done) | (go_simp; done) | (refine qa_arr ?_; (repeat' (first | rfl | refine qa_cons ?_ ?_ | refine qa_int ?_ | refine qa_agg ?_ | refine qa_arr ?_ | omega)); done)); (with_reducible refine (serial_Next.calls a0 (wrap64 (a2)) t107 _ A12.out).mono ?_))); rintro e w' ⟨rfl, ⟨nd, rfl⟩⟩))
            go_ret
            exact ⟨by first | rfl | (simp; done) | (simp [*]; done) | (refine qa_int ?_; omega) | (refine qa_int ?_; simp <;> omega), by repeat (first | exact Drawn0.refl _ | apply Drawn0.step)⟩
          · rw [if_neg c13] at H
            have c13b0 : ((wrap64 (t107)) == (Int.tmod (wrap64 ((Int.tmod (wrap64 ((wrap64 (a0)) + (wrap64 (a2)))) 65536) + 65536)) 65536)) = false := beq_eq_false_iff_ne.mpr c13
            have c13b1 : ((wrap64 (t107)) != (Int.tmod (wrap64 ((Int.tmod (wrap64 ((wrap64 (a0)) + (wrap64 (a2)))) 65536) + 65536)) 65536)) = true := bne_iff_ne.mpr c13
            obtain rfl := Option.some.inj H
            go_enter Try.func3, Try.ntmps3
            go_wp2_with (first | ((with_reducible refine gate_callee (f := 12) rfl ?_); refine goesL_ (some 7) rfl rfl Try.func12 (by kernel_rfl) rfl #[] rfl (by (try simp only [List.map_toArray, List.map_cons, List.map_nil]); first | done | rfl | (simp only [List.length_drop, List.length_take]; rfl) | (simp; done) | (go_simp; done) | (refine qa_arr ?_; (repeat' (first | rfl | refine qa_cons ?_ ?_ | refine qa_int ?_ | refine qa_agg ?_ | refine qa_arr ?_ | omega)); done)) ?_; (with_reducible refine (milestonelaw02_awake.calls  true _ A4.out).mono ?_); rintro e w' ⟨rfl, ⟨nd, rfl⟩⟩; refine ⟨_, rfl, ?_⟩) | (go_at_call 13; (first | (with_reducible refine (serial_Newer.calls a0 a1 true _ A6.out).mono ?_) | (refine calls_of_args (args' := #[.int .u16 a0, .int .u16 a1]) ?_ ?_; focus (first | rfl | (simp; done) | (go_simp; done) | (refine qa_arr ?_; (repeat' (first | rfl | refine qa_cons ?_ ?_ | refine qa_int ?_ | refine qa_agg ?_ | refine qa_arr ?_ | omega)); done)); (with_reducible refine (serial_Newer.calls a0 a1 true _ A6.out).mono ?_))); rintro e w' ⟨rfl, ⟨nd, rfl⟩⟩) | (go_at_call 14; (first | (with_reducible refine (milestoneref01_Newer.calls a0 a1 t105 _ A7.out).mono ?_) | (refine calls_of_args (args' := #[.int .u16 a0, .int .u16 a1]) ?_ ?_; focus (first | rfl | (simp; done) | (go_simp; done) | (refine qa_arr ?_; (repeat' (first | rfl | refine qa_cons ?_ ?_ | refine qa_int ?_ | refine qa_agg ?_ | refine qa_arr ?_ | omega)); done)); (with_reducible refine (milestoneref01_Newer.calls a0 a1 t105 _ A7.out).mono ?_))); rintro e w' ⟨rfl, ⟨nd, rfl⟩⟩) | (go_at_call 13; (first | (with_reducible refine (serial_Newer.calls a1 a0 false _ A10.out).mono ?_) | (refine calls_of_args (args' := #[.int .u16 a1, .int .u16 a0]) ?_ ?_; focus (first | rfl | (simp; done) | (go_simp; done) | (refine qa_arr ?_; (repeat' (first | rfl | refine qa_cons ?_ ?_ | refine qa_int ?_ | refine qa_agg ?_ | refine qa_arr ?_ | omega)); done)); (with_reducible refine (serial_Newer.calls a1 a0 false _ A10.out).mono ?_))); rintro e w' ⟨rfl, ⟨nd, rfl⟩⟩) | (go_at_call 15; (first | (with_reducible refine (serial_Next.calls a0 (wrap64 (a2)) t107 _ A12.out).mono ?_) | (refine calls_of_args (args' := #[.int .u16 a0, .int .i64 (wrap64 (a2))]) ?_ ?_; focus (first | rfl | (simp; done) | (go_simp; done) | (refine qa_arr ?_; (repeat' (first | rfl | refine qa_cons ?_ ?_ | refine qa_int ?_ | refine qa_agg ?_ | refine qa_arr ?_ | omega)); done)); (with_reducible refine (serial_Next.calls a0 (wrap64 (a2)) t107 _ A12.out).mono ?_))); rintro e w' ⟨rfl, ⟨nd, rfl⟩⟩))
            go_ret
            exact ⟨by first | rfl | (simp; done) | (simp [*]; done) | (refine qa_int ?_; omega) | (refine qa_int ?_; simp <;> omega), by repeat (first | exact Drawn0.refl _ | apply Drawn0.step)⟩
      · replace c9 := Bool.eq_false_iff.mpr c9
        subst c9
        have H1 : ((serial_Next.f a0 (wrap64 (a2))).bind fun t108 => (if (wrap64 (t108)) = (Int.tmod (wrap64 ((Int.tmod (wrap64 ((wrap64 (a0)) + (wrap64 (a2)))) 65536) + 65536)) 65536) then ((serial_Newer.f a1 a0).bind fun t109 => (if t109 = true then (some true) else (if a0 = a1 then (some true) else (some ((IntKind.u16.wrap (a0 - a1)) == 32768))))) else (some false))) = some r := by rw [if_neg (show ¬ (false = true) by decide)] at H; exact H
        clear H
        have H := H1
        clear H1
        replace H := Option.bind_eq_some_iff.mp H
        obtain ⟨t108, A140, H⟩ := H
        replace H : (if (wrap64 (t108)) = (Int.tmod (wrap64 ((Int.tmod (wrap64 ((wrap64 (a0)) + (wrap64 (a2)))) 65536) + 65536)) 65536) then ((serial_Newer.f a1 a0).bind fun t109 => (if t109 = true then (some true) else (if a0 = a1 then (some true) else (some ((IntKind.u16.wrap (a0 - a1)) == 32768))))) else (some false)) = some r := H
        have A14 := Aside0.mk A140
        clear A140
        by_cases c15 : (wrap64 (t108)) = (Int.tmod (wrap64 ((Int.tmod (wrap64 ((wrap64 (a0)) + (wrap64 (a2)))) 65536) + 65536)) 65536)
        · rw [if_pos c15] at H
          have c15b0 : ((wrap64 (t108)) == (Int.tmod (wrap64 ((Int.tmod (wrap64 ((wrap64 (a0)) + (wrap64 (a2)))) 65536) + 65536)) 65536)) = true := beq_iff_eq.mpr c15
          have c15b1 : ((wrap64 (t108)) != (Int.tmod (wrap64 ((Int.tmod (wrap64 ((wrap64 (a0)) + (wrap64 (a2)))) 65536) + 65536)) 65536)) = false := bne_eq_false_iff_eq.mpr c15
          clear c15
          replace H := Option.bind_eq_some_iff.mp H
          obtain ⟨t109, A160, H⟩ := H
          replace H : (if t109 = true then (some true) else (if a0 = a1 then (some true) else (some ((IntKind.u16.wrap (a0 - a1)) == 32768)))) = some r := H
          have A16 := Aside0.mk A160
          clear A160
          by_cases c17 : t109 = true
          · subst c17
            have H1 : (some true) = some r := by rw [if_pos rfl] at H; exact H
            clear H
            have H := H1
            clear H1
            obtain rfl := Option.some.inj H
            go_enter Try.func3, Try.ntmps3
            go_wp2_with (first | ((with_reducible refine gate_callee (f := 12) rfl ?_); refine goesL_ (some 7) rfl rfl Try.func12 (by kernel_rfl) rfl #[] rfl (by (try simp only [List.map_toArray, List.map_cons, List.map_nil]); first | done | rfl | (simp only [List.length_drop, List.length_take]; rfl) | (simp; done) | (go_simp; done) | (refine qa_arr ?_; (repeat' (first | rfl | refine qa_cons ?_ ?_ | refine qa_int ?_ | refine qa_agg ?_ | refine qa_arr ?_ | omega)); done)) ?_; (with_reducible refine (milestonelaw02_awake.calls  true _ A4.out).mono ?_); rintro e w' ⟨rfl, ⟨nd, rfl⟩⟩; refine ⟨_, rfl, ?_⟩) | (go_at_call 13; (first | (with_reducible refine (serial_Newer.calls a0 a1 false _ A6.out).mono ?_) | (refine calls_of_args (args' := #[.int .u16 a0, .int .u16 a1]) ?_ ?_; focus (first | rfl | (simp; done) | (go_simp; done) | (refine qa_arr ?_; (repeat' (first | rfl | refine qa_cons ?_ ?_ | refine qa_int ?_ | refine qa_agg ?_ | refine qa_arr ?_ | omega)); done)); (with_reducible refine (serial_Newer.calls a0 a1 false _ A6.out).mono ?_))); rintro e w' ⟨rfl, ⟨nd, rfl⟩⟩) | (go_at_call 14; (first | (with_reducible refine (milestoneref01_Newer.calls a0 a1 t105 _ A7.out).mono ?_) | (refine calls_of_args (args' := #[.int .u16 a0, .int .u16 a1]) ?_ ?_; focus (first | rfl | (simp; done) | (go_simp; done) | (refine qa_arr ?_; (repeat' (first | rfl | refine qa_cons ?_ ?_ | refine qa_int ?_ | refine qa_agg ?_ | refine qa_arr ?_ | omega)); done)); (with_reducible refine (milestoneref01_Newer.calls a0 a1 t105 _ A7.out).mono ?_))); rintro e w' ⟨rfl, ⟨nd, rfl⟩⟩) | (go_at_call 15; (first | (with_reducible refine (serial_Next.calls a0 (wrap64 (a2)) t108 _ A14.out).mono ?_) | (refine calls_of_args (args' := #[.int .u16 a0, .int .i64 (wrap64 (a2))]) ?_ ?_; focus (first | rfl | (simp; done) | (go_simp; done) | (refine qa_arr ?_; (repeat' (first | rfl | refine qa_cons ?_ ?_ | refine qa_int ?_ | refine qa_agg ?_ | refine qa_arr ?_ | omega)); done)); (with_reducible refine (serial_Next.calls a0 (wrap64 (a2)) t108 _ A14.out).mono ?_))); rintro e w' ⟨rfl, ⟨nd, rfl⟩⟩) | (go_at_call 13; (first | (with_reducible refine (serial_Newer.calls a1 a0 true _ A16.out).mono ?_) | (refine calls_of_args (args' := #[.int .u16 a1, .int .u16 a0]) ?_ ?_; focus (first | rfl | (simp; done) | (go_simp; done) | (refine qa_arr ?_; (repeat' (first | rfl | refine qa_cons ?_ ?_ | refine qa_int ?_ | refine qa_agg ?_ | refine qa_arr ?_ | omega)); done)); (with_reducible refine (serial_Newer.calls a1 a0 true _ A16.out).mono ?_))); rintro e w' ⟨rfl, ⟨nd, rfl⟩⟩))
            go_ret
            exact ⟨by first | rfl | (simp; done) | (simp [*]; done) | (refine qa_int ?_; omega) | (refine qa_int ?_; simp <;> omega), by repeat (first | exact Drawn0.refl _ | apply Drawn0.step)⟩
          · replace c17 := Bool.eq_false_iff.mpr c17
            subst c17
            have H1 : (if a0 = a1 then (some true) else (some ((IntKind.u16.wrap (a0 - a1)) == 32768))) = some r := by rw [if_neg (show ¬ (false = true) by decide)] at H; exact H
            clear H
            have H := H1
            clear H1
            by_cases c18 : a0 = a1
            · rw [if_pos c18] at H
              have c18b0 : (a0 == a1) = true := beq_iff_eq.mpr c18
              have c18b1 : (a0 != a1) = false := bne_eq_false_iff_eq.mpr c18
              clear c18
              obtain rfl := Option.some.inj H
              go_enter Try.func3, Try.ntmps3
              go_wp2_with (first | ((with_reducible refine gate_callee (f := 12) rfl ?_); refine goesL_ (some 7) rfl rfl Try.func12 (by kernel_rfl) rfl #[] rfl (by (try simp only [List.map_toArray, List.map_cons, List.map_nil]); first | done | rfl | (simp only [List.length_drop, List.length_take]; rfl) | (simp; done) | (go_simp; done) | (refine qa_arr ?_; (repeat' (first | rfl | refine qa_cons ?_ ?_ | refine qa_int ?_ | refine qa_agg ?_ | refine qa_arr ?_ | omega)); done)) ?_; (with_reducible refine (milestonelaw02_awake.calls  true _ A4.out).mono ?_); rintro e w' ⟨rfl, ⟨nd, rfl⟩⟩; refine ⟨_, rfl, ?_⟩) | (go_at_call 13; (first | (with_reducible refine (serial_Newer.calls a0 a1 false _ A6.out).mono ?_) | (refine calls_of_args (args' := #[.int .u16 a0, .int .u16 a1]) ?_ ?_; focus (first | rfl | (simp; done) | (go_simp; done) | (refine qa_arr ?_; (repeat' (first | rfl | refine qa_cons ?_ ?_ | refine qa_int ?_ | refine qa_agg ?_ | refine qa_arr ?_ | omega)); done)); (with_reducible refine (serial_Newer.calls a0 a1 false _ A6.out).mono ?_))); rintro e w' ⟨rfl, ⟨nd, rfl⟩⟩) | (go_at_call 14; (first | (with_reducible refine (milestoneref01_Newer.calls a0 a1 t105 _ A7.out).mono ?_) | (refine calls_of_args (args' := #[.int .u16 a0, .int .u16 a1]) ?_ ?_; focus (first | rfl | (simp; done) | (go_simp; done) | (refine qa_arr ?_; (repeat' (first | rfl | refine qa_cons ?_ ?_ | refine qa_int ?_ | refine qa_agg ?_ | refine qa_arr ?_ | omega)); done)); (with_reducible refine (milestoneref01_Newer.calls a0 a1 t105 _ A7.out).mono ?_))); rintro e w' ⟨rfl, ⟨nd, rfl⟩⟩) | (go_at_call 15; (first | (with_reducible refine (serial_Next.calls a0 (wrap64 (a2)) t108 _ A14.out).mono ?_) | (refine calls_of_args (args' := #[.int .u16 a0, .int .i64 (wrap64 (a2))]) ?_ ?_; focus (first | rfl | (simp; done) | (go_simp; done) | (refine qa_arr ?_; (repeat' (first | rfl | refine qa_cons ?_ ?_ | refine qa_int ?_ | refine qa_agg ?_ | refine qa_arr ?_ | omega)); done)); (with_reducible refine (serial_Next.calls a0 (wrap64 (a2)) t108 _ A14.out).mono ?_))); rintro e w' ⟨rfl, ⟨nd, rfl⟩⟩) | (go_at_call 13; (first | (with_reducible refine (serial_Newer.calls a1 a0 false _ A16.out).mono ?_) | (refine calls_of_args (args' := #[.int .u16 a1, .int .u16 a0]) ?_ ?_; focus (first | rfl | (simp; done) | (go_simp; done) | (refine qa_arr ?_; (repeat' (first | rfl | refine qa_cons ?_ ?_ | refine qa_int ?_ | refine qa_agg ?_ | refine qa_arr ?_ | omega)); done)); (with_reducible refine (serial_Newer.calls a1 a0 false _ A16.out).mono ?_))); rintro e w' ⟨rfl, ⟨nd, rfl⟩⟩))
              go_ret
              exact ⟨by first | rfl | (simp; done) | (simp [*]; done) | (refine qa_int ?_; omega) | (refine qa_int ?_; simp <;> omega), by repeat (first | exact Drawn0.refl _ | apply Drawn0.step)⟩
            · rw [if_neg c18] at H
              have c18b0 : (a0 == a1) = false := beq_eq_false_iff_ne.mpr c18
              have c18b1 : (a0 != a1) = true := bne_iff_ne.mpr c18
              obtain rfl := Option.some.inj H
              go_enter Try.func3, Try.ntmps3
              go_wp2_with (first | ((with_reducible refine gate_callee (f := 12) rfl ?_); refine goesL_ (some 7) rfl rfl Try.func12 (by kernel_rfl) rfl #[] rfl (by (try simp only [List.map_toArray, List.map_cons, List.map_nil]); first | done | rfl | (simp only [List.length_drop, List.length_take]; rfl) | (simp; done) | (go_simp; done) | (refine qa_arr ?_; (repeat' (first | rfl | refine qa_cons ?_ ?_ | refine qa_int ?_ | refine qa_agg ?_ | refine qa_arr ?_ | omega)); done)) ?_; (with_reducible refine (milestonelaw02_awake.calls  true _ A4.out).mono ?_); rintro e w' ⟨rfl, ⟨nd, rfl⟩⟩; refine ⟨_, rfl, ?_⟩) | (go_at_call 13; (first | (with_reducible refine (serial_Newer.calls a0 a1 false _ A6.out).mono ?_) | (refine calls_of_args (args' := #[.int .u16 a0, .int .u16 a1]) ?_ ?_; focus (first | rfl | (simp; done) | (go_simp; done) | (refine qa_arr ?_; (repeat' (first | rfl | refine qa_cons ?_ ?_ | refine qa_int ?_ | refine qa_agg ?_ | refine qa_arr ?_ | omega)); done)); (with_reducible refine (serial_Newer.calls a0 a1 false _ A6.out).mono ?_))); rintro e w' ⟨rfl, ⟨nd, rfl⟩⟩) | (go_at_call 14; (first | (with_reducible refine (milestoneref01_Newer.calls a0 a1 t105 _ A7.out).mono ?_) | (refine calls_of_args (args' := #[.int .u16 a0, .int .u16 a1]) ?_ ?_; focus (first | rfl | (simp; done) | (go_simp; done) | (refine qa_arr ?_; (repeat' (first | rfl | refine qa_cons ?_ ?_ | refine qa_int ?_ | refine qa_agg ?_ | refine qa_arr ?_ | omega)); done)); (with_reducible refine (milestoneref01_Newer.calls a0 a1 t105 _ A7.out).mono ?_))); rintro e w' ⟨rfl, ⟨nd, rfl⟩⟩) | (go_at_call 15; (first | (with_reducible refine (serial_Next.calls a0 (wrap64 (a2)) t108 _ A14.out).mono ?_) | (refine calls_of_args (args' := #[.int .u16 a0, .int .i64 (wrap64 (a2))]) ?_ ?_; focus (first | rfl | (simp; done) | (go_simp; done) | (refine qa_arr ?_; (repeat' (first | rfl | refine qa_cons ?_ ?_ | refine qa_int ?_ | refine qa_agg ?_ | refine qa_arr ?_ | omega)); done)); (with_reducible refine (serial_Next.calls a0 (wrap64 (a2)) t108 _ A14.out).mono ?_))); rintro e w' ⟨rfl, ⟨nd, rfl⟩⟩) | (go_at_call 13; (first | (with_reducible refine (serial_Newer.calls a1 a0 false _ A16.out).mono ?_) | (refine calls_of_args (args' := #[.int .u16 a1, .int .u16 a0]) ?_ ?_; focus (first | rfl | (simp; done) | (go_simp; done) | (refine qa_arr ?_; (repeat' (first | rfl | refine qa_cons ?_ ?_ | refine qa_int ?_ | refine qa_agg ?_ | refine qa_arr ?_ | omega)); done)); (with_reducible refine (serial_Newer.calls a1 a0 false _ A16.out).mono ?_))); rintro e w' ⟨rfl, ⟨nd, rfl⟩⟩))
              go_ret
              exact ⟨by first | rfl | (simp; done) | (simp [*]; done) | (refine qa_int ?_; omega) | (refine qa_int ?_; simp <;> omega), by repeat (first | exact Drawn0.refl _ | apply Drawn0.step)⟩
        · rw [if_neg c15] at H
          have c15b0 : ((wrap64 (t108)) == (Int.tmod (wrap64 ((Int.tmod (wrap64 ((wrap64 (a0)) + (wrap64 (a2)))) 65536) + 65536)) 65536)) = false := beq_eq_false_iff_ne.mpr c15
          have c15b1 : ((wrap64 (t108)) != (Int.tmod (wrap64 ((Int.tmod (wrap64 ((wrap64 (a0)) + (wrap64 (a2)))) 65536) + 65536)) 65536)) = true := bne_iff_ne.mpr c15
          obtain rfl := Option.some.inj H
          go_enter Try.func3, Try.ntmps3
          go_wp2_with (first | ((with_reducible refine gate_callee (f := 12) rfl ?_); refine goesL_ (some 7) rfl rfl Try.func12 (by kernel_rfl) rfl #[] rfl (by (try simp only [List.map_toArray, List.map_cons, List.map_nil]); first | done | rfl | (simp only [List.length_drop, List.length_take]; rfl) | (simp; done) | (go_simp; done) | (refine qa_arr ?_; (repeat' (first | rfl | refine qa_cons ?_ ?_ | refine qa_int ?_ | refine qa_agg ?_ | refine qa_arr ?_ | omega)); done)) ?_; (with_reducible refine (milestonelaw02_awake.calls  true _ A4.out).mono ?_); rintro e w' ⟨rfl, ⟨nd, rfl⟩⟩; refine ⟨_, rfl, ?_⟩) | (go_at_call 13; (first | (with_reducible refine (serial_Newer.calls a0 a1 false _ A6.out).mono ?_) | (refine calls_of_args (args' := #[.int .u16 a0, .int .u16 a1]) ?_ ?_; focus (first | rfl | (simp; done) | (go_simp; done) | (refine qa_arr ?_; (repeat' (first | rfl | refine qa_cons ?_ ?_ | refine qa_int ?_ | refine qa_agg ?_ | refine qa_arr ?_ | omega)); done)); (with_reducible refine (serial_Newer.calls a0 a1 false _ A6.out).mono ?_))); rintro e w' ⟨rfl, ⟨nd, rfl⟩⟩) | (go_at_call 14; (first | (with_reducible refine (milestoneref01_Newer.calls a0 a1 t105 _ A7.out).mono ?_) | (refine calls_of_args (args' := #[.int .u16 a0, .int .u16 a1]) ?_ ?_; focus (first | rfl | (simp; done) | (go_simp; done) | (refine qa_arr ?_; (repeat' (first | rfl | refine qa_cons ?_ ?_ | refine qa_int ?_ | refine qa_agg ?_ | refine qa_arr ?_ | omega)); done)); (with_reducible refine (milestoneref01_Newer.calls a0 a1 t105 _ A7.out).mono ?_))); rintro e w' ⟨rfl, ⟨nd, rfl⟩⟩) | (go_at_call 15; (first | (with_reducible refine (serial_Next.calls a0 (wrap64 (a2)) t108 _ A14.out).mono ?_) | (refine calls_of_args (args' := #[.int .u16 a0, .int .i64 (wrap64 (a2))]) ?_ ?_; focus (first | rfl | (simp; done) | (go_simp; done) | (refine qa_arr ?_; (repeat' (first | rfl | refine qa_cons ?_ ?_ | refine qa_int ?_ | refine qa_agg ?_ | refine qa_arr ?_ | omega)); done)); (with_reducible refine (serial_Next.calls a0 (wrap64 (a2)) t108 _ A14.out).mono ?_))); rintro e w' ⟨rfl, ⟨nd, rfl⟩⟩))
          go_ret
          exact ⟨by first | rfl | (simp; done) | (simp [*]; done) | (refine qa_int ?_; omega) | (refine qa_int ?_; simp <;> omega), by repeat (first | exact Drawn0.refl _ | apply Drawn0.step)⟩
    · rw [if_neg c8] at H
      have c8b0 : (t104 == t105) = false := by simpa using c8
      (try (have c8b1 : decide (t104 = t105) = false := by simpa using c8))
      (try (have c8b2 : (t104 == t105) = false := by simpa using c8))
      (try (have c8b3 : ¬ (t104 = t105) := by simpa using c8))
      clear c8
      obtain rfl := Option.some.inj H
      go_enter Try.func3, Try.ntmps3
      go_wp2_with (first | ((with_reducible refine gate_callee (f := 12) rfl ?_); refine goesL_ (some 7) rfl rfl Try.func12 (by kernel_rfl) rfl #[] rfl (by (try simp only [List.map_toArray, List.map_cons, List.map_nil]); first | done | rfl | (simp only [List.length_drop, List.length_take]; rfl) | (simp; done) | (go_simp; done) | (refine qa_arr ?_; (repeat' (first | rfl | refine qa_cons ?_ ?_ | refine qa_int ?_ | refine qa_agg ?_ | refine qa_arr ?_ | omega)); done)) ?_; (with_reducible refine (milestonelaw02_awake.calls  true _ A4.out).mono ?_); rintro e w' ⟨rfl, ⟨nd, rfl⟩⟩; refine ⟨_, rfl, ?_⟩) | (go_at_call 13; (first | (with_reducible refine (serial_Newer.calls a0 a1 t104 _ A6.out).mono ?_) | (refine calls_of_args (args' := #[.int .u16 a0, .int .u16 a1]) ?_ ?_; focus (first | rfl | (simp; done) | (go_simp; done) | (refine qa_arr ?_; (repeat' (first | rfl | refine qa_cons ?_ ?_ | refine qa_int ?_ | refine qa_agg ?_ | refine qa_arr ?_ | omega)); done)); (with_reducible refine (serial_Newer.calls a0 a1 t104 _ A6.out).mono ?_))); rintro e w' ⟨rfl, ⟨nd, rfl⟩⟩) | (go_at_call 14; (first | (with_reducible refine (milestoneref01_Newer.calls a0 a1 t105 _ A7.out).mono ?_) | (refine calls_of_args (args' := #[.int .u16 a0, .int .u16 a1]) ?_ ?_; focus (first | rfl | (simp; done) | (go_simp; done) | (refine qa_arr ?_; (repeat' (first | rfl | refine qa_cons ?_ ?_ | refine qa_int ?_ | refine qa_agg ?_ | refine qa_arr ?_ | omega)); done)); (with_reducible refine (milestoneref01_Newer.calls a0 a1 t105 _ A7.out).mono ?_))); rintro e w' ⟨rfl, ⟨nd, rfl⟩⟩))
      go_ret
      exact ⟨by first | rfl | (simp; done) | (simp [*]; done) | (refine qa_int ?_; omega) | (refine qa_int ?_; simp <;> omega), by repeat (first | exact Drawn0.refl _ | apply Drawn0.step)⟩
  · replace c5 := Bool.eq_false_iff.mpr c5
    subst c5
    have H1 : (some false) = some r := by rw [if_neg (show ¬ (false = true) by decide)] at H; exact H
    clear H
    have H := H1
    clear H1
    obtain rfl := Option.some.inj H
    go_enter Try.func3, Try.ntmps3
    go_wp2_with (first | ((with_reducible refine gate_callee (f := 12) rfl ?_); refine goesL_ (some 7) rfl rfl Try.func12 (by kernel_rfl) rfl #[] rfl (by (try simp only [List.map_toArray, List.map_cons, List.map_nil]); first | done | rfl | (simp only [List.length_drop, List.length_take]; rfl) | (simp; done) | (go_simp; done) | (refine qa_arr ?_; (repeat' (first | rfl | refine qa_cons ?_ ?_ | refine qa_int ?_ | refine qa_agg ?_ | refine qa_arr ?_ | omega)); done)) ?_; (with_reducible refine (milestonelaw02_awake.calls  false _ A4.out).mono ?_); rintro e w' ⟨rfl, ⟨nd, rfl⟩⟩; refine ⟨_, rfl, ?_⟩))
    go_ret
    exact ⟨by first | rfl | (simp; done) | (simp [*]; done) | (refine qa_int ?_; omega) | (refine qa_int ?_; simp <;> omega), by repeat (first | exact Drawn0.refl _ | apply Drawn0.step)⟩

/-- THE ONE PURE STATEMENT of milestonelaw02_SerialNewer: yours. -/
def milestonelaw02_SerialNewer.Pure : Prop := ∀ (a0 : Int) (a1 : Int) (a2 : Int), (Lit.int .u16 a0).wf = true → (Lit.int .u16 a1).wf = true → (Lit.int .i32 a2).wf = true → milestonelaw02_SerialNewer.f a0 a1 a2 = some true
theorem milestonelaw02_SerialNewer.walk (P : milestonelaw02_SerialNewer.Pure) (a0 : Int) (a1 : Int) (a2 : Int) (w : World) (w0 : (Lit.int .u16 a0).wf = true) (w1 : (Lit.int .u16 a1).wf = true) (w2 : (Lit.int .i32 a2).wf = true) :
    Calls Try.prog 3 #[.int .u16 a0, .int .u16 a1, .int .i32 a2] w fun e w' => e = .returned (.bool true) ∧ Below w.heap.size w w' := by
  have h := P a0 a1 a2 w0 w1 w2
  refine (milestonelaw02_SerialNewer.calls a0 a1 a2 true w h).mono ?_
  rintro e w' ⟨rfl, hd⟩
  exact ⟨rfl, hd.below⟩

end Go.Proofs.Ytpcohoeafldpmaa.QSerialNewer
