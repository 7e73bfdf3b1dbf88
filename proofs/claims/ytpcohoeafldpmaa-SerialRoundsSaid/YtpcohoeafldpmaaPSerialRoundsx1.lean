-- PRINTED BY print.sh 35421559b90ae4d0a3588c463048766b98c2df88dd9212a6774a882060cdf62d: not written by this session
import Derived.Test.YtpcohoeafldpmaaPSerialRoundsx0
namespace Go.Proofs.Ytpcohoeafldpmaa.PSerialRounds
open Go.RowKit Go.Proofs.YtpcohoeafldpmaaW.PrintWords Go.Proofs.YtpcohoeafldpmaaW.PrintLast Go.Proofs.YtpcohoeafldpmaaW.PrintMore
attribute [local go_sem] max2_int min2_int max_two min_two max_three min_three max_four min_four   -- for this text's walks alone
set_option linter.unusedVariables false
set_option linter.unusedSimpArgs false

/-! ### serial_Newer: function 13 -/
def serial_Newer.f (a0 : Int) (a1 : Int) : Option (Bool) := if a0 = a1 then (some false) else (some (decide ((IntKind.u16.wrap (a0 - a1)) < 32768)))
set_option maxHeartbeats 8000000 in
set_option maxRecDepth 100000 in
theorem serial_Newer.calls (a0 : Int) (a1 : Int) (r : Bool) (w : World) (h : serial_Newer.f a0 a1 = some r) :
    Calls Try.prog 13 #[.int .u16 a0, .int .u16 a1] w fun e w' => e = .returned (.bool r) ∧ Drawn0 w w' := by
  have H : (if a0 = a1 then (some false) else (some (decide ((IntKind.u16.wrap (a0 - a1)) < 32768)))) = some r := h
  clear h
  by_cases c3 : a0 = a1
  · rw [if_pos c3] at H
    have c3b0 : (a0 == a1) = true := beq_iff_eq.mpr c3
    have c3b1 : (a0 != a1) = false := bne_eq_false_iff_eq.mpr c3
    clear c3
    obtain rfl := Option.some.inj H
    go_enter Try.func13, Try.ntmps13
    go_wp2
    go_ret
    exact ⟨by first | rfl | (simp; done) | (simp [*]; done), by repeat (first | exact Drawn0.refl _ | apply Drawn0.step)⟩
  · rw [if_neg c3] at H
    have c3b0 : (a0 == a1) = false := beq_eq_false_iff_ne.mpr c3
    have c3b1 : (a0 != a1) = true := bne_iff_ne.mpr c3
    obtain rfl := Option.some.inj H
    go_enter Try.func13, Try.ntmps13
    go_wp2
    go_ret
    exact ⟨by first | rfl | (simp; done) | (simp [*]; done), by repeat (first | exact Drawn0.refl _ | apply Drawn0.step)⟩

/-! ### milestonelaw02_awake: function 12 -/
def milestonelaw02_awake.f  : Option (Bool) := (serial_Newer.f 0 65535).bind fun t101 => (if t101 = true then ((serial_Newer.f 65535 0).bind fun t102 => (some (!t102))) else (some false))
set_option maxHeartbeats 8000000 in
set_option maxRecDepth 100000 in
theorem milestonelaw02_awake.calls  (r : Bool) (w : World) (h : milestonelaw02_awake.f  = some r) :
    Calls Try.prog 12 #[] w fun e w' => e = .returned (.bool r) ∧ Drawn0 w w' := by
  have H : ((serial_Newer.f 0 65535).bind fun t101 => (if t101 = true then ((serial_Newer.f 65535 0).bind fun t102 => (some (!t102))) else (some false))) = some r := h
  clear h
  replace H := Option.bind_eq_some_iff.mp H
  obtain ⟨t101, A10, H⟩ := H
  replace H : (if t101 = true then ((serial_Newer.f 65535 0).bind fun t102 => (some (!t102))) else (some false)) = some r := H
  have A1 := Aside0.mk A10
  clear A10
  by_cases c2 : t101 = true
  · subst c2
    have H1 : ((serial_Newer.f 65535 0).bind fun t102 => (some (!t102))) = some r := by rw [if_pos rfl] at H; exact H
    clear H
    have H := H1
    clear H1
    replace H := Option.bind_eq_some_iff.mp H
    obtain ⟨t102, A30, H⟩ := H
    replace H : (some (!t102)) = some r := H
    have A3 := Aside0.mk A30
    clear A30
    obtain rfl := Option.some.inj H
    go_enter Try.func12, Try.ntmps12
    go_wp2_with (first | ((with_reducible refine gate_callee (f := 13) rfl ?_); refine goesL_ (some 1) rfl rfl Try.func13 (by kernel_rfl) rfl #[.int .u16 0, .int .u16 65535] rfl (by (try simp only [List.map_toArray, List.map_cons, List.map_nil]); first | done | rfl | (simp only [List.length_drop, List.length_take]; rfl)) ?_; (with_reducible refine (serial_Newer.calls 0 65535 true _ A1.out).mono ?_); rintro e w' ⟨rfl, ⟨nd, rfl⟩⟩; refine ⟨_, rfl, ?_⟩) | (go_at_call 13; (with_reducible refine (serial_Newer.calls 65535 0 t102 _ A3.out).mono ?_); rintro e w' ⟨rfl, ⟨nd, rfl⟩⟩))
    go_ret
    exact ⟨by first | rfl | (simp; done) | (simp [*]; done), by repeat (first | exact Drawn0.refl _ | apply Drawn0.step)⟩
  · replace c2 := Bool.eq_false_iff.mpr c2
    subst c2
    have H1 : (some false) = some r := by rw [if_neg (show ¬ (false = true) by decide)] at H; exact H
    clear H
    have H := H1
    clear H1
    obtain rfl := Option.some.inj H
    go_enter Try.func12, Try.ntmps12
    go_wp2_with (first | ((with_reducible refine gate_callee (f := 13) rfl ?_); refine goesL_ (some 1) rfl rfl Try.func13 (by kernel_rfl) rfl #[.int .u16 0, .int .u16 65535] rfl (by (try simp only [List.map_toArray, List.map_cons, List.map_nil]); first | done | rfl | (simp only [List.length_drop, List.length_take]; rfl)) ?_; (with_reducible refine (serial_Newer.calls 0 65535 false _ A1.out).mono ?_); rintro e w' ⟨rfl, ⟨nd, rfl⟩⟩; refine ⟨_, rfl, ?_⟩))
    go_ret
    exact ⟨by first | rfl | (simp; done) | (simp [*]; done), by repeat (first | exact Drawn0.refl _ | apply Drawn0.step)⟩

/-! ### serial_Next: function 15 -/
def serial_Next.f (a0 : Int) (a1 : Int) : Option (Int) := some (IntKind.u16.wrap (a0 + (IntKind.u16.wrap (a1))))
set_option maxHeartbeats 8000000 in
set_option maxRecDepth 100000 in
theorem serial_Next.calls (a0 : Int) (a1 : Int) (r : Int) (w : World) (h : serial_Next.f a0 a1 = some r) :
    Calls Try.prog 15 #[.int .u16 a0, .int .i64 a1] w fun e w' => e = .returned (.int .u16 r) ∧ Drawn0 w w' := by
  have H : (some (IntKind.u16.wrap (a0 + (IntKind.u16.wrap (a1))))) = some r := h
  clear h
  obtain rfl := Option.some.inj H
  go_enter Try.func15, Try.ntmps15
  go_wp2
  go_ret
  exact ⟨by first | rfl | (simp; done) | (simp [*]; done), by repeat (first | exact Drawn0.refl _ | apply Drawn0.step)⟩

/-! ### milestonelaw02_SerialRounds: function 5 -/
def milestonelaw02_SerialRounds.f (a0 : Int) (a1 : Int) : Option (Bool) := (serial_Next.f a0 (Int.tmod (wrap64 (a1)) 40000)).bind fun t103 => ((milestonelaw02_awake.f).bind fun t104 => (if t104 = true then ((serial_Newer.f t103 a0).bind fun t105 => (if (Int.tmod (wrap64 (a1)) 40000) ≥ 1 then (if (t105 == (decide ((Int.tmod (wrap64 (a1)) 40000) < 32768))) = true then ((serial_Next.f a0 65536).bind fun t106 => (if t106 = a0 then ((serial_Next.f t103 (wrap64 (-(Int.tmod (wrap64 (a1)) 40000)))).bind fun t107 => (some (t107 == a0))) else (some false))) else (some false)) else (if (t105 == false) = true then ((serial_Next.f a0 65536).bind fun t108 => (if t108 = a0 then ((serial_Next.f t103 (wrap64 (-(Int.tmod (wrap64 (a1)) 40000)))).bind fun t109 => (some (t109 == a0))) else (some false))) else (some false)))) else (some false)))
set_option maxHeartbeats 8000000 in
set_option maxRecDepth 100000 in
theorem milestonelaw02_SerialRounds.calls (a0 : Int) (a1 : Int) (r : Bool) (w : World) (h : milestonelaw02_SerialRounds.f a0 a1 = some r) :
    Calls Try.prog 5 #[.int .u16 a0, .int .u16 a1] w fun e w' => e = .returned (.bool r) ∧ Drawn0 w w' := by
  have H : ((serial_Next.f a0 (Int.tmod (wrap64 (a1)) 40000)).bind fun t103 => ((milestonelaw02_awake.f).bind fun t104 => (if t104 = true then ((serial_Newer.f t103 a0).bind fun t105 => (if (Int.tmod (wrap64 (a1)) 40000) ≥ 1 then (if (t105 == (decide ((Int.tmod (wrap64 (a1)) 40000) < 32768))) = true then ((serial_Next.f a0 65536).bind fun t106 => (if t106 = a0 then ((serial_Next.f t103 (wrap64 (-(Int.tmod (wrap64 (a1)) 40000)))).bind fun t107 => (some (t107 == a0))) else (some false))) else (some false)) else (if (t105 == false) = true then ((serial_Next.f a0 65536).bind fun t108 => (if t108 = a0 then ((serial_Next.f t103 (wrap64 (-(Int.tmod (wrap64 (a1)) 40000)))).bind fun t109 => (some (t109 == a0))) else (some false))) else (some false)))) else (some false)))) = some r := h
  clear h
  replace H := Option.bind_eq_some_iff.mp H
  obtain ⟨t103, A30, H⟩ := H
  replace H : ((milestonelaw02_awake.f).bind fun t104 => (if t104 = true then ((serial_Newer.f t103 a0).bind fun t105 => (if (Int.tmod (wrap64 (a1)) 40000) ≥ 1 then (if (t105 == (decide ((Int.tmod (wrap64 (a1)) 40000) < 32768))) = true then ((serial_Next.f a0 65536).bind fun t106 => (if t106 = a0 then ((serial_Next.f t103 (wrap64 (-(Int.tmod (wrap64 (a1)) 40000)))).bind fun t107 => (some (t107 == a0))) else (some false))) else (some false)) else (if (t105 == false) = true then ((serial_Next.f a0 65536).bind fun t108 => (if t108 = a0 then ((serial_Next.f t103 (wrap64 (-(Int.tmod (wrap64 (a1)) 40000)))).bind fun t109 => (some (t109 == a0))) else (some false))) else (some false)))) else (some false))) = some r := H
  have A3 := Aside0.mk A30
  clear A30
  replace H := Option.bind_eq_some_iff.mp H
  obtain ⟨t104, A40, H⟩ := H
  replace H : (if t104 = true then ((serial_Newer.f t103 a0).bind fun t105 => (if (Int.tmod (wrap64 (a1)) 40000) ≥ 1 then (if (t105 == (decide ((Int.tmod (wrap64 (a1)) 40000) < 32768))) = true then ((serial_Next.f a0 65536).bind fun t106 => (if t106 = a0 then ((serial_Next.f t103 (wrap64 (-(Int.tmod (wrap64 (a1)) 40000)))).bind fun t107 => (some (t107 == a0))) else (some false))) else (some false)) else (if (t105 == false) = true then ((serial_Next.f a0 65536).bind fun t108 => (if t108 = a0 then ((serial_Next.f t103 (wrap64 (-(Int.tmod (wrap64 (a1)) 40000)))).bind fun t109 => (some (t109 == a0))) else (some false))) else (some false)))) else (some false)) = some r := H
  have A4 := Aside0.mk A40
  clear A40
  by_cases c5 : t104 = true
  · subst c5
    have H1 : ((serial_Newer.f t103 a0).bind fun t105 => (if (Int.tmod (wrap64 (a1)) 40000) ≥ 1 then (if (t105 == (decide ((Int.tmod (wrap64 (a1)) 40000) < 32768))) = true then ((serial_Next.f a0 65536).bind fun t106 => (if t106 = a0 then ((serial_Next.f t103 (wrap64 (-(Int.tmod (wrap64 (a1)) 40000)))).bind fun t107 => (some (t107 == a0))) else (some false))) else (some false)) else (if (t105 == false) = true then ((serial_Next.f a0 65536).bind fun t108 => (if t108 = a0 then ((serial_Next.f t103 (wrap64 (-(Int.tmod (wrap64 (a1)) 40000)))).bind fun t109 => (some (t109 == a0))) else (some false))) else (some false)))) = some r := by rw [if_pos rfl] at H; exact H
    clear H
    have H := H1
    clear H1
    replace H := Option.bind_eq_some_iff.mp H
    obtain ⟨t105, A60, H⟩ := H
    replace H : (if (Int.tmod (wrap64 (a1)) 40000) ≥ 1 then (if (t105 == (decide ((Int.tmod (wrap64 (a1)) 40000) < 32768))) = true then ((serial_Next.f a0 65536).bind fun t106 => (if t106 = a0 then ((serial_Next.f t103 (wrap64 (-(Int.tmod (wrap64 (a1)) 40000)))).bind fun t107 => (some (t107 == a0))) else (some false))) else (some false)) else (if (t105 == false) = true then ((serial_Next.f a0 65536).bind fun t108 => (if t108 = a0 then ((serial_Next.f t103 (wrap64 (-(Int.tmod (wrap64 (a1)) 40000)))).bind fun t109 => (some (t109 == a0))) else (some false))) else (some false))) = some r := H
    have A6 := Aside0.mk A60
    clear A60
    by_cases c7 : (Int.tmod (wrap64 (a1)) 40000) ≥ 1
    · rw [if_pos c7] at H
      have c7b0 : decide (1 ≤ (Int.tmod (wrap64 (a1)) 40000)) = true := decide_eq_true c7
      clear c7
      by_cases c8 : (t105 == (decide ((Int.tmod (wrap64 (a1)) 40000) < 32768))) = true
      · rw [if_pos c8] at H
        have c8b0 : (t105 == (decide ((Int.tmod (wrap64 (a1)) 40000) < 32768))) = true := c8
        (try (have c8b1 : decide (t105 = (decide ((Int.tmod (wrap64 (a1)) 40000) < 32768))) = true := by simpa using c8))
        (try (have c8b2 : (t105 == (decide ((Int.tmod (wrap64 (a1)) 40000) < 32768))) = true := by simpa using c8))
        clear c8
        replace H := Option.bind_eq_some_iff.mp H
        obtain ⟨t106, A90, H⟩ := H
        replace H : (if t106 = a0 then ((serial_Next.f t103 (wrap64 (-(Int.tmod (wrap64 (a1)) 40000)))).bind fun t107 => (some (t107 == a0))) else (some false)) = some r := H
        have A9 := Aside0.mk A90
        clear A90
        by_cases c10 : t106 = a0
        · rw [if_pos c10] at H
          have c10b0 : (t106 == a0) = true := beq_iff_eq.mpr c10
          have c10b1 : (t106 != a0) = false := bne_eq_false_iff_eq.mpr c10
          clear c10
          replace H := Option.bind_eq_some_iff.mp H
          obtain ⟨t107, A110, H⟩ := H
          replace H : (some (t107 == a0)) = some r := H
          have A11 := Aside0.mk A110
          clear A110
          obtain rfl := Option.some.inj H
          go_enter Try.func5, Try.ntmps5
          go_wp2_with (first | ((with_reducible refine gate_callee (f := 15) rfl ?_); refine goesL_ (some 12) rfl rfl Try.func15 (by kernel_rfl) rfl #[.int .u16 a0, .int .i64 (Int.tmod (wrap64 (a1)) 40000)] rfl (by (try simp only [List.map_toArray, List.map_cons, List.map_nil]); first | done | rfl | (simp only [List.length_drop, List.length_take]; rfl)) ?_; (with_reducible refine (serial_Next.calls a0 (Int.tmod (wrap64 (a1)) 40000) t103 _ A3.out).mono ?_); rintro e w' ⟨rfl, ⟨nd, rfl⟩⟩; refine ⟨_, rfl, ?_⟩) | ((with_reducible refine gate_callee (f := 12) rfl ?_); refine goesL_ (some 13) rfl rfl Try.func12 (by kernel_rfl) rfl #[] rfl (by (try simp only [List.map_toArray, List.map_cons, List.map_nil]); first | done | rfl | (simp only [List.length_drop, List.length_take]; rfl)) ?_; (with_reducible refine (milestonelaw02_awake.calls  true _ A4.out).mono ?_); rintro e w' ⟨rfl, ⟨nd, rfl⟩⟩; refine ⟨_, rfl, ?_⟩) | (go_at_call 13; (with_reducible refine (serial_Newer.calls t103 a0 t105 _ A6.out).mono ?_); rintro e w' ⟨rfl, ⟨nd, rfl⟩⟩) | (go_at_call 15; (with_reducible refine (serial_Next.calls a0 65536 t106 _ A9.out).mono ?_); rintro e w' ⟨rfl, ⟨nd, rfl⟩⟩) | (go_at_call 15; (with_reducible refine (serial_Next.calls t103 (wrap64 (-(Int.tmod (wrap64 (a1)) 40000))) t107 _ A11.out).mono ?_); rintro e w' ⟨rfl, ⟨nd, rfl⟩⟩))
          go_ret
          exact ⟨by first | rfl | (simp; done) | (simp [*]; done), by repeat (first | exact Drawn0.refl _ | apply Drawn0.step)⟩
        · rw [if_neg c10] at H
          have c10b0 : (t106 == a0) = false := beq_eq_false_iff_ne.mpr c10
          have c10b1 : (t106 != a0) = true := bne_iff_ne.mpr c10
          obtain rfl := Option.some.inj H
          go_enter Try.func5, Try.ntmps5
          go_wp2_with (first | ((with_reducible refine gate_callee (f := 15) rfl ?_); refine goesL_ (some 12) rfl rfl Try.func15 (by kernel_rfl) rfl #[.int .u16 a0, .int .i64 (Int.tmod (wrap64 (a1)) 40000)] rfl (by (try simp only [List.map_toArray, List.map_cons, List.map_nil]); first | done | rfl | (simp only [List.length_drop, List.length_take]; rfl)) ?_; (with_reducible refine (serial_Next.calls a0 (Int.tmod (wrap64 (a1)) 40000) t103 _ A3.out).mono ?_); rintro e w' ⟨rfl, ⟨nd, rfl⟩⟩; refine ⟨_, rfl, ?_⟩) | ((with_reducible refine gate_callee (f := 12) rfl ?_); refine goesL_ (some 13) rfl rfl Try.func12 (by kernel_rfl) rfl #[] rfl (by (try simp only [List.map_toArray, List.map_cons, List.map_nil]); first | done | rfl | (simp only [List.length_drop, List.length_take]; rfl)) ?_; (with_reducible refine (milestonelaw02_awake.calls  true _ A4.out).mono ?_); rintro e w' ⟨rfl, ⟨nd, rfl⟩⟩; refine ⟨_, rfl, ?_⟩) | (go_at_call 13; (with_reducible refine (serial_Newer.calls t103 a0 t105 _ A6.out).mono ?_); rintro e w' ⟨rfl, ⟨nd, rfl⟩⟩) | (go_at_call 15; (with_reducible refine (serial_Next.calls a0 65536 t106 _ A9.out).mono ?_); rintro e w' ⟨rfl, ⟨nd, rfl⟩⟩))
          go_ret
          exact ⟨by first | rfl | (simp; done) | (simp [*]; done), by repeat (first | exact Drawn0.refl _ | apply Drawn0.step)⟩
      · rw [if_neg c8] at H
        have c8b0 : (t105 == (decide ((Int.tmod (wrap64 (a1)) 40000) < 32768))) = false := by simpa using c8
        (try (have c8b1 : decide (t105 = (decide ((Int.tmod (wrap64 (a1)) 40000) < 32768))) = false := by simpa using c8))
        (try (have c8b2 : (t105 == (decide ((Int.tmod (wrap64 (a1)) 40000) < 32768))) = false := by simpa using c8))
        (try (have c8b3 : ¬ (t105 = (decide ((Int.tmod (wrap64 (a1)) 40000) < 32768))) := by simpa using c8))
        clear c8
        obtain rfl := Option.some.inj H
        go_enter Try.func5, Try.ntmps5
        go_wp2_with (first | ((with_reducible refine gate_callee (f := 15) rfl ?_); refine goesL_ (some 12) rfl rfl Try.func15 (by kernel_rfl) rfl #[.int .u16 a0, .int .i64 (Int.tmod (wrap64 (a1)) 40000)] rfl (by (try simp only [List.map_toArray, List.map_cons, List.map_nil]); first | done | rfl | (simp only [List.length_drop, List.length_take]; rfl)) ?_; (with_reducible refine (serial_Next.calls a0 (Int.tmod (wrap64 (a1)) 40000) t103 _ A3.out).mono ?_); rintro e w' ⟨rfl, ⟨nd, rfl⟩⟩; refine ⟨_, rfl, ?_⟩) | ((with_reducible refine gate_callee (f := 12) rfl ?_); refine goesL_ (some 13) rfl rfl Try.func12 (by kernel_rfl) rfl #[] rfl (by (try simp only [List.map_toArray, List.map_cons, List.map_nil]); first | done | rfl | (simp only [List.length_drop, List.length_take]; rfl)) ?_; (with_reducible refine (milestonelaw02_awake.calls  true _ A4.out).mono ?_); rintro e w' ⟨rfl, ⟨nd, rfl⟩⟩; refine ⟨_, rfl, ?_⟩) | (go_at_call 13; (with_reducible refine (serial_Newer.calls t103 a0 t105 _ A6.out).mono ?_); rintro e w' ⟨rfl, ⟨nd, rfl⟩⟩))
        go_ret
        exact ⟨by first | rfl | (simp; done) | (simp [*]; done), by repeat (first | exact Drawn0.refl _ | apply Drawn0.step)⟩
    · rw [if_neg c7] at H
      have c7b0 : decide (1 ≤ (Int.tmod (wrap64 (a1)) 40000)) = false := decide_eq_false c7
      clear c7
      by_cases c12 : (t105 == false) = true
      · rw [if_pos c12] at H
        have c12b0 : (t105 == false) = true := c12
        (try (have c12b1 : decide (t105 = false) = true := by simpa using c12))
        (try (have c12b2 : (t105 == false) = true := by simpa using c12))
        clear c12
        replace H := Option.bind_eq_some_iff.mp H
        obtain ⟨t108, A130, H⟩ := H
        replace H : (if t108 = a0 then ((serial_Next.f t103 (wrap64 (-(Int.tmod (wrap64 (a1)) 40000)))).bind fun t109 => (some (t109 == a0))) else (some false)) = some r := H
        have A13 := Aside0.mk A130
        clear A130
        by_cases c14 : t108 = a0
        · rw [if_pos c14] at H
          have c14b0 : (t108 == a0) = true := beq_iff_eq.mpr c14
          have c14b1 : (t108 != a0) = false := bne_eq_false_iff_eq.mpr c14
          clear c14
          replace H := Option.bind_eq_some_iff.mp H
          obtain ⟨t109, A150, H⟩ := H
          replace H : (some (t109 == a0)) = some r := H
          have A15 := Aside0.mk A150
          clear A150
          obtain rfl := Option.some.inj H
          go_enter Try.func5, Try.ntmps5
          go_wp2_with (first | ((with_reducible refine gate_callee (f := 15) rfl ?_); refine goesL_ (some 12) rfl rfl Try.func15 (by kernel_rfl) rfl #[.int .u16 a0, .int .i64 (Int.tmod (wrap64 (a1)) 40000)] rfl (by (try simp only [List.map_toArray, List.map_cons, List.map_nil]); first | done | rfl | (simp only [List.length_drop, List.length_take]; rfl)) ?_; (with_reducible refine (serial_Next.calls a0 (Int.tmod (wrap64 (a1)) 40000) t103 _ A3.out).mono ?_); rintro e w' ⟨rfl, ⟨nd, rfl⟩⟩; refine ⟨_, rfl, ?_⟩) | ((with_reducible refine gate_callee (f := 12) rfl ?_); refine goesL_ (some 13) rfl rfl Try.func12 (by kernel_rfl) rfl #[] rfl (by (try simp only [List.map_toArray, List.map_cons, List.map_nil]); first | done | rfl | (simp only [List.length_drop, List.length_take]; rfl)) ?_; (with_reducible refine (milestonelaw02_awake.calls  true _ A4.out).mono ?_); rintro e w' ⟨rfl, ⟨nd, rfl⟩⟩; refine ⟨_, rfl, ?_⟩) | (go_at_call 13; (with_reducible refine (serial_Newer.calls t103 a0 t105 _ A6.out).mono ?_); rintro e w' ⟨rfl, ⟨nd, rfl⟩⟩) | (go_at_call 15; (with_reducible refine (serial_Next.calls a0 65536 t108 _ A13.out).mono ?_); rintro e w' ⟨rfl, ⟨nd, rfl⟩⟩) | (go_at_call 15; (with_reducible refine (serial_Next.calls t103 (wrap64 (-(Int.tmod (wrap64 (a1)) 40000))) t109 _ A15.out).mono ?_); rintro e w' ⟨rfl, ⟨nd, rfl⟩⟩))
          go_ret
          exact ⟨by first | rfl | (simp; done) | (simp [*]; done), by repeat (first | exact Drawn0.refl _ | apply Drawn0.step)⟩
        · rw [if_neg c14] at H
          have c14b0 : (t108 == a0) = false := beq_eq_false_iff_ne.mpr c14
          have c14b1 : (t108 != a0) = true := bne_iff_ne.mpr c14
          obtain rfl := Option.some.inj H
          go_enter Try.func5, Try.ntmps5
          go_wp2_with (first | ((with_reducible refine gate_callee (f := 15) rfl ?_); refine goesL_ (some 12) rfl rfl Try.func15 (by kernel_rfl) rfl #[.int .u16 a0, .int .i64 (Int.tmod (wrap64 (a1)) 40000)] rfl (by (try simp only [List.map_toArray, List.map_cons, List.map_nil]); first | done | rfl | (simp only [List.length_drop, List.length_take]; rfl)) ?_; (with_reducible refine (serial_Next.calls a0 (Int.tmod (wrap64 (a1)) 40000) t103 _ A3.out).mono ?_); rintro e w' ⟨rfl, ⟨nd, rfl⟩⟩; refine ⟨_, rfl, ?_⟩) | ((with_reducible refine gate_callee (f := 12) rfl ?_); refine goesL_ (some 13) rfl rfl Try.func12 (by kernel_rfl) rfl #[] rfl (by (try simp only [List.map_toArray, List.map_cons, List.map_nil]); first | done | rfl | (simp only [List.length_drop, List.length_take]; rfl)) ?_; (with_reducible refine (milestonelaw02_awake.calls  true _ A4.out).mono ?_); rintro e w' ⟨rfl, ⟨nd, rfl⟩⟩; refine ⟨_, rfl, ?_⟩) | (go_at_call 13; (with_reducible refine (serial_Newer.calls t103 a0 t105 _ A6.out).mono ?_); rintro e w' ⟨rfl, ⟨nd, rfl⟩⟩) | (go_at_call 15; (with_reducible refine (serial_Next.calls a0 65536 t108 _ A13.out).mono ?_); rintro e w' ⟨rfl, ⟨nd, rfl⟩⟩))
          go_ret
          exact ⟨by first | rfl | (simp; done) | (simp [*]; done), by repeat (first | exact Drawn0.refl _ | apply Drawn0.step)⟩
      · rw [if_neg c12] at H
        have c12b0 : (t105 == false) = false := by simpa using c12
        (try (have c12b1 : decide (t105 = false) = false := by simpa using c12))
        (try (have c12b2 : (t105 == false) = false := by simpa using c12))
        (try (have c12b3 : ¬ (t105 = false) := by simpa using c12))
        clear c12
        obtain rfl := Option.some.inj H
        go_enter Try.func5, Try.ntmps5
        go_wp2_with (first | ((with_reducible refine gate_callee (f := 15) rfl ?_); refine goesL_ (some 12) rfl rfl Try.func15 (by kernel_rfl) rfl #[.int .u16 a0, .int .i64 (Int.tmod (wrap64 (a1)) 40000)] rfl (by (try simp only [List.map_toArray, List.map_cons, List.map_nil]); first | done | rfl | (simp only [List.length_drop, List.length_take]; rfl)) ?_; (with_reducible refine (serial_Next.calls a0 (Int.tmod (wrap64 (a1)) 40000) t103 _ A3.out).mono ?_); rintro e w' ⟨rfl, ⟨nd, rfl⟩⟩; refine ⟨_, rfl, ?_⟩) | ((with_reducible refine gate_callee (f := 12) rfl ?_); refine goesL_ (some 13) rfl rfl Try.func12 (by kernel_rfl) rfl #[] rfl (by (try simp only [List.map_toArray, List.map_cons, List.map_nil]); first | done | rfl | (simp only [List.length_drop, List.length_take]; rfl)) ?_; (with_reducible refine (milestonelaw02_awake.calls  true _ A4.out).mono ?_); rintro e w' ⟨rfl, ⟨nd, rfl⟩⟩; refine ⟨_, rfl, ?_⟩) | (go_at_call 13; (with_reducible refine (serial_Newer.calls t103 a0 t105 _ A6.out).mono ?_); rintro e w' ⟨rfl, ⟨nd, rfl⟩⟩))
        go_ret
        exact ⟨by first | rfl | (simp; done) | (simp [*]; done), by repeat (first | exact Drawn0.refl _ | apply Drawn0.step)⟩
  · replace c5 := Bool.eq_false_iff.mpr c5
    subst c5
    have H1 : (some false) = some r := by rw [if_neg (show ¬ (false = true) by decide)] at H; exact H
    clear H
    have H := H1
    clear H1
    obtain rfl := Option.some.inj H
    go_enter Try.func5, Try.ntmps5
    go_wp2_with (first | ((with_reducible refine gate_callee (f := 15) rfl ?_); refine goesL_ (some 12) rfl rfl Try.func15 (by kernel_rfl) rfl #[.int .u16 a0, .int .i64 (Int.tmod (wrap64 (a1)) 40000)] rfl (by (try simp only [List.map_toArray, List.map_cons, List.map_nil]); first | done | rfl | (simp only [List.length_drop, List.length_take]; rfl)) ?_; (with_reducible refine (serial_Next.calls a0 (Int.tmod (wrap64 (a1)) 40000) t103 _ A3.out).mono ?_); rintro e w' ⟨rfl, ⟨nd, rfl⟩⟩; refine ⟨_, rfl, ?_⟩) | ((with_reducible refine gate_callee (f := 12) rfl ?_); refine goesL_ (some 13) rfl rfl Try.func12 (by kernel_rfl) rfl #[] rfl (by (try simp only [List.map_toArray, List.map_cons, List.map_nil]); first | done | rfl | (simp only [List.length_drop, List.length_take]; rfl)) ?_; (with_reducible refine (milestonelaw02_awake.calls  false _ A4.out).mono ?_); rintro e w' ⟨rfl, ⟨nd, rfl⟩⟩; refine ⟨_, rfl, ?_⟩))
    go_ret
    exact ⟨by first | rfl | (simp; done) | (simp [*]; done), by repeat (first | exact Drawn0.refl _ | apply Drawn0.step)⟩

/-- THE ONE PURE STATEMENT of milestonelaw02_SerialRounds: yours. -/
def milestonelaw02_SerialRounds.Pure : Prop := ∀ (a0 : Int) (a1 : Int), (Lit.int .u16 a0).wf = true → (Lit.int .u16 a1).wf = true → milestonelaw02_SerialRounds.f a0 a1 = some true
theorem milestonelaw02_SerialRounds.walk (P : milestonelaw02_SerialRounds.Pure) (a0 : Int) (a1 : Int) (w : World) (w0 : (Lit.int .u16 a0).wf = true) (w1 : (Lit.int .u16 a1).wf = true) :
    Calls Try.prog 5 #[.int .u16 a0, .int .u16 a1] w fun e w' => e = .returned (.bool true) ∧ Below w.heap.size w w' := by
  have h := P a0 a1 w0 w1
  refine (milestonelaw02_SerialRounds.calls a0 a1 true w h).mono ?_
  rintro e w' ⟨rfl, hd⟩
  exact ⟨rfl, hd.below⟩

end Go.Proofs.Ytpcohoeafldpmaa.PSerialRounds
