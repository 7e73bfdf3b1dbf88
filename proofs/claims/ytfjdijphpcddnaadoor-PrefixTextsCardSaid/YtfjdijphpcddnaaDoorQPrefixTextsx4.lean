-- Lines by a program of this session, for this claim.
import Derived.Test.YtfjdijphpcddnaaDoorQPrefixTextsx0
import Derived.Test.YtfjdijphpcddnaaDoorQPrefixTextsx1
import Derived.Test.YtfjdijphpcddnaaDoorQPrefixTextsx2
import Derived.Test.YtfjdijphpcddnaaDoorQPrefixTextsx3
namespace Go.Proofs.YtfjdijphpcddnaaDoor.QPrefixTexts
open Go.RowKit Go.Proofs.YtfjdijphpcddnaaDoorW.PrintWords Go.Proofs.YtfjdijphpcddnaaDoorW.PrintLast Go.Proofs.YtfjdijphpcddnaaDoorW.PrintMore
attribute [local go_sem] max2_int min2_int max_two min_two max_three min_three max_four min_four   -- for this text's walks alone
set_option linter.unusedVariables false
set_option linter.unusedSimpArgs false

attribute [local go_sem high] eqA24
/-! ### milestoneref01_Text: function 23 -/
def milestoneref01_Text.f (k : Nat) (a0_0 : Int) (a0_1 : Int) : Option (ByteArray) := (milestoneref01_num.f k ((Int.tdiv a0_0 16777216) % 4294967296)).bind fun t119 => (if t119.size + 1 ≤ 9223372036854775807 then ((milestoneref01_num.f k (Int.tmod (IntKind.u32.wrap (Int.tdiv a0_0 65536)) 256)).bind fun t120 => (if (t119 ++ (⟨#[46]⟩ : ByteArray)).size + t120.size ≤ 9223372036854775807 then (if ((t119 ++ (⟨#[46]⟩ : ByteArray)) ++ t120).size + 1 ≤ 9223372036854775807 then ((milestoneref01_num.f k (Int.tmod (IntKind.u32.wrap (Int.tdiv a0_0 256)) 256)).bind fun t121 => (if (((t119 ++ (⟨#[46]⟩ : ByteArray)) ++ t120) ++ (⟨#[46]⟩ : ByteArray)).size + t121.size ≤ 9223372036854775807 then (if ((((t119 ++ (⟨#[46]⟩ : ByteArray)) ++ t120) ++ (⟨#[46]⟩ : ByteArray)) ++ t121).size + 1 ≤ 9223372036854775807 then ((milestoneref01_num.f k (Int.tmod a0_0 256)).bind fun t122 => (if (((((t119 ++ (⟨#[46]⟩ : ByteArray)) ++ t120) ++ (⟨#[46]⟩ : ByteArray)) ++ t121) ++ (⟨#[46]⟩ : ByteArray)).size + t122.size ≤ 9223372036854775807 then (if ((((((t119 ++ (⟨#[46]⟩ : ByteArray)) ++ t120) ++ (⟨#[46]⟩ : ByteArray)) ++ t121) ++ (⟨#[46]⟩ : ByteArray)) ++ t122).size + 1 ≤ 9223372036854775807 then ((milestoneref01_num.f k ((a0_1) % 4294967296)).bind fun t123 => (if (((((((t119 ++ (⟨#[46]⟩ : ByteArray)) ++ t120) ++ (⟨#[46]⟩ : ByteArray)) ++ t121) ++ (⟨#[46]⟩ : ByteArray)) ++ t122) ++ (⟨#[47]⟩ : ByteArray)).size + t123.size ≤ 9223372036854775807 then (some ((((((((t119 ++ (⟨#[46]⟩ : ByteArray)) ++ t120) ++ (⟨#[46]⟩ : ByteArray)) ++ t121) ++ (⟨#[46]⟩ : ByteArray)) ++ t122) ++ (⟨#[47]⟩ : ByteArray)) ++ t123)) else (none))) else (none)) else (none))) else (none)) else (none))) else (none)) else (none))) else (none))
theorem milestoneref01_Text.mono : ∀ a0 a1 k, LeO (milestoneref01_Text.f k a0 a1) (milestoneref01_Text.f (k + 1) a0 a1) := by
  intro a0 a1 k
  unfold milestoneref01_Text.f
  repeat' first
      | (with_reducible exact milestoneref01_num.mono _ _)
      | (with_reducible exact LeO.refl _)
      | (with_reducible exact LeO.none _)
      | (with_reducible refine LeO.ite ?_ ?_)
      | (with_reducible refine LeO.bind ?_ (fun _ => ?_))
      | exact milestoneref01_num.mono _ _
      | exact LeO.none _
      | refine LeO.ite ?_ ?_
      | refine LeO.bind ?_ (fun _ => ?_)
def milestoneref01_Text.T1 : Bool × List (List Nat × List Nat) := (true, [([], []), ([0], [0]), ([1], [1]), ([2], [2]), ([3], [3]), ([], []), ([5], [5]), ([6], [6]), ([7], [7]), ([8, 3], [8]), ([4, 9], [4, 9]), ([10], [10]), ([], []), ([12], [12]), ([13], [13]), ([14], [14]), ([15, 9], [15]), ([11, 16], [11, 16]), ([17], [17]), ([], []), ([19], [19]), ([20], [20]), ([21, 16], [21]), ([18, 22], [18, 22]), ([23], [23]), ([], []), ([25], [25]), ([26], [26]), ([27, 22], [27]), ([24, 28], [24, 28]), ([29, 28, 0, 1, 2, 3, 4, 5, 6, 7, 8, 9, 10, 11, 12, 13, 14, 15, 16, 17, 18, 19, 20, 21, 22, 23, 24, 25, 26, 27, 28, 29], [29])])
def milestoneref01_Text.B1 : List Nat := [0, 1, 3, 7, 15, 0, 32, 96, 224, 495, 1023, 2047, 0, 4096, 12288, 28672, 62447, 131071, 262143, 0, 524288, 1572864, 3797999, 8388607, 16777215, 0, 33554432, 100663296, 242873327, 536870911, 1073741823]
theorem milestoneref01_Text.tab1 : rtab .any (opsOf Tryd.f23 1) = milestoneref01_Text.T1 := by kernel_rfl
theorem milestoneref01_Text.bits1 : waitsOk milestoneref01_Text.T1.2 milestoneref01_Text.B1 = true := by kernel_rfl
set_option maxHeartbeats 8000000 in
set_option maxRecDepth 100000 in
theorem milestoneref01_Text.calls (k : Nat) (a0_0 : Int) (a0_1 : Int) (r : ByteArray) (w : World) (h : milestoneref01_Text.f k a0_0 a0_1 = some r) :
    Calls Tryd.prog 23 #[.agg #[.int .u32 a0_0, .int .u8 a0_1]] w fun e w' => e = .returned (.string r) ∧ Below w.heap.size w w' := by
  have hu24 := Tryd.underlying24
  have HB := Aside0.mk (Below.refl w.heap.size w)
  have H : ((milestoneref01_num.f k ((Int.tdiv a0_0 16777216) % 4294967296)).bind fun t119 => (if t119.size + 1 ≤ 9223372036854775807 then ((milestoneref01_num.f k (Int.tmod (IntKind.u32.wrap (Int.tdiv a0_0 65536)) 256)).bind fun t120 => (if (t119 ++ (⟨#[46]⟩ : ByteArray)).size + t120.size ≤ 9223372036854775807 then (if ((t119 ++ (⟨#[46]⟩ : ByteArray)) ++ t120).size + 1 ≤ 9223372036854775807 then ((milestoneref01_num.f k (Int.tmod (IntKind.u32.wrap (Int.tdiv a0_0 256)) 256)).bind fun t121 => (if (((t119 ++ (⟨#[46]⟩ : ByteArray)) ++ t120) ++ (⟨#[46]⟩ : ByteArray)).size + t121.size ≤ 9223372036854775807 then (if ((((t119 ++ (⟨#[46]⟩ : ByteArray)) ++ t120) ++ (⟨#[46]⟩ : ByteArray)) ++ t121).size + 1 ≤ 9223372036854775807 then ((milestoneref01_num.f k (Int.tmod a0_0 256)).bind fun t122 => (if (((((t119 ++ (⟨#[46]⟩ : ByteArray)) ++ t120) ++ (⟨#[46]⟩ : ByteArray)) ++ t121) ++ (⟨#[46]⟩ : ByteArray)).size + t122.size ≤ 9223372036854775807 then (if ((((((t119 ++ (⟨#[46]⟩ : ByteArray)) ++ t120) ++ (⟨#[46]⟩ : ByteArray)) ++ t121) ++ (⟨#[46]⟩ : ByteArray)) ++ t122).size + 1 ≤ 9223372036854775807 then ((milestoneref01_num.f k ((a0_1) % 4294967296)).bind fun t123 => (if (((((((t119 ++ (⟨#[46]⟩ : ByteArray)) ++ t120) ++ (⟨#[46]⟩ : ByteArray)) ++ t121) ++ (⟨#[46]⟩ : ByteArray)) ++ t122) ++ (⟨#[47]⟩ : ByteArray)).size + t123.size ≤ 9223372036854775807 then (some ((((((((t119 ++ (⟨#[46]⟩ : ByteArray)) ++ t120) ++ (⟨#[46]⟩ : ByteArray)) ++ t121) ++ (⟨#[46]⟩ : ByteArray)) ++ t122) ++ (⟨#[47]⟩ : ByteArray)) ++ t123)) else (none))) else (none)) else (none))) else (none)) else (none))) else (none)) else (none))) else (none))) = some r := h
  clear h
  replace H := Option.bind_eq_some_iff.mp H
  obtain ⟨t119, A20, H⟩ := H
  replace H : (if t119.size + 1 ≤ 9223372036854775807 then ((milestoneref01_num.f k (Int.tmod (IntKind.u32.wrap (Int.tdiv a0_0 65536)) 256)).bind fun t120 => (if (t119 ++ (⟨#[46]⟩ : ByteArray)).size + t120.size ≤ 9223372036854775807 then (if ((t119 ++ (⟨#[46]⟩ : ByteArray)) ++ t120).size + 1 ≤ 9223372036854775807 then ((milestoneref01_num.f k (Int.tmod (IntKind.u32.wrap (Int.tdiv a0_0 256)) 256)).bind fun t121 => (if (((t119 ++ (⟨#[46]⟩ : ByteArray)) ++ t120) ++ (⟨#[46]⟩ : ByteArray)).size + t121.size ≤ 9223372036854775807 then (if ((((t119 ++ (⟨#[46]⟩ : ByteArray)) ++ t120) ++ (⟨#[46]⟩ : ByteArray)) ++ t121).size + 1 ≤ 9223372036854775807 then ((milestoneref01_num.f k (Int.tmod a0_0 256)).bind fun t122 => (if (((((t119 ++ (⟨#[46]⟩ : ByteArray)) ++ t120) ++ (⟨#[46]⟩ : ByteArray)) ++ t121) ++ (⟨#[46]⟩ : ByteArray)).size + t122.size ≤ 9223372036854775807 then (if ((((((t119 ++ (⟨#[46]⟩ : ByteArray)) ++ t120) ++ (⟨#[46]⟩ : ByteArray)) ++ t121) ++ (⟨#[46]⟩ : ByteArray)) ++ t122).size + 1 ≤ 9223372036854775807 then ((milestoneref01_num.f k ((a0_1) % 4294967296)).bind fun t123 => (if (((((((t119 ++ (⟨#[46]⟩ : ByteArray)) ++ t120) ++ (⟨#[46]⟩ : ByteArray)) ++ t121) ++ (⟨#[46]⟩ : ByteArray)) ++ t122) ++ (⟨#[47]⟩ : ByteArray)).size + t123.size ≤ 9223372036854775807 then (some ((((((((t119 ++ (⟨#[46]⟩ : ByteArray)) ++ t120) ++ (⟨#[46]⟩ : ByteArray)) ++ t121) ++ (⟨#[46]⟩ : ByteArray)) ++ t122) ++ (⟨#[47]⟩ : ByteArray)) ++ t123)) else (none))) else (none)) else (none))) else (none)) else (none))) else (none)) else (none))) else (none)) = some r := H
  have A2 := Aside0.mk A20
  clear A20
  by_cases c3 : t119.size + 1 ≤ 9223372036854775807
  · rw [if_pos c3] at H
    have c3b0 := eq_true c3
    have c3b1 : decide (t119.size + 1 ≤ 9223372036854775807) = true := decide_eq_true c3
    try have c3b2 : (9223372036854775807 < t119.size + 1) = False := eq_false (Nat.not_lt.2 c3)
    replace H := Option.bind_eq_some_iff.mp H
    obtain ⟨t120, A40, H⟩ := H
    replace H : (if (t119 ++ (⟨#[46]⟩ : ByteArray)).size + t120.size ≤ 9223372036854775807 then (if ((t119 ++ (⟨#[46]⟩ : ByteArray)) ++ t120).size + 1 ≤ 9223372036854775807 then ((milestoneref01_num.f k (Int.tmod (IntKind.u32.wrap (Int.tdiv a0_0 256)) 256)).bind fun t121 => (if (((t119 ++ (⟨#[46]⟩ : ByteArray)) ++ t120) ++ (⟨#[46]⟩ : ByteArray)).size + t121.size ≤ 9223372036854775807 then (if ((((t119 ++ (⟨#[46]⟩ : ByteArray)) ++ t120) ++ (⟨#[46]⟩ : ByteArray)) ++ t121).size + 1 ≤ 9223372036854775807 then ((milestoneref01_num.f k (Int.tmod a0_0 256)).bind fun t122 => (if (((((t119 ++ (⟨#[46]⟩ : ByteArray)) ++ t120) ++ (⟨#[46]⟩ : ByteArray)) ++ t121) ++ (⟨#[46]⟩ : ByteArray)).size + t122.size ≤ 9223372036854775807 then (if ((((((t119 ++ (⟨#[46]⟩ : ByteArray)) ++ t120) ++ (⟨#[46]⟩ : ByteArray)) ++ t121) ++ (⟨#[46]⟩ : ByteArray)) ++ t122).size + 1 ≤ 9223372036854775807 then ((milestoneref01_num.f k ((a0_1) % 4294967296)).bind fun t123 => (if (((((((t119 ++ (⟨#[46]⟩ : ByteArray)) ++ t120) ++ (⟨#[46]⟩ : ByteArray)) ++ t121) ++ (⟨#[46]⟩ : ByteArray)) ++ t122) ++ (⟨#[47]⟩ : ByteArray)).size + t123.size ≤ 9223372036854775807 then (some ((((((((t119 ++ (⟨#[46]⟩ : ByteArray)) ++ t120) ++ (⟨#[46]⟩ : ByteArray)) ++ t121) ++ (⟨#[46]⟩ : ByteArray)) ++ t122) ++ (⟨#[47]⟩ : ByteArray)) ++ t123)) else (none))) else (none)) else (none))) else (none)) else (none))) else (none)) else (none)) = some r := H
    have A4 := Aside0.mk A40
    clear A40
    by_cases c5 : (t119 ++ (⟨#[46]⟩ : ByteArray)).size + t120.size ≤ 9223372036854775807
    · rw [if_pos c5] at H
      have c5b0 := eq_true c5
      have c5b1 : decide ((t119 ++ (⟨#[46]⟩ : ByteArray)).size + t120.size ≤ 9223372036854775807) = true := decide_eq_true c5
      try have c5b2 : (9223372036854775807 < (t119 ++ (⟨#[46]⟩ : ByteArray)).size + t120.size) = False := eq_false (Nat.not_lt.2 c5)
      try simp only [ByteArray.size_append, show (⟨#[46]⟩ : ByteArray).size = 1 from rfl, show (⟨#[47]⟩ : ByteArray).size = 1 from rfl] at c5b2
      by_cases c6 : ((t119 ++ (⟨#[46]⟩ : ByteArray)) ++ t120).size + 1 ≤ 9223372036854775807
      · rw [if_pos c6] at H
        have c6b0 := eq_true c6
        have c6b1 : decide (((t119 ++ (⟨#[46]⟩ : ByteArray)) ++ t120).size + 1 ≤ 9223372036854775807) = true := decide_eq_true c6
        try have c6b2 : (9223372036854775807 < ((t119 ++ (⟨#[46]⟩ : ByteArray)) ++ t120).size + 1) = False := eq_false (Nat.not_lt.2 c6)
        try simp only [ByteArray.size_append, show (⟨#[46]⟩ : ByteArray).size = 1 from rfl, show (⟨#[47]⟩ : ByteArray).size = 1 from rfl] at c6b2
        replace H := Option.bind_eq_some_iff.mp H
        obtain ⟨t121, A70, H⟩ := H
        replace H : (if (((t119 ++ (⟨#[46]⟩ : ByteArray)) ++ t120) ++ (⟨#[46]⟩ : ByteArray)).size + t121.size ≤ 9223372036854775807 then (if ((((t119 ++ (⟨#[46]⟩ : ByteArray)) ++ t120) ++ (⟨#[46]⟩ : ByteArray)) ++ t121).size + 1 ≤ 9223372036854775807 then ((milestoneref01_num.f k (Int.tmod a0_0 256)).bind fun t122 => (if (((((t119 ++ (⟨#[46]⟩ : ByteArray)) ++ t120) ++ (⟨#[46]⟩ : ByteArray)) ++ t121) ++ (⟨#[46]⟩ : ByteArray)).size + t122.size ≤ 9223372036854775807 then (if ((((((t119 ++ (⟨#[46]⟩ : ByteArray)) ++ t120) ++ (⟨#[46]⟩ : ByteArray)) ++ t121) ++ (⟨#[46]⟩ : ByteArray)) ++ t122).size + 1 ≤ 9223372036854775807 then ((milestoneref01_num.f k ((a0_1) % 4294967296)).bind fun t123 => (if (((((((t119 ++ (⟨#[46]⟩ : ByteArray)) ++ t120) ++ (⟨#[46]⟩ : ByteArray)) ++ t121) ++ (⟨#[46]⟩ : ByteArray)) ++ t122) ++ (⟨#[47]⟩ : ByteArray)).size + t123.size ≤ 9223372036854775807 then (some ((((((((t119 ++ (⟨#[46]⟩ : ByteArray)) ++ t120) ++ (⟨#[46]⟩ : ByteArray)) ++ t121) ++ (⟨#[46]⟩ : ByteArray)) ++ t122) ++ (⟨#[47]⟩ : ByteArray)) ++ t123)) else (none))) else (none)) else (none))) else (none)) else (none)) = some r := H
        have A7 := Aside0.mk A70
        clear A70
        by_cases c8 : (((t119 ++ (⟨#[46]⟩ : ByteArray)) ++ t120) ++ (⟨#[46]⟩ : ByteArray)).size + t121.size ≤ 9223372036854775807
        · rw [if_pos c8] at H
          have c8b0 := eq_true c8
          have c8b1 : decide ((((t119 ++ (⟨#[46]⟩ : ByteArray)) ++ t120) ++ (⟨#[46]⟩ : ByteArray)).size + t121.size ≤ 9223372036854775807) = true := decide_eq_true c8
          try have c8b2 : (9223372036854775807 < (((t119 ++ (⟨#[46]⟩ : ByteArray)) ++ t120) ++ (⟨#[46]⟩ : ByteArray)).size + t121.size) = False := eq_false (Nat.not_lt.2 c8)
          try simp only [ByteArray.size_append, show (⟨#[46]⟩ : ByteArray).size = 1 from rfl, show (⟨#[47]⟩ : ByteArray).size = 1 from rfl] at c8b2
          by_cases c9 : ((((t119 ++ (⟨#[46]⟩ : ByteArray)) ++ t120) ++ (⟨#[46]⟩ : ByteArray)) ++ t121).size + 1 ≤ 9223372036854775807
          · rw [if_pos c9] at H
            have c9b0 := eq_true c9
            have c9b1 : decide (((((t119 ++ (⟨#[46]⟩ : ByteArray)) ++ t120) ++ (⟨#[46]⟩ : ByteArray)) ++ t121).size + 1 ≤ 9223372036854775807) = true := decide_eq_true c9
            try have c9b2 : (9223372036854775807 < ((((t119 ++ (⟨#[46]⟩ : ByteArray)) ++ t120) ++ (⟨#[46]⟩ : ByteArray)) ++ t121).size + 1) = False := eq_false (Nat.not_lt.2 c9)
            try simp only [ByteArray.size_append, show (⟨#[46]⟩ : ByteArray).size = 1 from rfl, show (⟨#[47]⟩ : ByteArray).size = 1 from rfl] at c9b2
            replace H := Option.bind_eq_some_iff.mp H
            obtain ⟨t122, A100, H⟩ := H
            replace H : (if (((((t119 ++ (⟨#[46]⟩ : ByteArray)) ++ t120) ++ (⟨#[46]⟩ : ByteArray)) ++ t121) ++ (⟨#[46]⟩ : ByteArray)).size + t122.size ≤ 9223372036854775807 then (if ((((((t119 ++ (⟨#[46]⟩ : ByteArray)) ++ t120) ++ (⟨#[46]⟩ : ByteArray)) ++ t121) ++ (⟨#[46]⟩ : ByteArray)) ++ t122).size + 1 ≤ 9223372036854775807 then ((milestoneref01_num.f k ((a0_1) % 4294967296)).bind fun t123 => (if (((((((t119 ++ (⟨#[46]⟩ : ByteArray)) ++ t120) ++ (⟨#[46]⟩ : ByteArray)) ++ t121) ++ (⟨#[46]⟩ : ByteArray)) ++ t122) ++ (⟨#[47]⟩ : ByteArray)).size + t123.size ≤ 9223372036854775807 then (some ((((((((t119 ++ (⟨#[46]⟩ : ByteArray)) ++ t120) ++ (⟨#[46]⟩ : ByteArray)) ++ t121) ++ (⟨#[46]⟩ : ByteArray)) ++ t122) ++ (⟨#[47]⟩ : ByteArray)) ++ t123)) else (none))) else (none)) else (none)) = some r := H
            have A10 := Aside0.mk A100
            clear A100
            by_cases c11 : (((((t119 ++ (⟨#[46]⟩ : ByteArray)) ++ t120) ++ (⟨#[46]⟩ : ByteArray)) ++ t121) ++ (⟨#[46]⟩ : ByteArray)).size + t122.size ≤ 9223372036854775807
            · rw [if_pos c11] at H
              have c11b0 := eq_true c11
              have c11b1 : decide ((((((t119 ++ (⟨#[46]⟩ : ByteArray)) ++ t120) ++ (⟨#[46]⟩ : ByteArray)) ++ t121) ++ (⟨#[46]⟩ : ByteArray)).size + t122.size ≤ 9223372036854775807) = true := decide_eq_true c11
              try have c11b2 : (9223372036854775807 < (((((t119 ++ (⟨#[46]⟩ : ByteArray)) ++ t120) ++ (⟨#[46]⟩ : ByteArray)) ++ t121) ++ (⟨#[46]⟩ : ByteArray)).size + t122.size) = False := eq_false (Nat.not_lt.2 c11)
              try simp only [ByteArray.size_append, show (⟨#[46]⟩ : ByteArray).size = 1 from rfl, show (⟨#[47]⟩ : ByteArray).size = 1 from rfl] at c11b2
              by_cases c12 : ((((((t119 ++ (⟨#[46]⟩ : ByteArray)) ++ t120) ++ (⟨#[46]⟩ : ByteArray)) ++ t121) ++ (⟨#[46]⟩ : ByteArray)) ++ t122).size + 1 ≤ 9223372036854775807
              · rw [if_pos c12] at H
                have c12b0 := eq_true c12
                have c12b1 : decide (((((((t119 ++ (⟨#[46]⟩ : ByteArray)) ++ t120) ++ (⟨#[46]⟩ : ByteArray)) ++ t121) ++ (⟨#[46]⟩ : ByteArray)) ++ t122).size + 1 ≤ 9223372036854775807) = true := decide_eq_true c12
                try have c12b2 : (9223372036854775807 < ((((((t119 ++ (⟨#[46]⟩ : ByteArray)) ++ t120) ++ (⟨#[46]⟩ : ByteArray)) ++ t121) ++ (⟨#[46]⟩ : ByteArray)) ++ t122).size + 1) = False := eq_false (Nat.not_lt.2 c12)
                try simp only [ByteArray.size_append, show (⟨#[46]⟩ : ByteArray).size = 1 from rfl, show (⟨#[47]⟩ : ByteArray).size = 1 from rfl] at c12b2
                replace H := Option.bind_eq_some_iff.mp H
                obtain ⟨t123, A130, H⟩ := H
                replace H : (if (((((((t119 ++ (⟨#[46]⟩ : ByteArray)) ++ t120) ++ (⟨#[46]⟩ : ByteArray)) ++ t121) ++ (⟨#[46]⟩ : ByteArray)) ++ t122) ++ (⟨#[47]⟩ : ByteArray)).size + t123.size ≤ 9223372036854775807 then (some ((((((((t119 ++ (⟨#[46]⟩ : ByteArray)) ++ t120) ++ (⟨#[46]⟩ : ByteArray)) ++ t121) ++ (⟨#[46]⟩ : ByteArray)) ++ t122) ++ (⟨#[47]⟩ : ByteArray)) ++ t123)) else (none)) = some r := H
                have A13 := Aside0.mk A130
                clear A130
                by_cases c14 : (((((((t119 ++ (⟨#[46]⟩ : ByteArray)) ++ t120) ++ (⟨#[46]⟩ : ByteArray)) ++ t121) ++ (⟨#[46]⟩ : ByteArray)) ++ t122) ++ (⟨#[47]⟩ : ByteArray)).size + t123.size ≤ 9223372036854775807
                · rw [if_pos c14] at H
                  have c14b0 := eq_true c14
                  have c14b1 : decide ((((((((t119 ++ (⟨#[46]⟩ : ByteArray)) ++ t120) ++ (⟨#[46]⟩ : ByteArray)) ++ t121) ++ (⟨#[46]⟩ : ByteArray)) ++ t122) ++ (⟨#[47]⟩ : ByteArray)).size + t123.size ≤ 9223372036854775807) = true := decide_eq_true c14
                  try have c14b2 : (9223372036854775807 < (((((((t119 ++ (⟨#[46]⟩ : ByteArray)) ++ t120) ++ (⟨#[46]⟩ : ByteArray)) ++ t121) ++ (⟨#[46]⟩ : ByteArray)) ++ t122) ++ (⟨#[47]⟩ : ByteArray)).size + t123.size) = False := eq_false (Nat.not_lt.2 c14)
                  try simp only [ByteArray.size_append, show (⟨#[46]⟩ : ByteArray).size = 1 from rfl, show (⟨#[47]⟩ : ByteArray).size = 1 from rfl] at c14b2
                  obtain rfl := Option.some.inj H
                  simp only [Option.some.injEq, Prod.mk.injEq] at H
                  obtain ⟨rfl⟩ := H
                  go_enter Tryd.func23, Tryd.ntmps23
                  try go_wp2_with (first | ((with_reducible refine gate_dst (N := 1) rfl ?_); refine box_event ?hg (N := 1) ?hd (cs := #[.int .u32 a0_0, .int .u8 a0_1]) (t := 24) ?hr ?_; (case hd => rfl); (case hg => rfl); (case hr => first | (go_simp; done) | (go_simp; rfl)); intro gb118 hg w15 hbox hb; have n0_ := Aside0.mk (below_step (by repeat (first | (with_reducible first | exact HB.out | apply below_alloc | apply pw_below_drewN | apply below_drew1) | exact HB.out)) hb); have n1_ := Aside0.mk (hbox); have n2_ := Aside0.mk ((by rw [hg]; exact (below_size (by repeat (first | (with_reducible first | exact HB.out | apply below_alloc | apply pw_below_drewN | apply below_drew1) | exact HB.out))) : w.heap.size ≤ gb118)); have n3_ := Aside0.mk ((by rw [hg]; exact (below_size (by repeat (first | (with_reducible first | exact HB.out | apply below_alloc | apply pw_below_drewN | apply below_drew1) | exact HB.out))) : w.heap.size ≤ gb118)); clear HB; have HB := n0_; have BK118 := n1_; have GW118 := n2_; have GE118 := n3_; clear n0_ n1_ n2_ n3_; clear hb hbox hg))
                  have n0_ := Aside0.mk (blk_drew BK118.out)
                  have n1_ := Aside0.mk (below_drew1 HB.out)
                  clear BK118
                  clear HB
                  have BK118 := n0_
                  have HB := n1_
                  clear n0_ n1_
                  refine start_ (n := 31) (S := fun w' => w'.cell? ⟨gb118, 0, none⟩ = some (.int .u32 a0_0) ∧ w'.cell? ⟨gb118, 1, none⟩ = some (.int .u8 a0_1)) (ds := []) #[false, false, false, false, false, false, false, false, false, false, false, false, false, false, false, false, false, false, false, false, false, false, false, false, false, false, false, false, false, false, false] (by kernel_rfl) rfl rfl ⟨(blk_cell BK118.out 0).trans rfl, (blk_cell BK118.out 1).trans rfl⟩ (fun hHeld => ?_); refine with_tabW milestoneref01_Text.tab1 milestoneref01_Text.bits1 (fun HT_ HW_ => ?_)
                  generalize w15.drew = w16 at BK118 HB hHeld ⊢
                  refine pure_ (i := 0) (N := some 3) (v := ?_) (a' := ?_) #[true, false, false, false, false, false, false, false, false, false, false, false, false, false, false, false, false, false, false, false, false, false, false, false, false, false, false, false, false, false, false] rfl rfl (any_of HT_.out (by kernel_rfl)) (fun _ _ _ h => h) (Or.inl ⟨by rfl, ?_⟩) ?_ ?_
                  rotate_left
                  · intro w'
                    go_simp
                    with_reducible rfl
                  rotate_left
                  · simp only [Act.put, List.setIfInBounds_toArray, List.set_cons_zero, List.set_cons_succ, i64_w, i32_w]
                    rfl
                  refine pure_ (i := 5) (N := some 8) (v := ?_) (a' := ?_) #[true, false, false, false, false, true, false, false, false, false, false, false, false, false, false, false, false, false, false, false, false, false, false, false, false, false, false, false, false, false, false] rfl rfl (any_of HT_.out (by kernel_rfl)) (fun _ _ _ h => h) (Or.inl ⟨by rfl, ?_⟩) ?_ ?_
                  rotate_left
                  · intro w'
                    go_simp
                    with_reducible rfl
                  rotate_left
                  · simp only [Act.put, List.setIfInBounds_toArray, List.set_cons_zero, List.set_cons_succ, i64_w, i32_w]
                    rfl
                  refine pure_ (i := 12) (N := some 15) (v := ?_) (a' := ?_) #[true, false, false, false, false, true, false, false, false, false, false, false, true, false, false, false, false, false, false, false, false, false, false, false, false, false, false, false, false, false, false] rfl rfl (any_of HT_.out (by kernel_rfl)) (fun _ _ _ h => h) (Or.inl ⟨by rfl, ?_⟩) ?_ ?_
                  rotate_left
                  · intro w'
                    go_simp
                    with_reducible rfl
                  rotate_left
                  · simp only [Act.put, List.setIfInBounds_toArray, List.set_cons_zero, List.set_cons_succ, i64_w, i32_w]
                    rfl
                  refine pure_ (i := 19) (N := some 22) (v := ?_) (a' := ?_) #[true, false, false, false, false, true, false, false, false, false, false, false, true, false, false, false, false, false, false, true, false, false, false, false, false, false, false, false, false, false, false] rfl rfl (any_of HT_.out (by kernel_rfl)) (fun _ _ _ h => h) (Or.inl ⟨by rfl, ?_⟩) ?_ ?_
                  rotate_left
                  · intro w'
                    go_simp
                    with_reducible rfl
                  rotate_left
                  · simp only [Act.put, List.setIfInBounds_toArray, List.set_cons_zero, List.set_cons_succ, i64_w, i32_w]
                    rfl
                  refine pure_ (i := 25) (N := some 28) (v := ?_) (a' := ?_) #[true, false, false, false, false, true, false, false, false, false, false, false, true, false, false, false, false, false, false, true, false, false, false, false, false, true, false, false, false, false, false] rfl rfl (any_of HT_.out (by kernel_rfl)) (fun _ _ _ h => h) (Or.inl ⟨by rfl, ?_⟩) ?_ ?_
                  rotate_left
                  · intro w'
                    go_simp
                    with_reducible rfl
                  rotate_left
                  · simp only [Act.put, List.setIfInBounds_toArray, List.set_cons_zero, List.set_cons_succ, i64_w, i32_w]
                    rfl
                  refine take_ (i := 1) (N := some 4) (v := ?_) (a' := ?_) #[true, true, false, false, false, true, false, false, false, false, false, false, true, false, false, false, false, false, false, true, false, false, false, false, false, true, false, false, false, false, false] rfl rfl (take_ofW HT_.out HW_.out (by kernel_rfl)) (fun _ _ _ h => h) (Or.inl ⟨by rfl, ?_⟩) hHeld ?_ ?_
                  rotate_left
                  · rintro w' ⟨s0, s1⟩
                    go_simp
                    with_reducible rfl
                  rotate_left
                  · simp only [Act.put, List.setIfInBounds_toArray, List.set_cons_zero, List.set_cons_succ, i64_w, i32_w]
                    rfl
                  refine pure_ (i := 2) (N := some 5) (v := ?_) (a' := ?_) #[true, true, true, false, false, true, false, false, false, false, false, false, true, false, false, false, false, false, false, true, false, false, false, false, false, true, false, false, false, false, false] rfl rfl (any_of HT_.out (by kernel_rfl)) (fun _ _ _ h => h) (Or.inl ⟨by rfl, ?_⟩) ?_ ?_
                  rotate_left
                  · intro w'
                    go_simp
                    with_reducible rfl
                  rotate_left
                  · simp only [Act.put, List.setIfInBounds_toArray, List.set_cons_zero, List.set_cons_succ, i64_w, i32_w]
                    rfl
                  refine take_ (i := 6) (N := some 9) (v := ?_) (a' := ?_) #[true, true, true, false, false, true, true, false, false, false, false, false, true, false, false, false, false, false, false, true, false, false, false, false, false, true, false, false, false, false, false] rfl rfl (take_ofW HT_.out HW_.out (by kernel_rfl)) (fun _ _ _ h => h) (Or.inl ⟨by rfl, ?_⟩) hHeld ?_ ?_
                  rotate_left
                  · rintro w' ⟨s0, s1⟩
                    go_simp
                    with_reducible rfl
                  rotate_left
                  · simp only [Act.put, List.setIfInBounds_toArray, List.set_cons_zero, List.set_cons_succ, i64_w, i32_w]
                    rfl
                  refine pure_ (i := 7) (N := some 10) (v := ?_) (a' := ?_) #[true, true, true, false, false, true, true, true, false, false, false, false, true, false, false, false, false, false, false, true, false, false, false, false, false, true, false, false, false, false, false] rfl rfl (any_of HT_.out (by kernel_rfl)) (fun _ _ _ h => h) (Or.inl ⟨by rfl, ?_⟩) ?_ ?_
                  rotate_left
                  · intro w'
                    go_simp
                    with_reducible rfl
                  rotate_left
                  · simp only [Act.put, List.setIfInBounds_toArray, List.set_cons_zero, List.set_cons_succ, i64_w, i32_w]
                    rfl
                  refine pure_ (i := 8) (N := some 11) (v := ?_) (a' := ?_) #[true, true, true, false, false, true, true, true, true, false, false, false, true, false, false, false, false, false, false, true, false, false, false, false, false, true, false, false, false, false, false] rfl rfl (any_of HT_.out (by kernel_rfl)) (fun _ _ _ h => h) (Or.inl ⟨by rfl, ?_⟩) ?_ ?_
                  rotate_left
                  · intro w'
                    go_simp
                    with_reducible rfl
                  rotate_left
                  · simp only [Act.put, List.setIfInBounds_toArray, List.set_cons_zero, List.set_cons_succ, i64_w, i32_w]
                    rfl
                  refine take_ (i := 13) (N := some 16) (v := ?_) (a' := ?_) #[true, true, true, false, false, true, true, true, true, false, false, false, true, true, false, false, false, false, false, true, false, false, false, false, false, true, false, false, false, false, false] rfl rfl (take_ofW HT_.out HW_.out (by kernel_rfl)) (fun _ _ _ h => h) (Or.inl ⟨by rfl, ?_⟩) hHeld ?_ ?_
                  rotate_left
                  · rintro w' ⟨s0, s1⟩
                    go_simp
                    with_reducible rfl
                  rotate_left
                  · simp only [Act.put, List.setIfInBounds_toArray, List.set_cons_zero, List.set_cons_succ, i64_w, i32_w]
                    rfl
                  refine pure_ (i := 14) (N := some 17) (v := ?_) (a' := ?_) #[true, true, true, false, false, true, true, true, true, false, false, false, true, true, true, false, false, false, false, true, false, false, false, false, false, true, false, false, false, false, false] rfl rfl (any_of HT_.out (by kernel_rfl)) (fun _ _ _ h => h) (Or.inl ⟨by rfl, ?_⟩) ?_ ?_
                  rotate_left
                  · intro w'
                    go_simp
                    with_reducible rfl
                  rotate_left
                  · simp only [Act.put, List.setIfInBounds_toArray, List.set_cons_zero, List.set_cons_succ, i64_w, i32_w]
                    rfl
                  refine pure_ (i := 15) (N := some 18) (v := ?_) (a' := ?_) #[true, true, true, false, false, true, true, true, true, false, false, false, true, true, true, true, false, false, false, true, false, false, false, false, false, true, false, false, false, false, false] rfl rfl (any_of HT_.out (by kernel_rfl)) (fun _ _ _ h => h) (Or.inl ⟨by rfl, ?_⟩) ?_ ?_
                  rotate_left
                  · intro w'
                    go_simp
                    with_reducible rfl
                  rotate_left
                  · simp only [Act.put, List.setIfInBounds_toArray, List.set_cons_zero, List.set_cons_succ, i64_w, i32_w]
                    rfl
                  refine take_ (i := 20) (N := some 23) (v := ?_) (a' := ?_) #[true, true, true, false, false, true, true, true, true, false, false, false, true, true, true, true, false, false, false, true, true, false, false, false, false, true, false, false, false, false, false] rfl rfl (take_ofW HT_.out HW_.out (by kernel_rfl)) (fun _ _ _ h => h) (Or.inl ⟨by rfl, ?_⟩) hHeld ?_ ?_
                  rotate_left
                  · rintro w' ⟨s0, s1⟩
                    go_simp
                    with_reducible rfl
                  rotate_left
                  · simp only [Act.put, List.setIfInBounds_toArray, List.set_cons_zero, List.set_cons_succ, i64_w, i32_w]
                    rfl
                  refine pure_ (i := 21) (N := some 24) (v := ?_) (a' := ?_) #[true, true, true, false, false, true, true, true, true, false, false, false, true, true, true, true, false, false, false, true, true, true, false, false, false, true, false, false, false, false, false] rfl rfl (any_of HT_.out (by kernel_rfl)) (fun _ _ _ h => h) (Or.inl ⟨by rfl, ?_⟩) ?_ ?_
                  rotate_left
                  · intro w'
                    go_simp
                    with_reducible rfl
                  rotate_left
                  · simp only [Act.put, List.setIfInBounds_toArray, List.set_cons_zero, List.set_cons_succ, i64_w, i32_w]
                    rfl
                  refine take_ (i := 26) (N := some 29) (v := ?_) (a' := ?_) #[true, true, true, false, false, true, true, true, true, false, false, false, true, true, true, true, false, false, false, true, true, true, false, false, false, true, true, false, false, false, false] rfl rfl (take_ofW HT_.out HW_.out (by kernel_rfl)) (fun _ _ _ h => h) (Or.inl ⟨by rfl, ?_⟩) hHeld ?_ ?_
                  rotate_left
                  · rintro w' ⟨s0, s1⟩
                    go_simp
                    with_reducible rfl
                  rotate_left
                  · simp only [Act.put, List.setIfInBounds_toArray, List.set_cons_zero, List.set_cons_succ, i64_w, i32_w]
                    rfl
                  refine pure_ (i := 27) (N := some 30) (v := ?_) (a' := ?_) #[true, true, true, false, false, true, true, true, true, false, false, false, true, true, true, true, false, false, false, true, true, true, false, false, false, true, true, true, false, false, false] rfl rfl (any_of HT_.out (by kernel_rfl)) (fun _ _ _ h => h) (Or.inl ⟨by rfl, ?_⟩) ?_ ?_
                  rotate_left
                  · intro w'
                    go_simp
                    with_reducible rfl
                  rotate_left
                  · simp only [Act.put, List.setIfInBounds_toArray, List.set_cons_zero, List.set_cons_succ, i64_w, i32_w]
                    rfl
                  refine one_ (i := 3) (N := some 6) #[true, true, true, true, false, true, true, true, true, false, false, false, true, true, true, true, false, false, false, true, true, true, false, false, false, true, true, true, false, false, false] rfl rfl (one_of HT_.out (by kernel_rfl)) (by decide) (fun K hK => ?_)
                  refine goes_ Tryd.func29 (by kernel_rfl) rfl #[.int .u32 ((Int.tdiv a0_0 16777216) % 4294967296)] (by rfl) rfl rfl (by (try simp only [List.map_toArray, List.map_cons, List.map_nil]); first | done | rfl | (simp only [List.length_drop, List.length_take]; rfl)) ?_
                  with_reducible refine (milestoneref01_num.calls k ((Int.tdiv a0_0 16777216) % 4294967296) t119 _ A2.out).mono ?_
                  rintro e w17 ⟨rfl, hb⟩
                  refine ⟨_, rfl, ?_⟩
                  have n0_ := Aside0.mk (blk_below (g := gb118) (o := .cells #[.int .u32 a0_0, .int .u8 a0_1] 24 (0, 0)) (by (with_reducible repeat (first | refine blk_drewN ?_ _ | refine blk_drew ?_ | refine blk_alloc ?_ _)); exact BK118.out) hb)
                  have n1_ := Aside0.mk (below_step (by repeat (first | (with_reducible first | exact HB.out | apply below_alloc | apply pw_below_drewN | apply below_drew1 | refine below_set ?_ GE118.out) | exact HB.out)) hb)
                  clear BK118
                  clear HB
                  have BK118 := n0_
                  have HB := n1_
                  clear n0_ n1_
                  (try clear hb)
                  (try clear hb2)
                  (try clear hk)
                  (try clear hi)
                  refine hK.out _ _ ⟨(blk_cell BK118.out 0).trans rfl, (blk_cell BK118.out 1).trans rfl⟩ (fun hHeld => ?_)
                  clear hK K
                  refine norm_ (a' := ?_) ?_ ?_
                  rotate_left
                  · show Act.put _ (some 6) _ = _
                    simp only [Act.put, List.setIfInBounds_toArray, List.set_cons_zero, List.set_cons_succ, i64_w, i32_w]
                    rfl
                  refine pure_ (i := 4) (N := some 7) (v := ?_) (a' := ?_) #[true, true, true, true, true, true, true, true, true, false, false, false, true, true, true, true, false, false, false, true, true, true, false, false, false, true, true, true, false, false, false] rfl rfl (any_of HT_.out (by kernel_rfl)) (fun _ _ _ h => h) (Or.inl ⟨by rfl, ?_⟩) ?_ ?_
                  rotate_left
                  · intro w'
                    go_simp
                    with_reducible rfl
                  rotate_left
                  · simp only [Act.put, List.setIfInBounds_toArray, List.set_cons_zero, List.set_cons_succ, i64_w, i32_w]
                    rfl
                  refine one_ (i := 9) (N := some 12) #[true, true, true, true, true, true, true, true, true, true, false, false, true, true, true, true, false, false, false, true, true, true, false, false, false, true, true, true, false, false, false] rfl rfl (one_of HT_.out (by kernel_rfl)) (by decide) (fun K hK => ?_)
                  refine goes_ Tryd.func29 (by kernel_rfl) rfl #[.int .u32 (Int.tmod (IntKind.u32.wrap (Int.tdiv a0_0 65536)) 256)] (by rfl) rfl rfl (by (try simp only [List.map_toArray, List.map_cons, List.map_nil]); first | done | rfl | (simp only [List.length_drop, List.length_take]; rfl)) ?_
                  with_reducible refine (milestoneref01_num.calls k (Int.tmod (IntKind.u32.wrap (Int.tdiv a0_0 65536)) 256) t120 _ A4.out).mono ?_
                  rintro e w18 ⟨rfl, hb⟩
                  refine ⟨_, rfl, ?_⟩
                  have n0_ := Aside0.mk (blk_below (g := gb118) (o := .cells #[.int .u32 a0_0, .int .u8 a0_1] 24 (0, 0)) (by (with_reducible repeat (first | refine blk_drewN ?_ _ | refine blk_drew ?_ | refine blk_alloc ?_ _)); exact BK118.out) hb)
                  have n1_ := Aside0.mk (below_step (by repeat (first | (with_reducible first | exact HB.out | apply below_alloc | apply pw_below_drewN | apply below_drew1 | refine below_set ?_ GE118.out) | exact HB.out)) hb)
                  clear BK118
                  clear HB
                  have BK118 := n0_
                  have HB := n1_
                  clear n0_ n1_
                  (try clear hb)
                  (try clear hb2)
                  (try clear hk)
                  (try clear hi)
                  refine hK.out _ _ ⟨(blk_cell BK118.out 0).trans rfl, (blk_cell BK118.out 1).trans rfl⟩ (fun hHeld => ?_)
                  clear hK K
                  refine norm_ (a' := ?_) ?_ ?_
                  rotate_left
                  · show Act.put _ (some 12) _ = _
                    simp only [Act.put, List.setIfInBounds_toArray, List.set_cons_zero, List.set_cons_succ, i64_w, i32_w]
                    rfl
                  refine pure_ (i := 10) (N := some 13) (v := ?_) (a' := ?_) #[true, true, true, true, true, true, true, true, true, true, true, false, true, true, true, true, false, false, false, true, true, true, false, false, false, true, true, true, false, false, false] rfl rfl (any_of HT_.out (by kernel_rfl)) (fun _ _ _ h => h) (Or.inl ⟨by rfl, ?_⟩) ?_ ?_
                  rotate_left
                  · intro w'
                    go_simp
                    with_reducible rfl
                  rotate_left
                  · simp only [Act.put, List.setIfInBounds_toArray, List.set_cons_zero, List.set_cons_succ, i64_w, i32_w]
                    rfl
                  refine pure_ (i := 11) (N := some 14) (v := ?_) (a' := ?_) #[true, true, true, true, true, true, true, true, true, true, true, true, true, true, true, true, false, false, false, true, true, true, false, false, false, true, true, true, false, false, false] rfl rfl (any_of HT_.out (by kernel_rfl)) (fun _ _ _ h => h) (Or.inl ⟨by rfl, ?_⟩) ?_ ?_
                  rotate_left
                  · intro w'
                    go_simp
                    with_reducible rfl
                  rotate_left
                  · simp only [Act.put, List.setIfInBounds_toArray, List.set_cons_zero, List.set_cons_succ, i64_w, i32_w]
                    rfl
                  refine one_ (i := 16) (N := some 19) #[true, true, true, true, true, true, true, true, true, true, true, true, true, true, true, true, true, false, false, true, true, true, false, false, false, true, true, true, false, false, false] rfl rfl (one_of HT_.out (by kernel_rfl)) (by decide) (fun K hK => ?_)
                  refine goes_ Tryd.func29 (by kernel_rfl) rfl #[.int .u32 (Int.tmod (IntKind.u32.wrap (Int.tdiv a0_0 256)) 256)] (by rfl) rfl rfl (by (try simp only [List.map_toArray, List.map_cons, List.map_nil]); first | done | rfl | (simp only [List.length_drop, List.length_take]; rfl)) ?_
                  with_reducible refine (milestoneref01_num.calls k (Int.tmod (IntKind.u32.wrap (Int.tdiv a0_0 256)) 256) t121 _ A7.out).mono ?_
                  rintro e w19 ⟨rfl, hb⟩
                  refine ⟨_, rfl, ?_⟩
                  have n0_ := Aside0.mk (blk_below (g := gb118) (o := .cells #[.int .u32 a0_0, .int .u8 a0_1] 24 (0, 0)) (by (with_reducible repeat (first | refine blk_drewN ?_ _ | refine blk_drew ?_ | refine blk_alloc ?_ _)); exact BK118.out) hb)
                  have n1_ := Aside0.mk (below_step (by repeat (first | (with_reducible first | exact HB.out | apply below_alloc | apply pw_below_drewN | apply below_drew1 | refine below_set ?_ GE118.out) | exact HB.out)) hb)
                  clear BK118
                  clear HB
                  have BK118 := n0_
                  have HB := n1_
                  clear n0_ n1_
                  (try clear hb)
                  (try clear hb2)
                  (try clear hk)
                  (try clear hi)
                  refine hK.out _ _ ⟨(blk_cell BK118.out 0).trans rfl, (blk_cell BK118.out 1).trans rfl⟩ (fun hHeld => ?_)
                  clear hK K
                  refine norm_ (a' := ?_) ?_ ?_
                  rotate_left
                  · show Act.put _ (some 19) _ = _
                    simp only [Act.put, List.setIfInBounds_toArray, List.set_cons_zero, List.set_cons_succ, i64_w, i32_w]
                    rfl
                  refine pure_ (i := 17) (N := some 20) (v := ?_) (a' := ?_) #[true, true, true, true, true, true, true, true, true, true, true, true, true, true, true, true, true, true, false, true, true, true, false, false, false, true, true, true, false, false, false] rfl rfl (any_of HT_.out (by kernel_rfl)) (fun _ _ _ h => h) (Or.inl ⟨by rfl, ?_⟩) ?_ ?_
                  rotate_left
                  · intro w'
                    go_simp
                    with_reducible rfl
                  rotate_left
                  · simp only [Act.put, List.setIfInBounds_toArray, List.set_cons_zero, List.set_cons_succ, i64_w, i32_w]
                    rfl
                  refine pure_ (i := 18) (N := some 21) (v := ?_) (a' := ?_) #[true, true, true, true, true, true, true, true, true, true, true, true, true, true, true, true, true, true, true, true, true, true, false, false, false, true, true, true, false, false, false] rfl rfl (any_of HT_.out (by kernel_rfl)) (fun _ _ _ h => h) (Or.inl ⟨by rfl, ?_⟩) ?_ ?_
                  rotate_left
                  · intro w'
                    go_simp
                    with_reducible rfl
                  rotate_left
                  · simp only [Act.put, List.setIfInBounds_toArray, List.set_cons_zero, List.set_cons_succ, i64_w, i32_w]
                    rfl
                  refine one_ (i := 22) (N := some 25) #[true, true, true, true, true, true, true, true, true, true, true, true, true, true, true, true, true, true, true, true, true, true, true, false, false, true, true, true, false, false, false] rfl rfl (one_of HT_.out (by kernel_rfl)) (by decide) (fun K hK => ?_)
                  refine goes_ Tryd.func29 (by kernel_rfl) rfl #[.int .u32 (Int.tmod a0_0 256)] (by rfl) rfl rfl (by (try simp only [List.map_toArray, List.map_cons, List.map_nil]); first | done | rfl | (simp only [List.length_drop, List.length_take]; rfl)) ?_
                  with_reducible refine (milestoneref01_num.calls k (Int.tmod a0_0 256) t122 _ A10.out).mono ?_
                  rintro e w20 ⟨rfl, hb⟩
                  refine ⟨_, rfl, ?_⟩
                  have n0_ := Aside0.mk (blk_below (g := gb118) (o := .cells #[.int .u32 a0_0, .int .u8 a0_1] 24 (0, 0)) (by (with_reducible repeat (first | refine blk_drewN ?_ _ | refine blk_drew ?_ | refine blk_alloc ?_ _)); exact BK118.out) hb)
                  have n1_ := Aside0.mk (below_step (by repeat (first | (with_reducible first | exact HB.out | apply below_alloc | apply pw_below_drewN | apply below_drew1 | refine below_set ?_ GE118.out) | exact HB.out)) hb)
                  clear BK118
                  clear HB
                  have BK118 := n0_
                  have HB := n1_
                  clear n0_ n1_
                  (try clear hb)
                  (try clear hb2)
                  (try clear hk)
                  (try clear hi)
                  refine hK.out _ _ ⟨(blk_cell BK118.out 0).trans rfl, (blk_cell BK118.out 1).trans rfl⟩ (fun hHeld => ?_)
                  clear hK K
                  refine norm_ (a' := ?_) ?_ ?_
                  rotate_left
                  · show Act.put _ (some 25) _ = _
                    simp only [Act.put, List.setIfInBounds_toArray, List.set_cons_zero, List.set_cons_succ, i64_w, i32_w]
                    rfl
                  refine pure_ (i := 23) (N := some 26) (v := ?_) (a' := ?_) #[true, true, true, true, true, true, true, true, true, true, true, true, true, true, true, true, true, true, true, true, true, true, true, true, false, true, true, true, false, false, false] rfl rfl (any_of HT_.out (by kernel_rfl)) (fun _ _ _ h => h) (Or.inl ⟨by rfl, ?_⟩) ?_ ?_
                  rotate_left
                  · intro w'
                    go_simp
                    with_reducible rfl
                  rotate_left
                  · simp only [Act.put, List.setIfInBounds_toArray, List.set_cons_zero, List.set_cons_succ, i64_w, i32_w]
                    rfl
                  refine pure_ (i := 24) (N := some 27) (v := ?_) (a' := ?_) #[true, true, true, true, true, true, true, true, true, true, true, true, true, true, true, true, true, true, true, true, true, true, true, true, true, true, true, true, false, false, false] rfl rfl (any_of HT_.out (by kernel_rfl)) (fun _ _ _ h => h) (Or.inl ⟨by rfl, ?_⟩) ?_ ?_
                  rotate_left
                  · intro w'
                    go_simp
                    with_reducible rfl
                  rotate_left
                  · simp only [Act.put, List.setIfInBounds_toArray, List.set_cons_zero, List.set_cons_succ, i64_w, i32_w]
                    rfl
                  refine one_ (i := 28) (N := some 31) #[true, true, true, true, true, true, true, true, true, true, true, true, true, true, true, true, true, true, true, true, true, true, true, true, true, true, true, true, true, false, false] rfl rfl (one_of HT_.out (by kernel_rfl)) (by decide) (fun K hK => ?_)
                  refine goes_ Tryd.func29 (by kernel_rfl) rfl #[.int .u32 ((a0_1) % 4294967296)] (by rfl) rfl rfl (by (try simp only [List.map_toArray, List.map_cons, List.map_nil]); first | done | rfl | (simp only [List.length_drop, List.length_take]; rfl)) ?_
                  with_reducible refine (milestoneref01_num.calls k ((a0_1) % 4294967296) t123 _ A13.out).mono ?_
                  rintro e w21 ⟨rfl, hb⟩
                  refine ⟨_, rfl, ?_⟩
                  have n0_ := Aside0.mk (blk_below (g := gb118) (o := .cells #[.int .u32 a0_0, .int .u8 a0_1] 24 (0, 0)) (by (with_reducible repeat (first | refine blk_drewN ?_ _ | refine blk_drew ?_ | refine blk_alloc ?_ _)); exact BK118.out) hb)
                  have n1_ := Aside0.mk (below_step (by repeat (first | (with_reducible first | exact HB.out | apply below_alloc | apply pw_below_drewN | apply below_drew1 | refine below_set ?_ GE118.out) | exact HB.out)) hb)
                  clear BK118
                  clear HB
                  have BK118 := n0_
                  have HB := n1_
                  clear n0_ n1_
                  (try clear hb)
                  (try clear hb2)
                  (try clear hk)
                  (try clear hi)
                  refine hK.out _ _ ⟨(blk_cell BK118.out 0).trans rfl, (blk_cell BK118.out 1).trans rfl⟩ (fun hHeld => ?_)
                  clear hK K
                  refine norm_ (a' := ?_) ?_ ?_
                  rotate_left
                  · show Act.put _ (some 31) _ = _
                    simp only [Act.put, List.setIfInBounds_toArray, List.set_cons_zero, List.set_cons_succ, i64_w, i32_w]
                    rfl
                  refine pure_ (i := 29) (N := some 32) (v := ?_) (a' := ?_) #[true, true, true, true, true, true, true, true, true, true, true, true, true, true, true, true, true, true, true, true, true, true, true, true, true, true, true, true, true, true, false] rfl rfl (any_of HT_.out (by kernel_rfl)) (fun _ _ _ h => h) (Or.inl ⟨by rfl, ?_⟩) ?_ ?_
                  rotate_left
                  · intro w'
                    go_simp
                    with_reducible rfl
                  rotate_left
                  · simp only [Act.put, List.setIfInBounds_toArray, List.set_cons_zero, List.set_cons_succ, i64_w, i32_w]
                    rfl
                  refine pure_ (i := 30) (N := some 2) (v := ?_) (a' := ?_) #[true, true, true, true, true, true, true, true, true, true, true, true, true, true, true, true, true, true, true, true, true, true, true, true, true, true, true, true, true, true, true] rfl rfl (any_of HT_.out (by kernel_rfl)) (fun _ _ _ h => h) (Or.inl ⟨by rfl, ?_⟩) ?_ ?_
                  rotate_left
                  · intro w'
                    go_simp
                    with_reducible rfl
                  rotate_left
                  · simp only [Act.put, List.setIfInBounds_toArray, List.set_cons_zero, List.set_cons_succ, i64_w, i32_w]
                    rfl
                  refine done_ (done_of HT_.out (by kernel_rfl)) ?_
                  try go_wp2
                  go_ret
                  exact ⟨by first | rfl | (simp [errW_none, errW_some] <;> rfl) | (simp [*, errW_none, errW_some] <;> rfl), by repeat (first | (with_reducible first | exact HB.out | apply below_alloc | apply pw_below_drewN | apply below_drew1 | refine below_set ?_ GE118.out) | exact HB.out)⟩
                · rw [if_neg c14] at H
                  exact absurd H (by simp)
              · rw [if_neg c12] at H
                exact absurd H (by simp)
            · rw [if_neg c11] at H
              exact absurd H (by simp)
          · rw [if_neg c9] at H
            exact absurd H (by simp)
        · rw [if_neg c8] at H
          exact absurd H (by simp)
      · rw [if_neg c6] at H
        exact absurd H (by simp)
    · rw [if_neg c5] at H
      exact absurd H (by simp)
  · rw [if_neg c3] at H
    exact absurd H (by simp)

/-! ### milestonelaw01_PrefixTexts: function 7 -/
def milestonelaw01_PrefixTexts.f (k : Nat) (a0 : Int) (a1 : Int) : Option (Bool) := (milestoneref01_Of.f k a0 a1).bind fun bt124 => ((prefix_Text.f k bt124.1 bt124.2).bind fun t127 => ((prefix_Parse.f t127).bind fun bt128 => ((milestonelaw01_awake.f k).bind fun t132 => (if t132 = true then ((milestoneref01_Text.f k bt124.1 bt124.2).bind fun t133 => (if t127.toList = t133.toList then (if bt128.2.2 = 0 then (some (bt128.1 == bt124.1 && (bt128.2.1 == bt124.2))) else (some false)) else (some false))) else (some false)))))
theorem milestonelaw01_PrefixTexts.mono : ∀ a0 a1 k, LeO (milestonelaw01_PrefixTexts.f k a0 a1) (milestonelaw01_PrefixTexts.f (k + 1) a0 a1) := by
  intro a0 a1 k
  unfold milestonelaw01_PrefixTexts.f
  repeat' first
      | (with_reducible exact milestonelaw01_awake.mono _)
      | (with_reducible exact milestoneref01_Of.mono _ _ _)
      | (with_reducible exact milestoneref01_Text.mono _ _ _)
      | (with_reducible exact prefix_Text.mono _ _ _)
      | (with_reducible exact LeO.refl _)
      | (with_reducible exact LeO.none _)
      | (with_reducible refine LeO.ite ?_ ?_)
      | (with_reducible refine LeO.bind ?_ (fun _ => ?_))
      | exact milestonelaw01_awake.mono _
      | exact milestoneref01_Of.mono _ _ _
      | exact milestoneref01_Text.mono _ _ _
      | exact prefix_Text.mono _ _ _
      | exact LeO.none _
      | refine LeO.ite ?_ ?_
      | refine LeO.bind ?_ (fun _ => ?_)
set_option maxHeartbeats 8000000 in
set_option maxRecDepth 100000 in
theorem milestonelaw01_PrefixTexts.calls (k : Nat) (a0 : Int) (a1 : Int) (r : Bool) (w : World) (ht : strconv_Itoa.Tab w) (h : milestonelaw01_PrefixTexts.f k a0 a1 = some r) (hT : r = true) :
    Calls Tryd.prog 7 #[.int .u32 a0, .int .u8 a1] w fun e w' => e = .returned (.bool r) ∧ Below w.heap.size w w' := by
  have HTB := Aside0.mk ht
  clear ht
  have HT := Aside0.mk hT
  clear hT
  have hu24 := Tryd.underlying24
  have HB := Aside0.mk (Below.refl w.heap.size w)
  have H : ((milestoneref01_Of.f k a0 a1).bind fun bt124 => ((prefix_Text.f k bt124.1 bt124.2).bind fun t127 => ((prefix_Parse.f t127).bind fun bt128 => ((milestonelaw01_awake.f k).bind fun t132 => (if t132 = true then ((milestoneref01_Text.f k bt124.1 bt124.2).bind fun t133 => (if t127.toList = t133.toList then (if bt128.2.2 = 0 then (some (bt128.1 == bt124.1 && (bt128.2.1 == bt124.2))) else (some false)) else (some false))) else (some false)))))) = some r := h
  clear h
  replace H := Option.bind_eq_some_iff.mp H
  obtain ⟨⟨t124, t125⟩, A30, H⟩ := H
  replace H : ((prefix_Text.f k t124 t125).bind fun t127 => ((prefix_Parse.f t127).bind fun bt128 => ((milestonelaw01_awake.f k).bind fun t132 => (if t132 = true then ((milestoneref01_Text.f k t124 t125).bind fun t133 => (if t127.toList = t133.toList then (if bt128.2.2 = 0 then (some (bt128.1 == t124 && (bt128.2.1 == t125))) else (some false)) else (some false))) else (some false))))) = some r := H
  have A3 := Aside0.mk A30
  clear A30
  replace H := Option.bind_eq_some_iff.mp H
  obtain ⟨t127, A40, H⟩ := H
  replace H : ((prefix_Parse.f t127).bind fun bt128 => ((milestonelaw01_awake.f k).bind fun t132 => (if t132 = true then ((milestoneref01_Text.f k t124 t125).bind fun t133 => (if t127.toList = t133.toList then (if bt128.2.2 = 0 then (some (bt128.1 == t124 && (bt128.2.1 == t125))) else (some false)) else (some false))) else (some false)))) = some r := H
  have A4 := Aside0.mk A40
  clear A40
  replace H := Option.bind_eq_some_iff.mp H
  obtain ⟨⟨t128, t129, t130⟩, A50, H⟩ := H
  replace H : ((milestonelaw01_awake.f k).bind fun t132 => (if t132 = true then ((milestoneref01_Text.f k t124 t125).bind fun t133 => (if t127.toList = t133.toList then (if t130 = 0 then (some (t128 == t124 && (t129 == t125))) else (some false)) else (some false))) else (some false))) = some r := H
  have A5 := Aside0.mk A50
  clear A50
  replace H := Option.bind_eq_some_iff.mp H
  obtain ⟨t132, A60, H⟩ := H
  replace H : (if t132 = true then ((milestoneref01_Text.f k t124 t125).bind fun t133 => (if t127.toList = t133.toList then (if t130 = 0 then (some (t128 == t124 && (t129 == t125))) else (some false)) else (some false))) else (some false)) = some r := H
  have A6 := Aside0.mk A60
  clear A60
  by_cases c7 : t132 = true
  · subst c7
    have H1 : ((milestoneref01_Text.f k t124 t125).bind fun t133 => (if t127.toList = t133.toList then (if t130 = 0 then (some (t128 == t124 && (t129 == t125))) else (some false)) else (some false))) = some r := by rw [if_pos rfl] at H; exact H
    clear H
    have H := H1
    clear H1
    replace H := Option.bind_eq_some_iff.mp H
    obtain ⟨t133, A80, H⟩ := H
    replace H : (if t127.toList = t133.toList then (if t130 = 0 then (some (t128 == t124 && (t129 == t125))) else (some false)) else (some false)) = some r := H
    have A8 := Aside0.mk A80
    clear A80
    by_cases c9 : t127.toList = t133.toList
    · rw [if_pos c9] at H
      have c9b0 : (t127.toList == t133.toList) = true := beq_iff_eq.mpr c9
      have c9b1 : (t127.toList != t133.toList) = false := bne_eq_false_iff_eq.mpr c9
      clear c9
      by_cases c10 : t130 = 0
      · rw [if_pos c10] at H
        have c10b0 : (t130 == 0) = true := beq_iff_eq.mpr c10
        have c10b1 : (t130 != 0) = false := bne_eq_false_iff_eq.mpr c10
        clear c10
        obtain rfl := Option.some.inj H
        simp only [Option.some.injEq, Prod.mk.injEq] at H
        obtain ⟨rfl⟩ := H
        go_enter Tryd.func7, Tryd.ntmps7
        go_wp2_with (first | ((with_reducible refine gate_callee (f := 12) rfl ?_); refine goesL_ (some 11) rfl rfl Tryd.func12 (by kernel_rfl) rfl #[.int .u32 a0, .int .u8 a1] rfl (by (try simp only [List.map_toArray, List.map_cons, List.map_nil]); first | done | rfl | (simp only [List.length_drop, List.length_take]; rfl) | (simp; done) | (refine qa_arr ?_; (repeat' (first | rfl | refine qa_cons ?_ ?_ | refine qa_int ?_ | refine qa_agg ?_ | refine qa_arr ?_ | omega)); done)) ?_; (with_reducible refine (milestoneref01_Of.calls k a0 a1 t124 t125 _ A3.out).mono ?_); rintro e w11 ⟨rfl, hb⟩; refine ⟨_, rfl, ?_⟩; have n0_ := Aside0.mk (below_step (by repeat (first | (with_reducible first | exact HB.out | apply below_alloc | apply pw_below_drewN | apply below_drew1) | exact HB.out)) hb); clear HB; have HB := n0_; clear n0_; (try clear hb); (try clear hb2); (try clear hk); (try clear hi)) | ((with_reducible refine gate_dst (N := 5) rfl ?_); refine box_event ?hg (N := 5) ?hd (cs := #[.int .u32 0, .int .u8 0]) (t := 24) ?hr ?_; (case hd => rfl); (case hg => rfl); (case hr => first | (go_simp; done) | (go_simp; rfl)); intro gb126 hg w12 hbox hb; have n0_ := Aside0.mk (below_step (by repeat (first | (with_reducible first | exact HB.out | apply below_alloc | apply pw_below_drewN | apply below_drew1) | exact HB.out)) hb); have n1_ := Aside0.mk (hbox); have n2_ := Aside0.mk ((by rw [hg]; exact (below_size (by repeat (first | (with_reducible first | exact HB.out | apply below_alloc | apply pw_below_drewN | apply below_drew1) | exact HB.out))) : w.heap.size ≤ gb126)); have n3_ := Aside0.mk ((by rw [hg]; exact (below_size (by repeat (first | (with_reducible first | exact HB.out | apply below_alloc | apply pw_below_drewN | apply below_drew1) | exact HB.out))) : w.heap.size ≤ gb126)); clear HB; have HB := n0_; have BK126 := n1_; have GW126 := n2_; have GE126 := n3_; clear n0_ n1_ n2_ n3_; clear hb hbox hg; have hcz13_0 : w12.cell? ⟨gb126, 0, none⟩ = some (.int .u32 0) := (blk_cell BK126.out 0).trans rfl; have hcz13_1 : w12.cell? ⟨gb126, 1, none⟩ = some (.int .u8 0) := (blk_cell BK126.out 1).trans rfl; have hfz13_0 := blk_frozen BK126.out 0; have hfz13_1 := blk_frozen BK126.out 1) | ((with_reducible refine gate_callee (f := 21) rfl ?_); refine goesL_ (some 13) rfl rfl Tryd.func21 (by kernel_rfl) rfl #[.agg #[.int .u32 t124, .int .u8 t125]] rfl (by (try simp only [List.map_toArray, List.map_cons, List.map_nil]); first | done | rfl | (simp only [List.length_drop, List.length_take]; rfl) | (simp; done) | (refine qa_arr ?_; (repeat' (first | rfl | refine qa_cons ?_ ?_ | refine qa_int ?_ | refine qa_agg ?_ | refine qa_arr ?_ | omega)); done)) ?_; (with_reducible refine (prefix_Text.calls k t124 t125 t127 _ ?_ A4.out).mono ?_); (exact (strconv_Itoa.Tab.below HTB.out (by repeat (first | (with_reducible first | exact HB.out | apply below_alloc | apply pw_below_drewN | apply below_drew1 | refine below_set ?_ GE126.out) | exact HB.out)))); rintro e w14 ⟨rfl, hb⟩; refine ⟨_, rfl, ?_⟩; have n0_ := Aside0.mk (blk_below (g := gb126) (o := .cells #[.int .u32 t124, .int .u8 t125] 24 (0, 0)) (by (with_reducible repeat (first | refine blk_drewN ?_ _ | refine blk_drew ?_ | refine blk_alloc ?_ _)); refine blk_put (cs := #[.int .u32 t124, .int .u8 0]) ?_ 1 _ rfl; (with_reducible repeat (first | refine blk_drewN ?_ _ | refine blk_drew ?_ | refine blk_alloc ?_ _)); refine blk_put (cs := #[.int .u32 0, .int .u8 0]) ?_ 0 _ rfl; (with_reducible repeat (first | refine blk_drewN ?_ _ | refine blk_drew ?_ | refine blk_alloc ?_ _)); exact BK126.out) hb); have n1_ := Aside0.mk (below_step (by repeat (first | (with_reducible first | exact HB.out | apply below_alloc | apply pw_below_drewN | apply below_drew1 | refine below_set ?_ GE126.out) | exact HB.out)) hb); clear BK126; clear HB; have BK126 := n0_; have HB := n1_; clear n0_ n1_; (try clear hb); (try clear hb2); (try clear hk); (try clear hi)) | ((with_reducible refine gate_callee (f := 22) rfl ?_); refine goesL_ (some 16) rfl rfl Tryd.func22 (by kernel_rfl) rfl #[.string t127] rfl (by (try simp only [List.map_toArray, List.map_cons, List.map_nil]); first | done | rfl | (simp only [List.length_drop, List.length_take]; rfl) | (simp; done) | (refine qa_arr ?_; (repeat' (first | rfl | refine qa_cons ?_ ?_ | refine qa_int ?_ | refine qa_agg ?_ | refine qa_arr ?_ | omega)); done)) ?_; (with_reducible refine (prefix_Parse.calls t127 t128 t129 t130 _ A5.out).mono ?_); rintro e w15 ⟨rfl, hb⟩; refine ⟨_, rfl, ?_⟩; have n0_ := Aside0.mk (blk_below (g := gb126) (o := .cells #[.int .u32 t124, .int .u8 t125] 24 (0, 0)) (by (with_reducible repeat (first | refine blk_drewN ?_ _ | refine blk_drew ?_ | refine blk_alloc ?_ _)); exact BK126.out) hb); have n1_ := Aside0.mk (below_step (by repeat (first | (with_reducible first | exact HB.out | apply below_alloc | apply pw_below_drewN | apply below_drew1 | refine below_set ?_ GE126.out) | exact HB.out)) hb); clear BK126; clear HB; have BK126 := n0_; have HB := n1_; clear n0_ n1_; (try clear hb); (try clear hb2); (try clear hk); (try clear hi)) | ((with_reducible refine gate_dst (N := 7) rfl ?_); refine box_event ?hg (N := 7) ?hd (cs := #[.int .u32 0, .int .u8 0]) (t := 24) ?hr ?_; (case hd => rfl); (case hg => rfl); (case hr => first | (go_simp; done) | (go_simp; rfl)); intro gb131 hg w16 hbox hb; have n0_ := Aside0.mk (blk_below (g := gb126) (o := .cells #[.int .u32 t124, .int .u8 t125] 24 (0, 0)) (by (with_reducible repeat (first | refine blk_drewN ?_ _ | refine blk_drew ?_ | refine blk_alloc ?_ _)); exact BK126.out) hb); have n1_ := Aside0.mk (below_step (by repeat (first | (with_reducible first | exact HB.out | apply below_alloc | apply pw_below_drewN | apply below_drew1 | refine below_set ?_ GE126.out) | exact HB.out)) hb); have n2_ := Aside0.mk (hbox); have n3_ := Aside0.mk ((by rw [hg]; exact (below_size (by repeat (first | (with_reducible first | exact HB.out | apply below_alloc | apply pw_below_drewN | apply below_drew1 | refine below_set ?_ GE126.out) | exact HB.out))) : w.heap.size ≤ gb131)); have n4_ := Aside0.mk ((by rw [hg]; exact (below_size (by repeat (first | (with_reducible first | exact HB.out | apply below_alloc | apply pw_below_drewN | apply below_drew1 | refine below_set ?_ GE126.out) | exact HB.out))) : w.heap.size ≤ gb131)); have n5_ := Aside0.mk ((by rw [hg]; exact Nat.ne_of_lt (blk_lt (g := gb126) (o := .cells #[.int .u32 t124, .int .u8 t125] 24 (0, 0)) (by (with_reducible repeat (first | refine blk_drewN ?_ _ | refine blk_drew ?_ | refine blk_alloc ?_ _)); exact BK126.out)) : gb126 ≠ gb131)); have n6_ := Aside0.mk ((by rw [hg]; exact Nat.ne_of_gt (blk_lt (g := gb126) (o := .cells #[.int .u32 t124, .int .u8 t125] 24 (0, 0)) (by (with_reducible repeat (first | refine blk_drewN ?_ _ | refine blk_drew ?_ | refine blk_alloc ?_ _)); exact BK126.out)) : gb131 ≠ gb126)); clear BK126; clear HB; have BK126 := n0_; have HB := n1_; have BK131 := n2_; have GW131 := n3_; have GE131 := n4_; have NB126_131 := n5_; have NB131_126 := n6_; clear n0_ n1_ n2_ n3_ n4_ n5_ n6_; clear hb hbox hg; have hnb17 := NB131_126.out; have hnc17 := NB126_131.out; have hcz18_0 : w16.cell? ⟨gb131, 0, none⟩ = some (.int .u32 0) := (blk_cell BK131.out 0).trans rfl; have hcz18_1 : w16.cell? ⟨gb131, 1, none⟩ = some (.int .u8 0) := (blk_cell BK131.out 1).trans rfl; have hfz18_0 := blk_frozen BK131.out 0; have hfz18_1 := blk_frozen BK131.out 1) | ((with_reducible refine gate_callee (f := 11) rfl ?_); refine goesL_ (some 19) rfl rfl Tryd.func11 (by kernel_rfl) rfl #[] rfl (by (try simp only [List.map_toArray, List.map_cons, List.map_nil]); first | done | rfl | (simp only [List.length_drop, List.length_take]; rfl) | (simp; done) | (refine qa_arr ?_; (repeat' (first | rfl | refine qa_cons ?_ ?_ | refine qa_int ?_ | refine qa_agg ?_ | refine qa_arr ?_ | omega)); done)) ?_; (with_reducible refine (milestonelaw01_awake.calls k  true _ ?_ A6.out).mono ?_); (exact (strconv_Itoa.Tab.below HTB.out (by repeat (first | (with_reducible first | exact HB.out | apply below_alloc | apply pw_below_drewN | apply below_drew1 | refine below_set ?_ GE126.out | refine below_set ?_ GE131.out) | exact HB.out)))); rintro e w19 ⟨rfl, hb⟩; refine ⟨_, rfl, ?_⟩; have n0_ := Aside0.mk (blk_below (g := gb126) (o := .cells #[.int .u32 t124, .int .u8 t125] 24 (0, 0)) (by (with_reducible repeat (first | refine blk_drewN ?_ _ | refine blk_drew ?_ | refine blk_alloc ?_ _)); refine blk_far ?_ NB126_131.out _; (with_reducible repeat (first | refine blk_drewN ?_ _ | refine blk_drew ?_ | refine blk_alloc ?_ _)); refine blk_far ?_ NB126_131.out _; (with_reducible repeat (first | refine blk_drewN ?_ _ | refine blk_drew ?_ | refine blk_alloc ?_ _)); exact BK126.out) hb); have n1_ := Aside0.mk (blk_below (g := gb131) (o := .cells #[.int .u32 t128, .int .u8 t129] 24 (0, 0)) (by (with_reducible repeat (first | refine blk_drewN ?_ _ | refine blk_drew ?_ | refine blk_alloc ?_ _)); refine blk_put (cs := #[.int .u32 t128, .int .u8 0]) ?_ 1 _ rfl; (with_reducible repeat (first | refine blk_drewN ?_ _ | refine blk_drew ?_ | refine blk_alloc ?_ _)); refine blk_put (cs := #[.int .u32 0, .int .u8 0]) ?_ 0 _ rfl; (with_reducible repeat (first | refine blk_drewN ?_ _ | refine blk_drew ?_ | refine blk_alloc ?_ _)); exact BK131.out) hb); have n2_ := Aside0.mk (below_step (by repeat (first | (with_reducible first | exact HB.out | apply below_alloc | apply pw_below_drewN | apply below_drew1 | refine below_set ?_ GE126.out | refine below_set ?_ GE131.out) | exact HB.out)) hb); clear BK126; clear BK131; clear HB; have BK126 := n0_; have BK131 := n1_; have HB := n2_; clear n0_ n1_ n2_; (try clear hb); (try clear hb2); (try clear hk); (try clear hi); have hcz20_0 : w19.cell? ⟨gb126, 0, none⟩ = some (.int .u32 t124) := (blk_cell BK126.out 0).trans rfl; have hcz20_1 : w19.cell? ⟨gb126, 1, none⟩ = some (.int .u8 t125) := (blk_cell BK126.out 1).trans rfl; have hfz20_0 := blk_frozen BK126.out 0; have hfz20_1 := blk_frozen BK126.out 1) | (go_at_call 23; (with_reducible refine (milestoneref01_Text.calls k t124 t125 t133 _ A8.out).mono ?_); rintro e w21 ⟨rfl, hb⟩; have n0_ := Aside0.mk (blk_below (g := gb126) (o := .cells #[.int .u32 t124, .int .u8 t125] 24 (0, 0)) (by (with_reducible repeat (first | refine blk_drewN ?_ _ | refine blk_drew ?_ | refine blk_alloc ?_ _)); exact BK126.out) hb); have n1_ := Aside0.mk (blk_below (g := gb131) (o := .cells #[.int .u32 t128, .int .u8 t129] 24 (0, 0)) (by (with_reducible repeat (first | refine blk_drewN ?_ _ | refine blk_drew ?_ | refine blk_alloc ?_ _)); exact BK131.out) hb); have n2_ := Aside0.mk (below_step (by repeat (first | (with_reducible first | exact HB.out | apply below_alloc | apply pw_below_drewN | apply below_drew1 | refine below_set ?_ GE126.out | refine below_set ?_ GE131.out) | exact HB.out)) hb); clear BK126; clear BK131; clear HB; have BK126 := n0_; have BK131 := n1_; have HB := n2_; clear n0_ n1_ n2_; (try clear hb); (try clear hb2); (try clear hk); (try clear hi); have hcz22_0 : w21.cell? ⟨gb131, 0, none⟩ = some (.int .u32 t128) := (blk_cell BK131.out 0).trans rfl; have hcz22_1 : w21.cell? ⟨gb131, 1, none⟩ = some (.int .u8 t129) := (blk_cell BK131.out 1).trans rfl; have hfz22_0 := blk_frozen BK131.out 0; have hfz22_1 := blk_frozen BK131.out 1; have hcz23_0 : w21.cell? ⟨gb126, 0, none⟩ = some (.int .u32 t124) := (blk_cell BK126.out 0).trans rfl; have hcz23_1 : w21.cell? ⟨gb126, 1, none⟩ = some (.int .u8 t125) := (blk_cell BK126.out 1).trans rfl; have hfz23_0 := blk_frozen BK126.out 0; have hfz23_1 := blk_frozen BK126.out 1) | (go_at_call 23; (refine calls_of_args (args' := #[.agg #[.int .u32 t124, .int .u8 t125]]) ?_ ?_; focus (first | rfl | (simp; done) | (refine qa_arr ?_; (repeat' (first | rfl | refine qa_cons ?_ ?_ | refine qa_int ?_ | refine qa_agg ?_ | refine qa_arr ?_ | omega)); done)); (with_reducible refine (milestoneref01_Text.calls k t124 t125 t133 _ A8.out).mono ?_)); rintro e w21 ⟨rfl, hb⟩; have n0_ := Aside0.mk (blk_below (g := gb126) (o := .cells #[.int .u32 t124, .int .u8 t125] 24 (0, 0)) (by (with_reducible repeat (first | refine blk_drewN ?_ _ | refine blk_drew ?_ | refine blk_alloc ?_ _)); exact BK126.out) hb); have n1_ := Aside0.mk (blk_below (g := gb131) (o := .cells #[.int .u32 t128, .int .u8 t129] 24 (0, 0)) (by (with_reducible repeat (first | refine blk_drewN ?_ _ | refine blk_drew ?_ | refine blk_alloc ?_ _)); exact BK131.out) hb); have n2_ := Aside0.mk (below_step (by repeat (first | (with_reducible first | exact HB.out | apply below_alloc | apply pw_below_drewN | apply below_drew1 | refine below_set ?_ GE126.out | refine below_set ?_ GE131.out) | exact HB.out)) hb); clear BK126; clear BK131; clear HB; have BK126 := n0_; have BK131 := n1_; have HB := n2_; clear n0_ n1_ n2_; (try clear hb); (try clear hb2); (try clear hk); (try clear hi); have hcz22_0 : w21.cell? ⟨gb131, 0, none⟩ = some (.int .u32 t128) := (blk_cell BK131.out 0).trans rfl; have hcz22_1 : w21.cell? ⟨gb131, 1, none⟩ = some (.int .u8 t129) := (blk_cell BK131.out 1).trans rfl; have hfz22_0 := blk_frozen BK131.out 0; have hfz22_1 := blk_frozen BK131.out 1; have hcz23_0 : w21.cell? ⟨gb126, 0, none⟩ = some (.int .u32 t124) := (blk_cell BK126.out 0).trans rfl; have hcz23_1 : w21.cell? ⟨gb126, 1, none⟩ = some (.int .u8 t125) := (blk_cell BK126.out 1).trans rfl; have hfz23_0 := blk_frozen BK126.out 0; have hfz23_1 := blk_frozen BK126.out 1))
        go_ret
        exact ⟨by first | rfl | (simp [errW_none, errW_some] <;> rfl) | (simp [*, errW_none, errW_some] <;> rfl), by repeat (first | (with_reducible first | exact HB.out | apply below_alloc | apply pw_below_drewN | apply below_drew1 | refine below_set ?_ GE126.out | refine below_set ?_ GE131.out) | exact HB.out)⟩
      · rw [if_neg c10] at H
        have c10b0 : (t130 == 0) = false := beq_eq_false_iff_ne.mpr c10
        have c10b1 : (t130 != 0) = true := bne_iff_ne.mpr c10
        obtain rfl := Option.some.inj H
        exact absurd HT.out (by decide)
    · rw [if_neg c9] at H
      have c9b0 : (t127.toList == t133.toList) = false := beq_eq_false_iff_ne.mpr c9
      have c9b1 : (t127.toList != t133.toList) = true := bne_iff_ne.mpr c9
      obtain rfl := Option.some.inj H
      exact absurd HT.out (by decide)
  · replace c7 := Bool.eq_false_iff.mpr c7
    subst c7
    have H1 : (some false) = some r := by rw [if_neg (show ¬ (false = true) by decide)] at H; exact H
    clear H
    have H := H1
    clear H1
    obtain rfl := Option.some.inj H
    exact absurd HT.out (by decide)

/-- THE ONE PURE STATEMENT of milestonelaw01_PrefixTexts: yours. -/
def milestonelaw01_PrefixTexts.Pure : Prop := ∀ (a0 : Int) (a1 : Int), (Lit.int .u32 a0).wf = true → (Lit.int .u8 a1).wf = true → ∃ k, milestonelaw01_PrefixTexts.f k a0 a1 = some true
theorem milestonelaw01_PrefixTexts.walk (P : milestonelaw01_PrefixTexts.Pure) (a0 : Int) (a1 : Int) (w : World) (ht : strconv_Itoa.Tab w) (w0 : (Lit.int .u32 a0).wf = true) (w1 : (Lit.int .u8 a1).wf = true) :
    Calls Tryd.prog 7 #[.int .u32 a0, .int .u8 a1] w fun e w' => e = .returned (.bool true) ∧ Below w.heap.size w w' := by
  obtain ⟨k, h⟩ := P a0 a1 w0 w1
  refine (milestonelaw01_PrefixTexts.calls k a0 a1 true w ht h rfl).mono ?_
  rintro e w' ⟨rfl, hd⟩
  exact ⟨rfl, hd⟩

end Go.Proofs.YtfjdijphpcddnaaDoor.QPrefixTexts
