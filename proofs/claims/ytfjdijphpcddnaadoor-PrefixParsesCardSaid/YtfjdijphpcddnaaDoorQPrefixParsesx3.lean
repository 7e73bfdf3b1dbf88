-- Lines by a program of this session, for this claim.
import Derived.Test.YtfjdijphpcddnaaDoorQPrefixParsesx0
import Derived.Test.YtfjdijphpcddnaaDoorQPrefixParsesx1
import Derived.Test.YtfjdijphpcddnaaDoorQPrefixParsesx2
namespace Go.Proofs.YtfjdijphpcddnaaDoor.QPrefixParses
open Go.RowKit Go.Proofs.YtfjdijphpcddnaaDoorW.PrintWords Go.Proofs.YtfjdijphpcddnaaDoorW.PrintLast Go.Proofs.YtfjdijphpcddnaaDoorW.PrintMore
attribute [local go_sem] max2_int min2_int max_two min_two max_three min_three max_four min_four   -- for this text's walks alone
set_option linter.unusedVariables false
set_option linter.unusedSimpArgs false

/-! ### milestoneref01_Text: function 23 -/
def milestoneref01_Text.f (k : Nat) (a0_0 : Int) (a0_1 : Int) : Option (ByteArray) := (milestoneref01_num.f k ((Int.tdiv a0_0 16777216) % 4294967296)).bind fun t121 => (if t121.size + 1 ≤ 9223372036854775807 then ((milestoneref01_num.f k (Int.tmod (IntKind.u32.wrap (Int.tdiv a0_0 65536)) 256)).bind fun t122 => (if (t121 ++ (⟨#[46]⟩ : ByteArray)).size + t122.size ≤ 9223372036854775807 then (if ((t121 ++ (⟨#[46]⟩ : ByteArray)) ++ t122).size + 1 ≤ 9223372036854775807 then ((milestoneref01_num.f k (Int.tmod (IntKind.u32.wrap (Int.tdiv a0_0 256)) 256)).bind fun t123 => (if (((t121 ++ (⟨#[46]⟩ : ByteArray)) ++ t122) ++ (⟨#[46]⟩ : ByteArray)).size + t123.size ≤ 9223372036854775807 then (if ((((t121 ++ (⟨#[46]⟩ : ByteArray)) ++ t122) ++ (⟨#[46]⟩ : ByteArray)) ++ t123).size + 1 ≤ 9223372036854775807 then ((milestoneref01_num.f k (Int.tmod a0_0 256)).bind fun t124 => (if (((((t121 ++ (⟨#[46]⟩ : ByteArray)) ++ t122) ++ (⟨#[46]⟩ : ByteArray)) ++ t123) ++ (⟨#[46]⟩ : ByteArray)).size + t124.size ≤ 9223372036854775807 then (if ((((((t121 ++ (⟨#[46]⟩ : ByteArray)) ++ t122) ++ (⟨#[46]⟩ : ByteArray)) ++ t123) ++ (⟨#[46]⟩ : ByteArray)) ++ t124).size + 1 ≤ 9223372036854775807 then ((milestoneref01_num.f k ((a0_1) % 4294967296)).bind fun t125 => (if (((((((t121 ++ (⟨#[46]⟩ : ByteArray)) ++ t122) ++ (⟨#[46]⟩ : ByteArray)) ++ t123) ++ (⟨#[46]⟩ : ByteArray)) ++ t124) ++ (⟨#[47]⟩ : ByteArray)).size + t125.size ≤ 9223372036854775807 then (some ((((((((t121 ++ (⟨#[46]⟩ : ByteArray)) ++ t122) ++ (⟨#[46]⟩ : ByteArray)) ++ t123) ++ (⟨#[46]⟩ : ByteArray)) ++ t124) ++ (⟨#[47]⟩ : ByteArray)) ++ t125)) else (none))) else (none)) else (none))) else (none)) else (none))) else (none)) else (none))) else (none))
theorem milestoneref01_Text.mono : ∀ a0 a1 k, LeO (milestoneref01_Text.f k a0 a1) (milestoneref01_Text.f (k + 1) a0 a1) := by
  intro a0 a1 k
  unfold milestoneref01_Text.f
  repeat' first
      | (with_reducible exact milestoneref01_num.mono _ _)
      | (with_reducible exact LeO.refl _)
      | (with_reducible exact LeO.none _)
      | (with_reducible refine LeO.ite ?_ ?_)
      | (with_reducible refine LeO.bind ?_ (fun _ => ?_))
      | exact milestoneref01_num.mono _ _
      | exact LeO.none _
      | refine LeO.ite ?_ ?_
      | refine LeO.bind ?_ (fun _ => ?_)
def milestoneref01_Text.T1 : Bool × List (List Nat × List Nat) := (true, [([], []), ([0], [0]), ([1], [1]), ([2], [2]), ([3], [3]), ([], []), ([5], [5]), ([6], [6]), ([7], [7]), ([8, 3], [8]), ([4, 9], [4, 9]), ([10], [10]), ([], []), ([12], [12]), ([13], [13]), ([14], [14]), ([15, 9], [15]), ([11, 16], [11, 16]), ([17], [17]), ([], []), ([19], [19]), ([20], [20]), ([21, 16], [21]), ([18, 22], [18, 22]), ([23], [23]), ([], []), ([25], [25]), ([26], [26]), ([27, 22], [27]), ([24, 28], [24, 28]), ([29, 28, 0, 1, 2, 3, 4, 5, 6, 7, 8, 9, 10, 11, 12, 13, 14, 15, 16, 17, 18, 19, 20, 21, 22, 23, 24, 25, 26, 27, 28, 29], [29])])
def milestoneref01_Text.B1 : List Nat := [0, 1, 3, 7, 15, 0, 32, 96, 224, 495, 1023, 2047, 0, 4096, 12288, 28672, 62447, 131071, 262143, 0, 524288, 1572864, 3797999, 8388607, 16777215, 0, 33554432, 100663296, 242873327, 536870911, 1073741823]
theorem milestoneref01_Text.tab1 : rtab .any (opsOf Tryd.f23 1) = milestoneref01_Text.T1 := by kernel_rfl
theorem milestoneref01_Text.bits1 : waitsOk milestoneref01_Text.T1.2 milestoneref01_Text.B1 = true := by kernel_rfl
set_option maxHeartbeats 8000000 in
set_option maxRecDepth 100000 in
theorem milestoneref01_Text.calls (k : Nat) (a0_0 : Int) (a0_1 : Int) (r : ByteArray) (w : World) (h : milestoneref01_Text.f k a0_0 a0_1 = some r) :
    Calls Tryd.prog 23 #[.agg #[.int .u32 a0_0, .int .u8 a0_1]] w fun e w' => e = .returned (.string r) ∧ Below w.heap.size w w' := by
  have hu24 := Tryd.underlying24
  have HB := Aside0.mk (Below.refl w.heap.size w)
  have H : ((milestoneref01_num.f k ((Int.tdiv a0_0 16777216) % 4294967296)).bind fun t121 => (if t121.size + 1 ≤ 9223372036854775807 then ((milestoneref01_num.f k (Int.tmod (IntKind.u32.wrap (Int.tdiv a0_0 65536)) 256)).bind fun t122 => (if (t121 ++ (⟨#[46]⟩ : ByteArray)).size + t122.size ≤ 9223372036854775807 then (if ((t121 ++ (⟨#[46]⟩ : ByteArray)) ++ t122).size + 1 ≤ 9223372036854775807 then ((milestoneref01_num.f k (Int.tmod (IntKind.u32.wrap (Int.tdiv a0_0 256)) 256)).bind fun t123 => (if (((t121 ++ (⟨#[46]⟩ : ByteArray)) ++ t122) ++ (⟨#[46]⟩ : ByteArray)).size + t123.size ≤ 9223372036854775807 then (if ((((t121 ++ (⟨#[46]⟩ : ByteArray)) ++ t122) ++ (⟨#[46]⟩ : ByteArray)) ++ t123).size + 1 ≤ 9223372036854775807 then ((milestoneref01_num.f k (Int.tmod a0_0 256)).bind fun t124 => (if (((((t121 ++ (⟨#[46]⟩ : ByteArray)) ++ t122) ++ (⟨#[46]⟩ : ByteArray)) ++ t123) ++ (⟨#[46]⟩ : ByteArray)).size + t124.size ≤ 9223372036854775807 then (if ((((((t121 ++ (⟨#[46]⟩ : ByteArray)) ++ t122) ++ (⟨#[46]⟩ : ByteArray)) ++ t123) ++ (⟨#[46]⟩ : ByteArray)) ++ t124).size + 1 ≤ 9223372036854775807 then ((milestoneref01_num.f k ((a0_1) % 4294967296)).bind fun t125 => (if (((((((t121 ++ (⟨#[46]⟩ : ByteArray)) ++ t122) ++ (⟨#[46]⟩ : ByteArray)) ++ t123) ++ (⟨#[46]⟩ : ByteArray)) ++ t124) ++ (⟨#[47]⟩ : ByteArray)).size + t125.size ≤ 9223372036854775807 then (some ((((((((t121 ++ (⟨#[46]⟩ : ByteArray)) ++ t122) ++ (⟨#[46]⟩ : ByteArray)) ++ t123) ++ (⟨#[46]⟩ : ByteArray)) ++ t124) ++ (⟨#[47]⟩ : ByteArray)) ++ t125)) else (none))) else (none)) else (none))) else (none)) else (none))) else (none)) else (none))) else (none))) = some r := h
  clear h
  replace H := Option.bind_eq_some_iff.mp H
  obtain ⟨t121, A20, H⟩ := H
  replace H : (if t121.size + 1 ≤ 9223372036854775807 then ((milestoneref01_num.f k (Int.tmod (IntKind.u32.wrap (Int.tdiv a0_0 65536)) 256)).bind fun t122 => (if (t121 ++ (⟨#[46]⟩ : ByteArray)).size + t122.size ≤ 9223372036854775807 then (if ((t121 ++ (⟨#[46]⟩ : ByteArray)) ++ t122).size + 1 ≤ 9223372036854775807 then ((milestoneref01_num.f k (Int.tmod (IntKind.u32.wrap (Int.tdiv a0_0 256)) 256)).bind fun t123 => (if (((t121 ++ (⟨#[46]⟩ : ByteArray)) ++ t122) ++ (⟨#[46]⟩ : ByteArray)).size + t123.size ≤ 9223372036854775807 then (if ((((t121 ++ (⟨#[46]⟩ : ByteArray)) ++ t122) ++ (⟨#[46]⟩ : ByteArray)) ++ t123).size + 1 ≤ 9223372036854775807 then ((milestoneref01_num.f k (Int.tmod a0_0 256)).bind fun t124 => (if (((((t121 ++ (⟨#[46]⟩ : ByteArray)) ++ t122) ++ (⟨#[46]⟩ : ByteArray)) ++ t123) ++ (⟨#[46]⟩ : ByteArray)).size + t124.size ≤ 9223372036854775807 then (if ((((((t121 ++ (⟨#[46]⟩ : ByteArray)) ++ t122) ++ (⟨#[46]⟩ : ByteArray)) ++ t123) ++ (⟨#[46]⟩ : ByteArray)) ++ t124).size + 1 ≤ 9223372036854775807 then ((milestoneref01_num.f k ((a0_1) % 4294967296)).bind fun t125 => (if (((((((t121 ++ (⟨#[46]⟩ : ByteArray)) ++ t122) ++ (⟨#[46]⟩ : ByteArray)) ++ t123) ++ (⟨#[46]⟩ : ByteArray)) ++ t124) ++ (⟨#[47]⟩ : ByteArray)).size + t125.size ≤ 9223372036854775807 then (some ((((((((t121 ++ (⟨#[46]⟩ : ByteArray)) ++ t122) ++ (⟨#[46]⟩ : ByteArray)) ++ t123) ++ (⟨#[46]⟩ : ByteArray)) ++ t124) ++ (⟨#[47]⟩ : ByteArray)) ++ t125)) else (none))) else (none)) else (none))) else (none)) else (none))) else (none)) else (none))) else (none)) = some r := H
  have A2 := Aside0.mk A20
  clear A20
  by_cases c3 : t121.size + 1 ≤ 9223372036854775807
  · rw [if_pos c3] at H
    have c3b0 := eq_true c3
    have c3b1 : decide (t121.size + 1 ≤ 9223372036854775807) = true := decide_eq_true c3
    try have c3b2 : (9223372036854775807 < t121.size + 1) = False := eq_false (Nat.not_lt.2 c3)
    replace H := Option.bind_eq_some_iff.mp H
    obtain ⟨t122, A40, H⟩ := H
    replace H : (if (t121 ++ (⟨#[46]⟩ : ByteArray)).size + t122.size ≤ 9223372036854775807 then (if ((t121 ++ (⟨#[46]⟩ : ByteArray)) ++ t122).size + 1 ≤ 9223372036854775807 then ((milestoneref01_num.f k (Int.tmod (IntKind.u32.wrap (Int.tdiv a0_0 256)) 256)).bind fun t123 => (if (((t121 ++ (⟨#[46]⟩ : ByteArray)) ++ t122) ++ (⟨#[46]⟩ : ByteArray)).size + t123.size ≤ 9223372036854775807 then (if ((((t121 ++ (⟨#[46]⟩ : ByteArray)) ++ t122) ++ (⟨#[46]⟩ : ByteArray)) ++ t123).size + 1 ≤ 9223372036854775807 then ((milestoneref01_num.f k (Int.tmod a0_0 256)).bind fun t124 => (if (((((t121 ++ (⟨#[46]⟩ : ByteArray)) ++ t122) ++ (⟨#[46]⟩ : ByteArray)) ++ t123) ++ (⟨#[46]⟩ : ByteArray)).size + t124.size ≤ 9223372036854775807 then (if ((((((t121 ++ (⟨#[46]⟩ : ByteArray)) ++ t122) ++ (⟨#[46]⟩ : ByteArray)) ++ t123) ++ (⟨#[46]⟩ : ByteArray)) ++ t124).size + 1 ≤ 9223372036854775807 then ((milestoneref01_num.f k ((a0_1) % 4294967296)).bind fun t125 => (if (((((((t121 ++ (⟨#[46]⟩ : ByteArray)) ++ t122) ++ (⟨#[46]⟩ : ByteArray)) ++ t123) ++ (⟨#[46]⟩ : ByteArray)) ++ t124) ++ (⟨#[47]⟩ : ByteArray)).size + t125.size ≤ 9223372036854775807 then (some ((((((((t121 ++ (⟨#[46]⟩ : ByteArray)) ++ t122) ++ (⟨#[46]⟩ : ByteArray)) ++ t123) ++ (⟨#[46]⟩ : ByteArray)) ++ t124) ++ (⟨#[47]⟩ : ByteArray)) ++ t125)) else (none))) else (none)) else (none))) else (none)) else (none))) else (none)) else (none)) = some r := H
    have A4 := Aside0.mk A40
    clear A40
    by_cases c5 : (t121 ++ (⟨#[46]⟩ : ByteArray)).size + t122.size ≤ 9223372036854775807
    · rw [if_pos c5] at H
      have c5b0 := eq_true c5
      have c5b1 : decide ((t121 ++ (⟨#[46]⟩ : ByteArray)).size + t122.size ≤ 9223372036854775807) = true := decide_eq_true c5
      try have c5b2 : (9223372036854775807 < (t121 ++ (⟨#[46]⟩ : ByteArray)).size + t122.size) = False := eq_false (Nat.not_lt.2 c5)
      try simp only [ByteArray.size_append, show (⟨#[46]⟩ : ByteArray).size = 1 from rfl, show (⟨#[47]⟩ : ByteArray).size = 1 from rfl] at c5b2
      by_cases c6 : ((t121 ++ (⟨#[46]⟩ : ByteArray)) ++ t122).size + 1 ≤ 9223372036854775807
      · rw [if_pos c6] at H
        have c6b0 := eq_true c6
        have c6b1 : decide (((t121 ++ (⟨#[46]⟩ : ByteArray)) ++ t122).size + 1 ≤ 9223372036854775807) = true := decide_eq_true c6
        try have c6b2 : (9223372036854775807 < ((t121 ++ (⟨#[46]⟩ : ByteArray)) ++ t122).size + 1) = False := eq_false (Nat.not_lt.2 c6)
        try simp only [ByteArray.size_append, show (⟨#[46]⟩ : ByteArray).size = 1 from rfl, show (⟨#[47]⟩ : ByteArray).size = 1 from rfl] at c6b2
        replace H := Option.bind_eq_some_iff.mp H
        obtain ⟨t123, A70, H⟩ := H
        replace H : (if (((t121 ++ (⟨#[46]⟩ : ByteArray)) ++ t122) ++ (⟨#[46]⟩ : ByteArray)).size + t123.size ≤ 9223372036854775807 then (if ((((t121 ++ (⟨#[46]⟩ : ByteArray)) ++ t122) ++ (⟨#[46]⟩ : ByteArray)) ++ t123).size + 1 ≤ 9223372036854775807 then ((milestoneref01_num.f k (Int.tmod a0_0 256)).bind fun t124 => (if (((((t121 ++ (⟨#[46]⟩ : ByteArray)) ++ t122) ++ (⟨#[46]⟩ : ByteArray)) ++ t123) ++ (⟨#[46]⟩ : ByteArray)).size + t124.size ≤ 9223372036854775807 then (if ((((((t121 ++ (⟨#[46]⟩ : ByteArray)) ++ t122) ++ (⟨#[46]⟩ : ByteArray)) ++ t123) ++ (⟨#[46]⟩ : ByteArray)) ++ t124).size + 1 ≤ 9223372036854775807 then ((milestoneref01_num.f k ((a0_1) % 4294967296)).bind fun t125 => (if (((((((t121 ++ (⟨#[46]⟩ : ByteArray)) ++ t122) ++ (⟨#[46]⟩ : ByteArray)) ++ t123) ++ (⟨#[46]⟩ : ByteArray)) ++ t124) ++ (⟨#[47]⟩ : ByteArray)).size + t125.size ≤ 9223372036854775807 then (some ((((((((t121 ++ (⟨#[46]⟩ : ByteArray)) ++ t122) ++ (⟨#[46]⟩ : ByteArray)) ++ t123) ++ (⟨#[46]⟩ : ByteArray)) ++ t124) ++ (⟨#[47]⟩ : ByteArray)) ++ t125)) else (none))) else (none)) else (none))) else (none)) else (none)) = some r := H
        have A7 := Aside0.mk A70
        clear A70
        by_cases c8 : (((t121 ++ (⟨#[46]⟩ : ByteArray)) ++ t122) ++ (⟨#[46]⟩ : ByteArray)).size + t123.size ≤ 9223372036854775807
        · rw [if_pos c8] at H
          have c8b0 := eq_true c8
          have c8b1 : decide ((((t121 ++ (⟨#[46]⟩ : ByteArray)) ++ t122) ++ (⟨#[46]⟩ : ByteArray)).size + t123.size ≤ 9223372036854775807) = true := decide_eq_true c8
          try have c8b2 : (9223372036854775807 < (((t121 ++ (⟨#[46]⟩ : ByteArray)) ++ t122) ++ (⟨#[46]⟩ : ByteArray)).size + t123.size) = False := eq_false (Nat.not_lt.2 c8)
          try simp only [ByteArray.size_append, show (⟨#[46]⟩ : ByteArray).size = 1 from rfl, show (⟨#[47]⟩ : ByteArray).size = 1 from rfl] at c8b2
          by_cases c9 : ((((t121 ++ (⟨#[46]⟩ : ByteArray)) ++ t122) ++ (⟨#[46]⟩ : ByteArray)) ++ t123).size + 1 ≤ 9223372036854775807
          · rw [if_pos c9] at H
            have c9b0 := eq_true c9
            have c9b1 : decide (((((t121 ++ (⟨#[46]⟩ : ByteArray)) ++ t122) ++ (⟨#[46]⟩ : ByteArray)) ++ t123).size + 1 ≤ 9223372036854775807) = true := decide_eq_true c9
            try have c9b2 : (9223372036854775807 < ((((t121 ++ (⟨#[46]⟩ : ByteArray)) ++ t122) ++ (⟨#[46]⟩ : ByteArray)) ++ t123).size + 1) = False := eq_false (Nat.not_lt.2 c9)
            try simp only [ByteArray.size_append, show (⟨#[46]⟩ : ByteArray).size = 1 from rfl, show (⟨#[47]⟩ : ByteArray).size = 1 from rfl] at c9b2
            replace H := Option.bind_eq_some_iff.mp H
            obtain ⟨t124, A100, H⟩ := H
            replace H : (if (((((t121 ++ (⟨#[46]⟩ : ByteArray)) ++ t122) ++ (⟨#[46]⟩ : ByteArray)) ++ t123) ++ (⟨#[46]⟩ : ByteArray)).size + t124.size ≤ 9223372036854775807 then (if ((((((t121 ++ (⟨#[46]⟩ : ByteArray)) ++ t122) ++ (⟨#[46]⟩ : ByteArray)) ++ t123) ++ (⟨#[46]⟩ : ByteArray)) ++ t124).size + 1 ≤ 9223372036854775807 then ((milestoneref01_num.f k ((a0_1) % 4294967296)).bind fun t125 => (if (((((((t121 ++ (⟨#[46]⟩ : ByteArray)) ++ t122) ++ (⟨#[46]⟩ : ByteArray)) ++ t123) ++ (⟨#[46]⟩ : ByteArray)) ++ t124) ++ (⟨#[47]⟩ : ByteArray)).size + t125.size ≤ 9223372036854775807 then (some ((((((((t121 ++ (⟨#[46]⟩ : ByteArray)) ++ t122) ++ (⟨#[46]⟩ : ByteArray)) ++ t123) ++ (⟨#[46]⟩ : ByteArray)) ++ t124) ++ (⟨#[47]⟩ : ByteArray)) ++ t125)) else (none))) else (none)) else (none)) = some r := H
            have A10 := Aside0.mk A100
            clear A100
            by_cases c11 : (((((t121 ++ (⟨#[46]⟩ : ByteArray)) ++ t122) ++ (⟨#[46]⟩ : ByteArray)) ++ t123) ++ (⟨#[46]⟩ : ByteArray)).size + t124.size ≤ 9223372036854775807
            · rw [if_pos c11] at H
              have c11b0 := eq_true c11
              have c11b1 : decide ((((((t121 ++ (⟨#[46]⟩ : ByteArray)) ++ t122) ++ (⟨#[46]⟩ : ByteArray)) ++ t123) ++ (⟨#[46]⟩ : ByteArray)).size + t124.size ≤ 9223372036854775807) = true := decide_eq_true c11
              try have c11b2 : (9223372036854775807 < (((((t121 ++ (⟨#[46]⟩ : ByteArray)) ++ t122) ++ (⟨#[46]⟩ : ByteArray)) ++ t123) ++ (⟨#[46]⟩ : ByteArray)).size + t124.size) = False := eq_false (Nat.not_lt.2 c11)
              try simp only [ByteArray.size_append, show (⟨#[46]⟩ : ByteArray).size = 1 from rfl, show (⟨#[47]⟩ : ByteArray).size = 1 from rfl] at c11b2
              by_cases c12 : ((((((t121 ++ (⟨#[46]⟩ : ByteArray)) ++ t122) ++ (⟨#[46]⟩ : ByteArray)) ++ t123) ++ (⟨#[46]⟩ : ByteArray)) ++ t124).size + 1 ≤ 9223372036854775807
              · rw [if_pos c12] at H
                have c12b0 := eq_true c12
                have c12b1 : decide (((((((t121 ++ (⟨#[46]⟩ : ByteArray)) ++ t122) ++ (⟨#[46]⟩ : ByteArray)) ++ t123) ++ (⟨#[46]⟩ : ByteArray)) ++ t124).size + 1 ≤ 9223372036854775807) = true := decide_eq_true c12
                try have c12b2 : (9223372036854775807 < ((((((t121 ++ (⟨#[46]⟩ : ByteArray)) ++ t122) ++ (⟨#[46]⟩ : ByteArray)) ++ t123) ++ (⟨#[46]⟩ : ByteArray)) ++ t124).size + 1) = False := eq_false (Nat.not_lt.2 c12)
                try simp only [ByteArray.size_append, show (⟨#[46]⟩ : ByteArray).size = 1 from rfl, show (⟨#[47]⟩ : ByteArray).size = 1 from rfl] at c12b2
                replace H := Option.bind_eq_some_iff.mp H
                obtain ⟨t125, A130, H⟩ := H
                replace H : (if (((((((t121 ++ (⟨#[46]⟩ : ByteArray)) ++ t122) ++ (⟨#[46]⟩ : ByteArray)) ++ t123) ++ (⟨#[46]⟩ : ByteArray)) ++ t124) ++ (⟨#[47]⟩ : ByteArray)).size + t125.size ≤ 9223372036854775807 then (some ((((((((t121 ++ (⟨#[46]⟩ : ByteArray)) ++ t122) ++ (⟨#[46]⟩ : ByteArray)) ++ t123) ++ (⟨#[46]⟩ : ByteArray)) ++ t124) ++ (⟨#[47]⟩ : ByteArray)) ++ t125)) else (none)) = some r := H
                have A13 := Aside0.mk A130
                clear A130
                by_cases c14 : (((((((t121 ++ (⟨#[46]⟩ : ByteArray)) ++ t122) ++ (⟨#[46]⟩ : ByteArray)) ++ t123) ++ (⟨#[46]⟩ : ByteArray)) ++ t124) ++ (⟨#[47]⟩ : ByteArray)).size + t125.size ≤ 9223372036854775807
                · rw [if_pos c14] at H
                  have c14b0 := eq_true c14
                  have c14b1 : decide ((((((((t121 ++ (⟨#[46]⟩ : ByteArray)) ++ t122) ++ (⟨#[46]⟩ : ByteArray)) ++ t123) ++ (⟨#[46]⟩ : ByteArray)) ++ t124) ++ (⟨#[47]⟩ : ByteArray)).size + t125.size ≤ 9223372036854775807) = true := decide_eq_true c14
                  try have c14b2 : (9223372036854775807 < (((((((t121 ++ (⟨#[46]⟩ : ByteArray)) ++ t122) ++ (⟨#[46]⟩ : ByteArray)) ++ t123) ++ (⟨#[46]⟩ : ByteArray)) ++ t124) ++ (⟨#[47]⟩ : ByteArray)).size + t125.size) = False := eq_false (Nat.not_lt.2 c14)
                  try simp only [ByteArray.size_append, show (⟨#[46]⟩ : ByteArray).size = 1 from rfl, show (⟨#[47]⟩ : ByteArray).size = 1 from rfl] at c14b2
                  obtain rfl := Option.some.inj H
                  simp only [Option.some.injEq, Prod.mk.injEq] at H
                  obtain ⟨rfl⟩ := H
                  go_enter Tryd.func23, Tryd.ntmps23
                  try go_wp2_with (first | ((with_reducible refine gate_dst (N := 1) rfl ?_); refine box_event ?hg (N := 1) ?hd (cs := #[.int .u32 a0_0, .int .u8 a0_1]) (t := 24) ?hr ?_; (case hd => rfl); (case hg => rfl); (case hr => first | (go_simp; done) | (go_simp; rfl)); intro gb120 hg w15 hbox hb; have n0_ := Aside0.mk (below_step (by repeat (first | (with_reducible first | exact HB.out | apply below_alloc | apply pw_below_drewN | apply below_drew1) | exact HB.out)) hb); have n1_ := Aside0.mk (hbox); have n2_ := Aside0.mk ((by rw [hg]; exact (below_size (by repeat (first | (with_reducible first | exact HB.out | apply below_alloc | apply pw_below_drewN | apply below_drew1) | exact HB.out))) : w.heap.size ≤ gb120)); have n3_ := Aside0.mk ((by rw [hg]; exact (below_size (by repeat (first | (with_reducible first | exact HB.out | apply below_alloc | apply pw_below_drewN | apply below_drew1) | exact HB.out))) : w.heap.size ≤ gb120)); clear HB; have HB := n0_; have BK120 := n1_; have GW120 := n2_; have GE120 := n3_; clear n0_ n1_ n2_ n3_; clear hb hbox hg))
                  have n0_ := Aside0.mk (blk_drew BK120.out)
                  have n1_ := Aside0.mk (below_drew1 HB.out)
                  clear BK120
                  clear HB
                  have BK120 := n0_
                  have HB := n1_
                  clear n0_ n1_
                  refine start_ (n := 31) (S := fun w' => w'.cell? ⟨gb120, 0, none⟩ = some (.int .u32 a0_0) ∧ w'.cell? ⟨gb120, 1, none⟩ = some (.int .u8 a0_1)) (ds := []) #[false, false, false, false, false, false, false, false, false, false, false, false, false, false, false, false, false, false, false, false, false, false, false, false, false, false, false, false, false, false, false] (by kernel_rfl) rfl rfl ⟨(blk_cell BK120.out 0).trans rfl, (blk_cell BK120.out 1).trans rfl⟩ (fun hHeld => ?_); refine with_tabW milestoneref01_Text.tab1 milestoneref01_Text.bits1 (fun HT_ HW_ => ?_)
                  generalize w15.drew = w16 at BK120 HB hHeld ⊢
                  refine pure_ (i := 0) (N := some 3) (v := ?_) (a' := ?_) #[true, false, false, false, false, false, false, false, false, false, false, false, false, false, false, false, false, false, false, false, false, false, false, false, false, false, false, false, false, false, false] rfl rfl (any_of HT_.out (by kernel_rfl)) (fun _ _ _ h => h) (Or.inl ⟨by rfl, ?_⟩) ?_ ?_
                  rotate_left
                  · intro w'
                    go_simp
                    with_reducible rfl
                  rotate_left
                  · simp only [Act.put, List.setIfInBounds_toArray, List.set_cons_zero, List.set_cons_succ, i64_w, i32_w]
                    rfl
                  refine pure_ (i := 5) (N := some 8) (v := ?_) (a' := ?_) #[true, false, false, false, false, true, false, false, false, false, false, false, false, false, false, false, false, false, false, false, false, false, false, false, false, false, false, false, false, false, false] rfl rfl (any_of HT_.out (by kernel_rfl)) (fun _ _ _ h => h) (Or.inl ⟨by rfl, ?_⟩) ?_ ?_
                  rotate_left
                  · intro w'
                    go_simp
                    with_reducible rfl
                  rotate_left
                  · simp only [Act.put, List.setIfInBounds_toArray, List.set_cons_zero, List.set_cons_succ, i64_w, i32_w]
                    rfl
                  refine pure_ (i := 12) (N := some 15) (v := ?_) (a' := ?_) #[true, false, false, false, false, true, false, false, false, false, false, false, true, false, false, false, false, false, false, false, false, false, false, false, false, false, false, false, false, false, false] rfl rfl (any_of HT_.out (by kernel_rfl)) (fun _ _ _ h => h) (Or.inl ⟨by rfl, ?_⟩) ?_ ?_
                  rotate_left
                  · intro w'
                    go_simp
                    with_reducible rfl
                  rotate_left
                  · simp only [Act.put, List.setIfInBounds_toArray, List.set_cons_zero, List.set_cons_succ, i64_w, i32_w]
                    rfl
                  refine pure_ (i := 19) (N := some 22) (v := ?_) (a' := ?_) #[true, false, false, false, false, true, false, false, false, false, false, false, true, false, false, false, false, false, false, true, false, false, false, false, false, false, false, false, false, false, false] rfl rfl (any_of HT_.out (by kernel_rfl)) (fun _ _ _ h => h) (Or.inl ⟨by rfl, ?_⟩) ?_ ?_
                  rotate_left
                  · intro w'
                    go_simp
                    with_reducible rfl
                  rotate_left
                  · simp only [Act.put, List.setIfInBounds_toArray, List.set_cons_zero, List.set_cons_succ, i64_w, i32_w]
                    rfl
                  refine pure_ (i := 25) (N := some 28) (v := ?_) (a' := ?_) #[true, false, false, false, false, true, false, false, false, false, false, false, true, false, false, false, false, false, false, true, false, false, false, false, false, true, false, false, false, false, false] rfl rfl (any_of HT_.out (by kernel_rfl)) (fun _ _ _ h => h) (Or.inl ⟨by rfl, ?_⟩) ?_ ?_
                  rotate_left
                  · intro w'
                    go_simp
                    with_reducible rfl
                  rotate_left
                  · simp only [Act.put, List.setIfInBounds_toArray, List.set_cons_zero, List.set_cons_succ, i64_w, i32_w]
                    rfl
                  refine take_ (i := 1) (N := some 4) (v := ?_) (a' := ?_) #[true, true, false, false, false, true, false, false, false, false, false, false, true, false, false, false, false, false, false, true, false, false, false, false, false, true, false, false, false, false, false] rfl rfl (take_ofW HT_.out HW_.out (by kernel_rfl)) (fun _ _ _ h => h) (Or.inl ⟨by rfl, ?_⟩) hHeld ?_ ?_
                  rotate_left
                  · rintro w' ⟨s0, s1⟩
                    go_simp
                    with_reducible rfl
                  rotate_left
                  · simp only [Act.put, List.setIfInBounds_toArray, List.set_cons_zero, List.set_cons_succ, i64_w, i32_w]
                    rfl
                  refine pure_ (i := 2) (N := some 5) (v := ?_) (a' := ?_) #[true, true, true, false, false, true, false, false, false, false, false, false, true, false, false, false, false, false, false, true, false, false, false, false, false, true, false, false, false, false, false] rfl rfl (any_of HT_.out (by kernel_rfl)) (fun _ _ _ h => h) (Or.inl ⟨by rfl, ?_⟩) ?_ ?_
                  rotate_left
                  · intro w'
                    go_simp
                    with_reducible rfl
                  rotate_left
                  · simp only [Act.put, List.setIfInBounds_toArray, List.set_cons_zero, List.set_cons_succ, i64_w, i32_w]
                    rfl
                  refine take_ (i := 6) (N := some 9) (v := ?_) (a' := ?_) #[true, true, true, false, false, true, true, false, false, false, false, false, true, false, false, false, false, false, false, true, false, false, false, false, false, true, false, false, false, false, false] rfl rfl (take_ofW HT_.out HW_.out (by kernel_rfl)) (fun _ _ _ h => h) (Or.inl ⟨by rfl, ?_⟩) hHeld ?_ ?_
                  rotate_left
                  · rintro w' ⟨s0, s1⟩
                    go_simp
                    with_reducible rfl
                  rotate_left
                  · simp only [Act.put, List.setIfInBounds_toArray, List.set_cons_zero, List.set_cons_succ, i64_w, i32_w]
                    rfl
                  refine pure_ (i := 7) (N := some 10) (v := ?_) (a' := ?_) #[true, true, true, false, false, true, true, true, false, false, false, false, true, false, false, false, false, false, false, true, false, false, false, false, false, true, false, false, false, false, false] rfl rfl (any_of HT_.out (by kernel_rfl)) (fun _ _ _ h => h) (Or.inl ⟨by rfl, ?_⟩) ?_ ?_
                  rotate_left
                  · intro w'
                    go_simp
                    with_reducible rfl
                  rotate_left
                  · simp only [Act.put, List.setIfInBounds_toArray, List.set_cons_zero, List.set_cons_succ, i64_w, i32_w]
                    rfl
                  refine pure_ (i := 8) (N := some 11) (v := ?_) (a' := ?_) #[true, true, true, false, false, true, true, true, true, false, false, false, true, false, false, false, false, false, false, true, false, false, false, false, false, true, false, false, false, false, false] rfl rfl (any_of HT_.out (by kernel_rfl)) (fun _ _ _ h => h) (Or.inl ⟨by rfl, ?_⟩) ?_ ?_
                  rotate_left
                  · intro w'
                    go_simp
                    with_reducible rfl
                  rotate_left
                  · simp only [Act.put, List.setIfInBounds_toArray, List.set_cons_zero, List.set_cons_succ, i64_w, i32_w]
                    rfl
                  refine take_ (i := 13) (N := some 16) (v := ?_) (a' := ?_) #[true, true, true, false, false, true, true, true, true, false, false, false, true, true, false, false, false, false, false, true, false, false, false, false, false, true, false, false, false, false, false] rfl rfl (take_ofW HT_.out HW_.out (by kernel_rfl)) (fun _ _ _ h => h) (Or.inl ⟨by rfl, ?_⟩) hHeld ?_ ?_
                  rotate_left
                  · rintro w' ⟨s0, s1⟩
                    go_simp
                    with_reducible rfl
                  rotate_left
                  · simp only [Act.put, List.setIfInBounds_toArray, List.set_cons_zero, List.set_cons_succ, i64_w, i32_w]
                    rfl
                  refine pure_ (i := 14) (N := some 17) (v := ?_) (a' := ?_) #[true, true, true, false, false, true, true, true, true, false, false, false, true, true, true, false, false, false, false, true, false, false, false, false, false, true, false, false, false, false, false] rfl rfl (any_of HT_.out (by kernel_rfl)) (fun _ _ _ h => h) (Or.inl ⟨by rfl, ?_⟩) ?_ ?_
                  rotate_left
                  · intro w'
                    go_simp
                    with_reducible rfl
                  rotate_left
                  · simp only [Act.put, List.setIfInBounds_toArray, List.set_cons_zero, List.set_cons_succ, i64_w, i32_w]
                    rfl
                  refine pure_ (i := 15) (N := some 18) (v := ?_) (a' := ?_) #[true, true, true, false, false, true, true, true, true, false, false, false, true, true, true, true, false, false, false, true, false, false, false, false, false, true, false, false, false, false, false] rfl rfl (any_of HT_.out (by kernel_rfl)) (fun _ _ _ h => h) (Or.inl ⟨by rfl, ?_⟩) ?_ ?_
                  rotate_left
                  · intro w'
                    go_simp
                    with_reducible rfl
                  rotate_left
                  · simp only [Act.put, List.setIfInBounds_toArray, List.set_cons_zero, List.set_cons_succ, i64_w, i32_w]
                    rfl
                  refine take_ (i := 20) (N := some 23) (v := ?_) (a' := ?_) #[true, true, true, false, false, true, true, true, true, false, false, false, true, true, true, true, false, false, false, true, true, false, false, false, false, true, false, false, false, false, false] rfl rfl (take_ofW HT_.out HW_.out (by kernel_rfl)) (fun _ _ _ h => h) (Or.inl ⟨by rfl, ?_⟩) hHeld ?_ ?_
                  rotate_left
                  · rintro w' ⟨s0, s1⟩
                    go_simp
                    with_reducible rfl
                  rotate_left
                  · simp only [Act.put, List.setIfInBounds_toArray, List.set_cons_zero, List.set_cons_succ, i64_w, i32_w]
                    rfl
                  refine pure_ (i := 21) (N := some 24) (v := ?_) (a' := ?_) #[true, true, true, false, false, true, true, true, true, false, false, false, true, true, true, true, false, false, false, true, true, true, false, false, false, true, false, false, false, false, false] rfl rfl (any_of HT_.out (by kernel_rfl)) (fun _ _ _ h => h) (Or.inl ⟨by rfl, ?_⟩) ?_ ?_
                  rotate_left
                  · intro w'
                    go_simp
                    with_reducible rfl
                  rotate_left
                  · simp only [Act.put, List.setIfInBounds_toArray, List.set_cons_zero, List.set_cons_succ, i64_w, i32_w]
                    rfl
                  refine take_ (i := 26) (N := some 29) (v := ?_) (a' := ?_) #[true, true, true, false, false, true, true, true, true, false, false, false, true, true, true, true, false, false, false, true, true, true, false, false, false, true, true, false, false, false, false] rfl rfl (take_ofW HT_.out HW_.out (by kernel_rfl)) (fun _ _ _ h => h) (Or.inl ⟨by rfl, ?_⟩) hHeld ?_ ?_
                  rotate_left
                  · rintro w' ⟨s0, s1⟩
                    go_simp
                    with_reducible rfl
                  rotate_left
                  · simp only [Act.put, List.setIfInBounds_toArray, List.set_cons_zero, List.set_cons_succ, i64_w, i32_w]
                    rfl
                  refine pure_ (i := 27) (N := some 30) (v := ?_) (a' := ?_) #[true, true, true, false, false, true, true, true, true, false, false, false, true, true, true, true, false, false, false, true, true, true, false, false, false, true, true, true, false, false, false] rfl rfl (any_of HT_.out (by kernel_rfl)) (fun _ _ _ h => h) (Or.inl ⟨by rfl, ?_⟩) ?_ ?_
                  rotate_left
                  · intro w'
                    go_simp
                    with_reducible rfl
                  rotate_left
                  · simp only [Act.put, List.setIfInBounds_toArray, List.set_cons_zero, List.set_cons_succ, i64_w, i32_w]
                    rfl
                  refine one_ (i := 3) (N := some 6) #[true, true, true, true, false, true, true, true, true, false, false, false, true, true, true, true, false, false, false, true, true, true, false, false, false, true, true, true, false, false, false] rfl rfl (one_of HT_.out (by kernel_rfl)) (by decide) (fun K hK => ?_)
                  refine goes_ Tryd.func29 (by kernel_rfl) rfl #[.int .u32 ((Int.tdiv a0_0 16777216) % 4294967296)] (by rfl) rfl rfl (by (try simp only [List.map_toArray, List.map_cons, List.map_nil]); first | done | rfl | (simp only [List.length_drop, List.length_take]; rfl)) ?_
                  with_reducible refine (milestoneref01_num.calls k ((Int.tdiv a0_0 16777216) % 4294967296) t121 _ A2.out).mono ?_
                  rintro e w17 ⟨rfl, hb⟩
                  refine ⟨_, rfl, ?_⟩
                  have n0_ := Aside0.mk (blk_below (g := gb120) (o := .cells #[.int .u32 a0_0, .int .u8 a0_1] 24 (0, 0)) (by (with_reducible repeat (first | refine blk_drewN ?_ _ | refine blk_drew ?_ | refine blk_alloc ?_ _)); exact BK120.out) hb)
                  have n1_ := Aside0.mk (below_step (by repeat (first | (with_reducible first | exact HB.out | apply below_alloc | apply pw_below_drewN | apply below_drew1 | refine below_set ?_ GE120.out) | exact HB.out)) hb)
                  clear BK120
                  clear HB
                  have BK120 := n0_
                  have HB := n1_
                  clear n0_ n1_
                  (try clear hb)
                  (try clear hb2)
                  (try clear hk)
                  (try clear hi)
                  refine hK.out _ _ ⟨(blk_cell BK120.out 0).trans rfl, (blk_cell BK120.out 1).trans rfl⟩ (fun hHeld => ?_)
                  clear hK K
                  refine norm_ (a' := ?_) ?_ ?_
                  rotate_left
                  · show Act.put _ (some 6) _ = _
                    simp only [Act.put, List.setIfInBounds_toArray, List.set_cons_zero, List.set_cons_succ, i64_w, i32_w]
                    rfl
                  refine pure_ (i := 4) (N := some 7) (v := ?_) (a' := ?_) #[true, true, true, true, true, true, true, true, true, false, false, false, true, true, true, true, false, false, false, true, true, true, false, false, false, true, true, true, false, false, false] rfl rfl (any_of HT_.out (by kernel_rfl)) (fun _ _ _ h => h) (Or.inl ⟨by rfl, ?_⟩) ?_ ?_
                  rotate_left
                  · intro w'
                    go_simp
                    with_reducible rfl
                  rotate_left
                  · simp only [Act.put, List.setIfInBounds_toArray, List.set_cons_zero, List.set_cons_succ, i64_w, i32_w]
                    rfl
                  refine one_ (i := 9) (N := some 12) #[true, true, true, true, true, true, true, true, true, true, false, false, true, true, true, true, false, false, false, true, true, true, false, false, false, true, true, true, false, false, false] rfl rfl (one_of HT_.out (by kernel_rfl)) (by decide) (fun K hK => ?_)
                  refine goes_ Tryd.func29 (by kernel_rfl) rfl #[.int .u32 (Int.tmod (IntKind.u32.wrap (Int.tdiv a0_0 65536)) 256)] (by rfl) rfl rfl (by (try simp only [List.map_toArray, List.map_cons, List.map_nil]); first | done | rfl | (simp only [List.length_drop, List.length_take]; rfl)) ?_
                  with_reducible refine (milestoneref01_num.calls k (Int.tmod (IntKind.u32.wrap (Int.tdiv a0_0 65536)) 256) t122 _ A4.out).mono ?_
                  rintro e w18 ⟨rfl, hb⟩
                  refine ⟨_, rfl, ?_⟩
                  have n0_ := Aside0.mk (blk_below (g := gb120) (o := .cells #[.int .u32 a0_0, .int .u8 a0_1] 24 (0, 0)) (by (with_reducible repeat (first | refine blk_drewN ?_ _ | refine blk_drew ?_ | refine blk_alloc ?_ _)); exact BK120.out) hb)
                  have n1_ := Aside0.mk (below_step (by repeat (first | (with_reducible first | exact HB.out | apply below_alloc | apply pw_below_drewN | apply below_drew1 | refine below_set ?_ GE120.out) | exact HB.out)) hb)
                  clear BK120
                  clear HB
                  have BK120 := n0_
                  have HB := n1_
                  clear n0_ n1_
                  (try clear hb)
                  (try clear hb2)
                  (try clear hk)
                  (try clear hi)
                  refine hK.out _ _ ⟨(blk_cell BK120.out 0).trans rfl, (blk_cell BK120.out 1).trans rfl⟩ (fun hHeld => ?_)
                  clear hK K
                  refine norm_ (a' := ?_) ?_ ?_
                  rotate_left
                  · show Act.put _ (some 12) _ = _
                    simp only [Act.put, List.setIfInBounds_toArray, List.set_cons_zero, List.set_cons_succ, i64_w, i32_w]
                    rfl
                  refine pure_ (i := 10) (N := some 13) (v := ?_) (a' := ?_) #[true, true, true, true, true, true, true, true, true, true, true, false, true, true, true, true, false, false, false, true, true, true, false, false, false, true, true, true, false, false, false] rfl rfl (any_of HT_.out (by kernel_rfl)) (fun _ _ _ h => h) (Or.inl ⟨by rfl, ?_⟩) ?_ ?_
                  rotate_left
                  · intro w'
                    go_simp
                    with_reducible rfl
                  rotate_left
                  · simp only [Act.put, List.setIfInBounds_toArray, List.set_cons_zero, List.set_cons_succ, i64_w, i32_w]
                    rfl
                  refine pure_ (i := 11) (N := some 14) (v := ?_) (a' := ?_) #[true, true, true, true, true, true, true, true, true, true, true, true, true, true, true, true, false, false, false, true, true, true, false, false, false, true, true, true, false, false, false] rfl rfl (any_of HT_.out (by kernel_rfl)) (fun _ _ _ h => h) (Or.inl ⟨by rfl, ?_⟩) ?_ ?_
                  rotate_left
                  · intro w'
                    go_simp
                    with_reducible rfl
                  rotate_left
                  · simp only [Act.put, List.setIfInBounds_toArray, List.set_cons_zero, List.set_cons_succ, i64_w, i32_w]
                    rfl
                  refine one_ (i := 16) (N := some 19) #[true, true, true, true, true, true, true, true, true, true, true, true, true, true, true, true, true, false, false, true, true, true, false, false, false, true, true, true, false, false, false] rfl rfl (one_of HT_.out (by kernel_rfl)) (by decide) (fun K hK => ?_)
                  refine goes_ Tryd.func29 (by kernel_rfl) rfl #[.int .u32 (Int.tmod (IntKind.u32.wrap (Int.tdiv a0_0 256)) 256)] (by rfl) rfl rfl (by (try simp only [List.map_toArray, List.map_cons, List.map_nil]); first | done | rfl | (simp only [List.length_drop, List.length_take]; rfl)) ?_
                  with_reducible refine (milestoneref01_num.calls k (Int.tmod (IntKind.u32.wrap (Int.tdiv a0_0 256)) 256) t123 _ A7.out).mono ?_
                  rintro e w19 ⟨rfl, hb⟩
                  refine ⟨_, rfl, ?_⟩
                  have n0_ := Aside0.mk (blk_below (g := gb120) (o := .cells #[.int .u32 a0_0, .int .u8 a0_1] 24 (0, 0)) (by (with_reducible repeat (first | refine blk_drewN ?_ _ | refine blk_drew ?_ | refine blk_alloc ?_ _)); exact BK120.out) hb)
                  have n1_ := Aside0.mk (below_step (by repeat (first | (with_reducible first | exact HB.out | apply below_alloc | apply pw_below_drewN | apply below_drew1 | refine below_set ?_ GE120.out) | exact HB.out)) hb)
                  clear BK120
                  clear HB
                  have BK120 := n0_
                  have HB := n1_
                  clear n0_ n1_
                  (try clear hb)
                  (try clear hb2)
                  (try clear hk)
                  (try clear hi)
                  refine hK.out _ _ ⟨(blk_cell BK120.out 0).trans rfl, (blk_cell BK120.out 1).trans rfl⟩ (fun hHeld => ?_)
                  clear hK K
                  refine norm_ (a' := ?_) ?_ ?_
                  rotate_left
                  · show Act.put _ (some 19) _ = _
                    simp only [Act.put, List.setIfInBounds_toArray, List.set_cons_zero, List.set_cons_succ, i64_w, i32_w]
                    rfl
                  refine pure_ (i := 17) (N := some 20) (v := ?_) (a' := ?_) #[true, true, true, true, true, true, true, true, true, true, true, true, true, true, true, true, true, true, false, true, true, true, false, false, false, true, true, true, false, false, false] rfl rfl (any_of HT_.out (by kernel_rfl)) (fun _ _ _ h => h) (Or.inl ⟨by rfl, ?_⟩) ?_ ?_
                  rotate_left
                  · intro w'
                    go_simp
                    with_reducible rfl
                  rotate_left
                  · simp only [Act.put, List.setIfInBounds_toArray, List.set_cons_zero, List.set_cons_succ, i64_w, i32_w]
                    rfl
                  refine pure_ (i := 18) (N := some 21) (v := ?_) (a' := ?_) #[true, true, true, true, true, true, true, true, true, true, true, true, true, true, true, true, true, true, true, true, true, true, false, false, false, true, true, true, false, false, false] rfl rfl (any_of HT_.out (by kernel_rfl)) (fun _ _ _ h => h) (Or.inl ⟨by rfl, ?_⟩) ?_ ?_
                  rotate_left
                  · intro w'
                    go_simp
                    with_reducible rfl
                  rotate_left
                  · simp only [Act.put, List.setIfInBounds_toArray, List.set_cons_zero, List.set_cons_succ, i64_w, i32_w]
                    rfl
                  refine one_ (i := 22) (N := some 25) #[true, true, true, true, true, true, true, true, true, true, true, true, true, true, true, true, true, true, true, true, true, true, true, false, false, true, true, true, false, false, false] rfl rfl (one_of HT_.out (by kernel_rfl)) (by decide) (fun K hK => ?_)
                  refine goes_ Tryd.func29 (by kernel_rfl) rfl #[.int .u32 (Int.tmod a0_0 256)] (by rfl) rfl rfl (by (try simp only [List.map_toArray, List.map_cons, List.map_nil]); first | done | rfl | (simp only [List.length_drop, List.length_take]; rfl)) ?_
                  with_reducible refine (milestoneref01_num.calls k (Int.tmod a0_0 256) t124 _ A10.out).mono ?_
                  rintro e w20 ⟨rfl, hb⟩
                  refine ⟨_, rfl, ?_⟩
                  have n0_ := Aside0.mk (blk_below (g := gb120) (o := .cells #[.int .u32 a0_0, .int .u8 a0_1] 24 (0, 0)) (by (with_reducible repeat (first | refine blk_drewN ?_ _ | refine blk_drew ?_ | refine blk_alloc ?_ _)); exact BK120.out) hb)
                  have n1_ := Aside0.mk (below_step (by repeat (first | (with_reducible first | exact HB.out | apply below_alloc | apply pw_below_drewN | apply below_drew1 | refine below_set ?_ GE120.out) | exact HB.out)) hb)
                  clear BK120
                  clear HB
                  have BK120 := n0_
                  have HB := n1_
                  clear n0_ n1_
                  (try clear hb)
                  (try clear hb2)
                  (try clear hk)
                  (try clear hi)
                  refine hK.out _ _ ⟨(blk_cell BK120.out 0).trans rfl, (blk_cell BK120.out 1).trans rfl⟩ (fun hHeld => ?_)
                  clear hK K
                  refine norm_ (a' := ?_) ?_ ?_
                  rotate_left
                  · show Act.put _ (some 25) _ = _
                    simp only [Act.put, List.setIfInBounds_toArray, List.set_cons_zero, List.set_cons_succ, i64_w, i32_w]
                    rfl
                  refine pure_ (i := 23) (N := some 26) (v := ?_) (a' := ?_) #[true, true, true, true, true, true, true, true, true, true, true, true, true, true, true, true, true, true, true, true, true, true, true, true, false, true, true, true, false, false, false] rfl rfl (any_of HT_.out (by kernel_rfl)) (fun _ _ _ h => h) (Or.inl ⟨by rfl, ?_⟩) ?_ ?_
                  rotate_left
                  · intro w'
                    go_simp
                    with_reducible rfl
                  rotate_left
                  · simp only [Act.put, List.setIfInBounds_toArray, List.set_cons_zero, List.set_cons_succ, i64_w, i32_w]
                    rfl
                  refine pure_ (i := 24) (N := some 27) (v := ?_) (a' := ?_) #[true, true, true, true, true, true, true, true, true, true, true, true, true, true, true, true, true, true, true, true, true, true, true, true, true, true, true, true, false, false, false] rfl rfl (any_of HT_.out (by kernel_rfl)) (fun _ _ _ h => h) (Or.inl ⟨by rfl, ?_⟩) ?_ ?_
                  rotate_left
                  · intro w'
                    go_simp
                    with_reducible rfl
                  rotate_left
                  · simp only [Act.put, List.setIfInBounds_toArray, List.set_cons_zero, List.set_cons_succ, i64_w, i32_w]
                    rfl
                  refine one_ (i := 28) (N := some 31) #[true, true, true, true, true, true, true, true, true, true, true, true, true, true, true, true, true, true, true, true, true, true, true, true, true, true, true, true, true, false, false] rfl rfl (one_of HT_.out (by kernel_rfl)) (by decide) (fun K hK => ?_)
                  refine goes_ Tryd.func29 (by kernel_rfl) rfl #[.int .u32 ((a0_1) % 4294967296)] (by rfl) rfl rfl (by (try simp only [List.map_toArray, List.map_cons, List.map_nil]); first | done | rfl | (simp only [List.length_drop, List.length_take]; rfl)) ?_
                  with_reducible refine (milestoneref01_num.calls k ((a0_1) % 4294967296) t125 _ A13.out).mono ?_
                  rintro e w21 ⟨rfl, hb⟩
                  refine ⟨_, rfl, ?_⟩
                  have n0_ := Aside0.mk (blk_below (g := gb120) (o := .cells #[.int .u32 a0_0, .int .u8 a0_1] 24 (0, 0)) (by (with_reducible repeat (first | refine blk_drewN ?_ _ | refine blk_drew ?_ | refine blk_alloc ?_ _)); exact BK120.out) hb)
                  have n1_ := Aside0.mk (below_step (by repeat (first | (with_reducible first | exact HB.out | apply below_alloc | apply pw_below_drewN | apply below_drew1 | refine below_set ?_ GE120.out) | exact HB.out)) hb)
                  clear BK120
                  clear HB
                  have BK120 := n0_
                  have HB := n1_
                  clear n0_ n1_
                  (try clear hb)
                  (try clear hb2)
                  (try clear hk)
                  (try clear hi)
                  refine hK.out _ _ ⟨(blk_cell BK120.out 0).trans rfl, (blk_cell BK120.out 1).trans rfl⟩ (fun hHeld => ?_)
                  clear hK K
                  refine norm_ (a' := ?_) ?_ ?_
                  rotate_left
                  · show Act.put _ (some 31) _ = _
                    simp only [Act.put, List.setIfInBounds_toArray, List.set_cons_zero, List.set_cons_succ, i64_w, i32_w]
                    rfl
                  refine pure_ (i := 29) (N := some 32) (v := ?_) (a' := ?_) #[true, true, true, true, true, true, true, true, true, true, true, true, true, true, true, true, true, true, true, true, true, true, true, true, true, true, true, true, true, true, false] rfl rfl (any_of HT_.out (by kernel_rfl)) (fun _ _ _ h => h) (Or.inl ⟨by rfl, ?_⟩) ?_ ?_
                  rotate_left
                  · intro w'
                    go_simp
                    with_reducible rfl
                  rotate_left
                  · simp only [Act.put, List.setIfInBounds_toArray, List.set_cons_zero, List.set_cons_succ, i64_w, i32_w]
                    rfl
                  refine pure_ (i := 30) (N := some 2) (v := ?_) (a' := ?_) #[true, true, true, true, true, true, true, true, true, true, true, true, true, true, true, true, true, true, true, true, true, true, true, true, true, true, true, true, true, true, true] rfl rfl (any_of HT_.out (by kernel_rfl)) (fun _ _ _ h => h) (Or.inl ⟨by rfl, ?_⟩) ?_ ?_
                  rotate_left
                  · intro w'
                    go_simp
                    with_reducible rfl
                  rotate_left
                  · simp only [Act.put, List.setIfInBounds_toArray, List.set_cons_zero, List.set_cons_succ, i64_w, i32_w]
                    rfl
                  refine done_ (done_of HT_.out (by kernel_rfl)) ?_
                  try go_wp2
                  go_ret
                  exact ⟨by first | rfl | (simp [errW_none, errW_some] <;> rfl) | (simp [*, errW_none, errW_some] <;> rfl), by repeat (first | (with_reducible first | exact HB.out | apply below_alloc | apply pw_below_drewN | apply below_drew1 | refine below_set ?_ GE120.out) | exact HB.out)⟩
                · rw [if_neg c14] at H
                  exact absurd H (by simp)
              · rw [if_neg c12] at H
                exact absurd H (by simp)
            · rw [if_neg c11] at H
              exact absurd H (by simp)
          · rw [if_neg c9] at H
            exact absurd H (by simp)
        · rw [if_neg c8] at H
          exact absurd H (by simp)
      · rw [if_neg c6] at H
        exact absurd H (by simp)
    · rw [if_neg c5] at H
      exact absurd H (by simp)
  · rw [if_neg c3] at H
    exact absurd H (by simp)

/-! ### milestonelaw01_PrefixParses: function 8 -/
/-- what one text tells -/
def milestonelaw01_PrefixParses.Tells (x : ByteArray) : Prop := ∃ (k : Nat) (r1 r2 r3 : Int), prefix_Parse.f x = some (r1, r2, r3) ∧ (r3 = 0 → milestoneref01_Text.f k r1 r2 = some x ∧ milestoneref01_Right.f k r1 r2 = some true) ∧ (r3 ≠ 0 → r3 = 4 ∧ r1 = 0 ∧ r2 = 0)
def milestonelaw01_PrefixParses.Pure : Prop := (∃ k, milestonelaw01_awake.f k = some true) ∧
  (∀ a n : Int, (Lit.int .u32 a).wf = true → (Lit.int .u8 n).wf = true → ∃ (k : Nat) (p m : Int) (s : ByteArray), milestoneref01_Of.f k a n = some (p, m) ∧ milestoneref01_Text.f k p m = some s ∧ 0 < s.size ∧ s.size ≤ 100) ∧
  (∀ x : ByteArray, milestonelaw01_PrefixParses.Tells x)
/-- the bytes of a string that became a row -/
def milestonelaw01_PrefixParses.nums (s : ByteArray) : List Int := s.data.toList.map fun b => (b.toNat : Int)
theorem milestonelaw01_PrefixParses.nums_len (s : ByteArray) : (milestonelaw01_PrefixParses.nums s).length = s.size := by
  unfold milestonelaw01_PrefixParses.nums
  rw [List.length_map]
  exact Array.length_toList
/-- the row behind the conversion, one byte of it another one -/
theorem milestonelaw01_PrefixParses.row_C (W : World) (g e : Nat) (s : ByteArray) (cs : Array Value) (fr : Nat × Nat) (k : Nat) (c : Int) (hk : k < s.size) (hsz : s.size ≤ 100) (hb : W.heap[g]? = some (.cells cs e fr)) (hcs : ∀ j, j < s.size → cs[j]? = some (.int .u8 (s.data.toList.getD j 0).toNat)) :
    Kd.C (Kd.int .u8) (W.setCell ⟨g, k, none⟩ (.int .u8 c)) (some ⟨g, 0, none⟩) ((milestonelaw01_PrefixParses.nums s).set k c).length ((milestonelaw01_PrefixParses.nums s).set k c) := by
  have hl : ((milestonelaw01_PrefixParses.nums s).set k c).length = s.size := by rw [List.length_set, milestonelaw01_PrefixParses.nums_len]
  have hb2 : (W.setCell ⟨g, k, none⟩ (.int .u8 c)).heap[g]? = some (.cells (cs.setIfInBounds k (.int .u8 c)) e fr) := by
    rw [setCell_eq_setRow W g k cs e fr _ hb]
    exact setRow_heap W g _ _ e _ hb
  refine Kd.C_of_reads (d := (0 : Int)) ?_
  refine ⟨rfl, by rw [hl]; omega, fun _ => ⟨⟨g, 0, none⟩, rfl, fun j hj => ?_⟩⟩
  rw [hl] at hj
  have ead : (⟨g, 0, none⟩ : Addr).add j = ⟨g, j, none⟩ := by
    by_cases h0 : j = 0
    · subst h0; rfl
    · simp [Addr.add, h0]
  rw [ead, cell_of_row _ g j _ e fr hb2]
  have hn : (milestonelaw01_PrefixParses.nums s)[j]? = some ((s.data.toList.getD j 0).toNat : Int) := by
    unfold milestonelaw01_PrefixParses.nums
    rw [List.getElem?_map, List.getElem?_eq_getElem (by rw [Array.length_toList]; exact hj), List.getD_eq_getElem?_getD, List.getElem?_eq_getElem (by rw [Array.length_toList]; exact hj)]
    rfl
  have hz : k < cs.size := by
    have := hcs k hk
    by_cases h : k < cs.size
    · exact h
    · rw [Array.getElem?_eq_none (by omega)] at this; cases this
  by_cases e1 : k = j
  · subst e1
    rw [Array.getElem?_setIfInBounds_self_of_lt hz, List.getD_eq_getElem?_getD, List.getElem?_set_self (by rw [milestonelaw01_PrefixParses.nums_len]; exact hk)]
    rfl
  · have hv : ((milestonelaw01_PrefixParses.nums s).set k c).getD j 0 = ((s.data.toList.getD j 0).toNat : Int) := by
      rw [List.getD_eq_getElem?_getD, List.getElem?_set_ne e1, hn]
      rfl
    rw [Array.getElem?_setIfInBounds_ne e1, hcs j hj, hv]
theorem milestonelaw01_PrefixParses.one_C {W : World} {g e : Nat} {a : Int} (h : W.heap[g]? = some (.cells #[.int .u8 a] e (0, 0))) : Kd.C (Kd.int .u8) W (some ⟨g, 0, none⟩) 1 [a] := by
  refine Kd.C_of_reads (d := (0 : Int)) ⟨rfl, by omega, fun _ => ⟨⟨g, 0, none⟩, rfl, fun j hj => ?_⟩⟩
  obtain rfl : j = 0 := by omega
  exact (blk_cell h 0).trans rfl
set_option maxHeartbeats 8000000 in
set_option maxRecDepth 100000 in
theorem milestonelaw01_PrefixParses.walk (P : milestonelaw01_PrefixParses.Pure) (s0 : ByteArray) (a1 a2 a3 a4 : Int) (w : World) (hm0 : s0.size ≤ 140737488351232) (w1 : (Lit.int .u32 a1).wf = true) (w2 : (Lit.int .u8 a2).wf = true) (w3 : (Lit.int .u8 a3).wf = true) (w4 : (Lit.int .u8 a4).wf = true) :
    Calls Tryd.prog 8 #[.string s0, .int .u32 a1, .int .u8 a2, .int .u8 a3, .int .u8 a4] w fun e w' => e = .returned (.bool true) ∧ Below w.heap.size w w' := by
  have hu24 := Tryd.underlying24
  have hu40 := Tryd.underlying40
  have hu41 := Tryd.underlying41
  obtain ⟨⟨ka, pa⟩, hP2, hP3⟩ := P
  obtain ⟨kt, p, m, s, ho, ht, hs0, hs1⟩ := hP2 a1 a2 w1 w2
  have b3 := Go.bounds_u8 w3
  have b4 := Go.bounds_u8 w4
  have PAW := Aside0.mk pa
  have HO := Aside0.mk ho
  have HT := Aside0.mk ht
  have HP3 := Aside0.mk hP3
  clear pa ho ht hP2 hP3 w1 w2 w3 w4 hm0
  go_enter Tryd.func8, Tryd.ntmps8
  go_wp2_with (fail)
  refine (milestonelaw01_awake.calls ka true _ PAW.out).mono ?_
  rintro e w5 ⟨rfl, hb⟩
  have HB5 := Aside0.mk hb
  clear hb
  by_cases hlen : ¬ s0.size ≤ 60
  · have q1 : decide ((s0.size : Int) > 60) = true := decide_eq_true (by omega)
    have q2 : decide (60 < (s0.size : Int)) = true := decide_eq_true (by omega)
    have q3 : decide (60 < s0.size) = true := decide_eq_true (by omega)
    go_wp2_with (fail)
    refine (milestonelaw01_awake.calls ka true _ PAW.out).mono ?_
    rintro e w6 ⟨rfl, hb⟩
    have HB6 := Aside0.mk (below_step HB5.out hb)
    clear hb
    go_wp2_with (fail)
    go_ret
    exact ⟨rfl, HB6.out⟩
  have hlen' : s0.size ≤ 60 := Decidable.not_not.1 hlen
  have q1 : decide ((s0.size : Int) > 60) = false := decide_eq_false (by omega)
  have q2 : decide (60 < (s0.size : Int)) = false := decide_eq_false (by omega)
  have q3 : decide (60 < s0.size) = false := decide_eq_false (by omega)
  clear hlen
  go_wp2_with (fail)
  refine (milestoneref01_Of.calls kt a1 a2 p m _ HO.out).mono ?_
  rintro e w6 ⟨rfl, hb⟩
  have HB6 := Aside0.mk (below_step HB5.out hb)
  clear hb HB5
  go_wp2_with (fail)
  refine (milestoneref01_Text.calls kt p m s _ HT.out).mono ?_
  rintro e w7 ⟨rfl, hb⟩
  have HB7 := Aside0.mk (below_step HB6.out hb)
  clear hb HB6
  have hcv := Lib.run_convert_string_bytes (P := Tryd.prog) w7 9 40 5 s Tryd.underlying9 Tryd.underlying40 Tryd.underlying5
  go_upto_region 4 with (fail)
  obtain ⟨n3, rfl⟩ := Int.eq_ofNat_of_zero_le b3.1
  obtain ⟨k, hk⟩ : ∃ k : Nat, k = n3 % s.size := ⟨_, rfl⟩
  have hkl : k < s.size := by rw [hk]; exact Nat.mod_lt _ hs0
  have hr : (n3 : Int) % (s.size : Int) = (k : Int) := by rw [hk]; exact (Int.natCast_emod _ _).symm
  have hr2 : Int.tmod (n3 : Int) (s.size : Int) = (k : Int) := by rw [Int.tmod_eq_emod_of_nonneg (Int.natCast_nonneg _)]; exact hr
  have hz0 : ((s.size : Int) == 0) = false := beq_eq_false_iff_ne.mpr (by omega)
  obtain ⟨g, hg⟩ : ∃ g : Nat, g = w7.heap.size := ⟨_, rfl⟩
  obtain ⟨c, hc⟩ : ∃ c : Nat, c = grownCap w7 s.size 0 5 := ⟨_, rfl⟩
  obtain ⟨W8, hW8⟩ : ∃ W8 : World, W8 = Lib.bytesWorld w7 5 s := ⟨_, rfl⟩
  rw [← hW8, ← hg, ← hc]
  have hcl : s.size ≤ c := by rw [hc]; exact grownCap_ge _ _ _ _
  have BK8 := Aside0.mk (show W8.heap[g]? = some (.cells (Lib.bytesCells w7 5 s) 5 ((Lib.bytesCells w7 5 s).size, (Lib.bytesCells w7 5 s).size + 1)) from by rw [hW8, hg]; exact Lib.bytesWorld_at_new w7 5 s)
  have HCS := Aside0.mk (show ∀ j, j < s.size → (Lib.bytesCells w7 5 s)[j]? = some (.int .u8 (s.data.toList.getD j 0).toNat) from fun j hj => by
    have h1 := Lib.bytesWorld_cell w7 5 s j hj
    rw [← hW8, ← hg, cell_of_row W8 g j _ 5 _ BK8.out] at h1
    exact h1)
  have HB8 := Aside0.mk (show Below w.heap.size w W8 from below_step HB7.out (by rw [hW8]; exact ⟨rfl, rfl, rfl, by rw [Lib.bytesWorld_size]; omega, fun j hj => Lib.bytesWorld_at_old w7 5 s j hj⟩))
  have HGE := Aside0.mk (show w.heap.size ≤ g from by rw [hg]; exact HB7.out.size)
  generalize Lib.bytesCells w7 5 s = cs at BK8 HCS
  clear hW8 hg hc hcv HB7 hk
  have hcz : k < cs.size := by
    have := HCS.out k hkl
    by_cases h : k < cs.size
    · exact h
    · rw [Array.getElem?_eq_none (by omega)] at this; cases this
  have hfz : W8.frozen? ⟨g, k, none⟩ = false := by
    simp [World.frozen?, BK8.out]
    omega
  have hx : W8.cell? ⟨g, k, none⟩ = some (.int .u8 (s.data.toList.getD k 0).toNat) := (cell_of_row W8 g k _ 5 _ BK8.out).trans (HCS.out k hkl)
  have i1 : decide (0 ≤ (k : Int)) = true := decide_eq_true (by omega)
  have i2 : decide ((k : Int) < (s.size : Int)) = true := decide_eq_true (by omega)
  have i3 : decide (k < s.size) = true := decide_eq_true (by omega)
  go_upto_region 5 with (fail)
  have hl9 : ((milestonelaw01_PrefixParses.nums s).set k a4).length = s.size := by rw [List.length_set, milestonelaw01_PrefixParses.nums_len]
  have hC9 := milestonelaw01_PrefixParses.row_C W8 g 5 s cs _ k a4 hkl hs1 BK8.out HCS.out
  obtain ⟨W9, hW9⟩ : ∃ W9 : World, W9 = W8.setCell ⟨g, k, none⟩ (.int .u8 a4) := ⟨_, rfl⟩
  rw [← hW9] at hC9 ⊢
  have HB9 := Aside0.mk (show Below w.heap.size w W9 from by rw [hW9]; exact below_set HB8.out HGE.out)
  clear hW9
  generalize (milestonelaw01_PrefixParses.nums s).set k a4 = xs at hl9 hC9
  obtain ⟨i0, hi0, _, hsz, _⟩ := info_parts info5
  obtain ⟨hcut, hcr, _⟩ := print_take_of (P := Tryd.prog) (Value.int .u8) 0 40 5 .i64 Tryd.underlying40 hi0 hsz (some ⟨g, 0, none⟩) c xs (k : Int) (Int.natCast_nonneg _) (by omega) (by omega)
  have htk : (xs.take (k : Int).toNat).length = k := by rw [Int.toNat_natCast, List.length_take]; omega
  obtain ⟨X1, hX1⟩ : ∃ x : ByteArray, x = strOfNums xs := ⟨_, rfl⟩
  obtain ⟨X3, hX3⟩ : ∃ x : ByteArray, x = strOfNums (xs.take (k : Int).toNat) := ⟨_, rfl⟩
  have HS1 := Aside0.mk (show ∀ w', Kd.C (Kd.int .u8) w' (some ⟨g, 0, none⟩) xs.length xs → (convert 40 9 (.slice (some ⟨g, 0, none⟩) s.size c)).run Tryd.prog w' = .ok (.string X1) w' from fun w' h => by
    rw [hX1, ← hl9]
    exact Kd.C_string (P := Tryd.prog) Tryd.underlying40 Tryd.underlying5 Tryd.underlying9 h)
  have HS3 := Aside0.mk (show ∀ w', Kd.C (Kd.int .u8) w' (some ⟨g, 0, none⟩) xs.length xs → (convert 40 9 (.slice (some ⟨g, 0, none⟩) k c)).run Tryd.prog w' = .ok (.string X3) w' from fun w' h => by
    have h2 := Kd.C_of_reads (h1 := fun _ => rfl) (hcr w' (Kd.reads_of_C h))
    rw [htk] at h2
    rw [hX3]
    exact Kd.C_string (P := Tryd.prog) Tryd.underlying40 Tryd.underlying5 Tryd.underlying9 h2)
  have hz1 : X1.size = s.size := by
    rw [hX1, ← hl9]
    show (xs.map _).toArray.size = _
    simp
  have HCD := Aside0.mk (Kd.C_drew hC9)
  rw [hl9, htk] at hcut
  have HBD := Aside0.mk (below_drew1 HB9.out)
  obtain ⟨X2, hX2⟩ : ∃ x : ByteArray, x = strOfNums [a4] := ⟨_, rfl⟩
  have hz2 : X2.size = 1 := by rw [hX2]; rfl
  have HX2 := Aside0.mk hX2
  have hse : (s = ByteArray.empty) = False := eq_false (fun e => by rw [e] at hs0; exact absurd hs0 (by decide))
  have hr3 : (wrap64 (n3 : Int)).tmod (s.size : Int) = (k : Int) := by rw [show wrap64 (n3 : Int) = (n3 : Int) from by unfold wrap64; omega]; exact hr2
  have hb1 : (9223372036854775807 < X1.size + X2.size) = False := eq_false (by omega)
  clear hi0 hsz hcr hC9 hfz hx i1 i2 i3 hz0 HB8 HB9 BK8 HCS hcz hX1 hX3 hX2 hz1 hz2 hl9 htk
  refine start_ (n := 20) (S := fun w' => (convert 40 9 (.slice (some ⟨g, 0, none⟩) s.size c)).run Tryd.prog w' = .ok (.string X1) w' ∧ (convert 40 9 (.slice (some ⟨g, 0, none⟩) k c)).run Tryd.prog w' = .ok (.string X3) w') (ds := []) #[false, false, false, false, false, false, false, false, false, false, false, false, false, false, false, false, false, false, false, false] (by kernel_rfl) rfl rfl ⟨HS1.out _ HCD.out, HS3.out _ HCD.out⟩ (fun hHeld => ?_)
  generalize W9.drew = wd at HCD HBD hHeld ⊢
  refine pure_ (i := 0) (N := some 37) (v := ?_) (a' := ?_) #[true, false, false, false, false, false, false, false, false, false, false, false, false, false, false, false, false, false, false, false] rfl rfl (by kernel_rfl) (fun _ _ _ h => h) (Or.inl ⟨by rfl, ?_⟩) ?_ ?_
  rotate_left
  · intro w'
    go_simp
    with_reducible rfl
  rotate_left
  · simp only [Act.put, List.setIfInBounds_toArray, List.set_cons_zero, List.set_cons_succ, i64_w, i32_w]
    rfl
  refine pure_ (i := 1) (N := some 38) (v := ?_) (a' := ?_) #[true, true, false, false, false, false, false, false, false, false, false, false, false, false, false, false, false, false, false, false] rfl rfl (by kernel_rfl) (fun _ _ _ h => h) (Or.inl ⟨by rfl, ?_⟩) ?_ ?_
  rotate_left
  · intro w'
    go_simp
    with_reducible rfl
  rotate_left
  · simp only [Act.put, List.setIfInBounds_toArray, List.set_cons_zero, List.set_cons_succ, i64_w, i32_w]
    rfl
  refine pure_ (i := 3) (N := some 40) (v := ?_) (a' := ?_) #[true, true, false, true, false, false, false, false, false, false, false, false, false, false, false, false, false, false, false, false] rfl rfl (by kernel_rfl) (fun _ _ _ h => h) (Or.inl ⟨by rfl, ?_⟩) ?_ ?_
  rotate_left
  · intro w'
    go_simp
    with_reducible rfl
  rotate_left
  · simp only [Act.put, List.setIfInBounds_toArray, List.set_cons_zero, List.set_cons_succ, i64_w, i32_w]
    rfl
  refine pure_ (i := 5) (N := some 42) (v := ?_) (a' := ?_) #[true, true, false, true, false, true, false, false, false, false, false, false, false, false, false, false, false, false, false, false] rfl rfl (by kernel_rfl) (fun _ _ _ h => h) (Or.inl ⟨by rfl, ?_⟩) ?_ ?_
  rotate_left
  · intro w'
    go_simp
    with_reducible rfl
  rotate_left
  · simp only [Act.put, List.setIfInBounds_toArray, List.set_cons_zero, List.set_cons_succ, i64_w, i32_w]
    rfl
  refine pure_ (i := 9) (N := some 46) (v := ?_) (a' := ?_) #[true, true, false, true, false, true, false, false, false, true, false, false, false, false, false, false, false, false, false, false] rfl rfl (by kernel_rfl) (fun _ _ _ h => h) (Or.inl ⟨by rfl, ?_⟩) ?_ ?_
  rotate_left
  · intro w'
    go_simp
    with_reducible rfl
  rotate_left
  · simp only [Act.put, List.setIfInBounds_toArray, List.set_cons_zero, List.set_cons_succ, i64_w, i32_w]
    rfl
  refine pure_ (i := 10) (N := some 47) (v := ?_) (a' := ?_) #[true, true, false, true, false, true, false, false, false, true, true, false, false, false, false, false, false, false, false, false] rfl rfl (by kernel_rfl) (fun _ _ _ h => h) (Or.inl ⟨by rfl, ?_⟩) ?_ ?_
  rotate_left
  · intro w'
    go_simp
    with_reducible rfl
  rotate_left
  · simp only [Act.put, List.setIfInBounds_toArray, List.set_cons_zero, List.set_cons_succ, i64_w, i32_w]
    rfl
  refine pure_ (i := 11) (N := some 48) (v := ?_) (a' := ?_) #[true, true, false, true, false, true, false, false, false, true, true, true, false, false, false, false, false, false, false, false] rfl rfl (by kernel_rfl) (fun _ _ _ h => h) (Or.inl ⟨by rfl, ?_⟩) ?_ ?_
  rotate_left
  · intro w'
    go_simp
    with_reducible rfl
  rotate_left
  · simp only [Act.put, List.setIfInBounds_toArray, List.set_cons_zero, List.set_cons_succ, i64_w, i32_w]
    rfl
  refine pure_ (i := 12) (N := some 49) (v := ?_) (a' := ?_) #[true, true, false, true, false, true, false, false, false, true, true, true, true, false, false, false, false, false, false, false] rfl rfl (by kernel_rfl) (fun _ _ _ h => h) (Or.inl ⟨by rfl, ?_⟩) ?_ ?_
  rotate_left
  · intro w'
    go_simp
    with_reducible rfl
  rotate_left
  · simp only [Act.put, List.setIfInBounds_toArray, List.set_cons_zero, List.set_cons_succ, i64_w, i32_w]
    rfl
  refine pure_ (i := 13) (N := some 50) (v := ?_) (a' := ?_) #[true, true, false, true, false, true, false, false, false, true, true, true, true, true, false, false, false, false, false, false] rfl rfl (by kernel_rfl) (fun _ _ _ h => h) (Or.inl ⟨by rfl, ?_⟩) ?_ ?_
  rotate_left
  · intro w'
    go_simp
    with_reducible rfl
  rotate_left
  · simp only [Act.put, List.setIfInBounds_toArray, List.set_cons_zero, List.set_cons_succ, i64_w, i32_w]
    rfl
  refine pure_ (i := 14) (N := some 51) (v := ?_) (a' := ?_) #[true, true, false, true, false, true, false, false, false, true, true, true, true, true, true, false, false, false, false, false] rfl rfl (by kernel_rfl) (fun _ _ _ h => h) (Or.inl ⟨by rfl, ?_⟩) ?_ ?_
  rotate_left
  · intro w'
    go_simp
    with_reducible rfl
  rotate_left
  · simp only [Act.put, List.setIfInBounds_toArray, List.set_cons_zero, List.set_cons_succ, i64_w, i32_w]
    rfl
  refine pure_ (i := 15) (N := some 52) (v := ?_) (a' := ?_) #[true, true, false, true, false, true, false, false, false, true, true, true, true, true, true, true, false, false, false, false] rfl rfl (by kernel_rfl) (fun _ _ _ h => h) (Or.inl ⟨by rfl, ?_⟩) ?_ ?_
  rotate_left
  · intro w'
    go_simp
    with_reducible rfl
  rotate_left
  · simp only [Act.put, List.setIfInBounds_toArray, List.set_cons_zero, List.set_cons_succ, i64_w, i32_w]
    rfl
  refine pure_ (i := 19) (N := some 56) (v := ?_) (a' := ?_) #[true, true, false, true, false, true, false, false, false, true, true, true, true, true, true, true, false, false, false, true] rfl rfl (by kernel_rfl) (fun _ _ _ h => h) (Or.inl ⟨by rfl, ?_⟩) ?_ ?_
  rotate_left
  · intro w'
    go_simp
    with_reducible rfl
  rotate_left
  · simp only [Act.put, List.setIfInBounds_toArray, List.set_cons_zero, List.set_cons_succ, i64_w, i32_w]
    rfl
  refine take_ (i := 2) (N := some 39) (v := ?_) (a' := ?_) #[true, true, true, true, false, true, false, false, false, true, true, true, true, true, true, true, false, false, false, true] rfl rfl (by kernel_rfl) (fun _ _ _ h => h) (Or.inl ⟨by rfl, ?_⟩) hHeld ?_ ?_
  rotate_left
  · rintro w' ⟨s0, s1⟩
    go_simp
    with_reducible rfl
  rotate_left
  · simp only [Act.put, List.setIfInBounds_toArray, List.set_cons_zero, List.set_cons_succ, i64_w, i32_w]
    rfl
  refine take_ (i := 4) (N := some 41) (v := ?_) (a' := ?_) #[true, true, true, true, true, true, false, false, false, true, true, true, true, true, true, true, false, false, false, true] rfl rfl (by kernel_rfl) (fun _ _ _ h => h) (Or.inl ⟨by rfl, ?_⟩) hHeld ?_ ?_
  rotate_left
  · rintro w' ⟨s0, s1⟩
    go_simp
    with_reducible rfl
  rotate_left
  · simp only [Act.put, List.setIfInBounds_toArray, List.set_cons_zero, List.set_cons_succ, i64_w, i32_w]
    rfl
  refine take_ (i := 16) (N := some 53) (v := ?_) (a' := ?_) #[true, true, true, true, true, true, false, false, false, true, true, true, true, true, true, true, true, false, false, true] rfl rfl (by kernel_rfl) (fun _ _ _ h => h) (Or.inl ⟨by rfl, ?_⟩) hHeld ?_ ?_
  rotate_left
  · rintro w' ⟨s0, s1⟩
    go_simp
    with_reducible rfl
  rotate_left
  · simp only [Act.put, List.setIfInBounds_toArray, List.set_cons_zero, List.set_cons_succ, i64_w, i32_w]
    rfl
  refine one_ (i := 6) (N := some 43) #[true, true, true, true, true, true, true, false, false, true, true, true, true, true, true, true, true, false, false, true] rfl rfl (by kernel_rfl) (by decide) (fun K hK => ?_)
  refine value_ (w1 := ?_) (v := ?_) (by rfl) rfl ?_ ?_
  rotate_left 2
  · go_simp
    constructor
    · rfl
    · rfl
  obtain ⟨g43, hg_⟩ : ∃ x : Nat, x = wd.heap.size := ⟨_, rfl⟩
  obtain ⟨wa, hw_⟩ : ∃ x : World, x = wd.alloc (.cells #[.int .u8 a4] 5 (0, 0)) := ⟨_, rfl⟩
  rw [← hw_, ← hg_]
  have BKg43 := Aside0.mk (show wa.heap[g43]? = some (.cells #[.int .u8 a4] 5 (0, 0)) from by rw [hw_, hg_]; exact heap_alloc_new _ _)
  have hb := (show Below wd.heap.size wd wa from by rw [hw_]; exact below_alloc (Below.refl _ _) _)
  have n0_ := Aside0.mk (Kd.C_below HCD.out hb)
  have n1_ := Aside0.mk (below_step HBD.out hb)
  clear HCD HBD
  have HCD := n0_
  have HBD := n1_
  clear n0_ n1_
  clear hb hw_ hg_
  refine hK.out _ _ ⟨HS1.out _ HCD.out, HS3.out _ HCD.out⟩ (fun hHeld => ?_)
  clear hK K
  refine norm_ (a' := ?_) ?_ ?_
  rotate_left
  · show Act.put _ (some 43) _ = _
    simp only [Act.put, List.setIfInBounds_toArray, List.set_cons_zero, List.set_cons_succ, i64_w, i32_w]
    rfl
  refine one_ (i := 7) (N := some 44) #[true, true, true, true, true, true, true, true, false, true, true, true, true, true, true, true, true, false, false, true] rfl rfl (by kernel_rfl) (by decide) (fun K hK => ?_)
  have hcv := Kd.C_string (P := Tryd.prog) (src := 40) (dst := 9) (A := some ⟨g43, 0, none⟩) (n := 1) (c := 1) (xs := [a4]) Tryd.underlying40 Tryd.underlying5 Tryd.underlying9 (milestonelaw01_PrefixParses.one_C BKg43.out)
  rw [← HX2.out] at hcv
  refine value_ (w1 := ?_) (v := ?_) (by rfl) rfl ?_ ?_
  rotate_left 2
  · go_simp
    constructor
    · rfl
    · rfl
  clear hcv
  refine hK.out _ _ ⟨HS1.out _ HCD.out, HS3.out _ HCD.out⟩ (fun hHeld => ?_)
  clear hK K
  refine norm_ (a' := ?_) ?_ ?_
  rotate_left
  · show Act.put _ (some 44) _ = _
    simp only [Act.put, List.setIfInBounds_toArray, List.set_cons_zero, List.set_cons_succ, i64_w, i32_w]
    rfl
  refine pure_ (i := 8) (N := some 45) (v := ?_) (a' := ?_) #[true, true, true, true, true, true, true, true, true, true, true, true, true, true, true, true, true, false, false, true] rfl rfl (by kernel_rfl) (fun _ _ _ h => h) (Or.inl ⟨by rfl, ?_⟩) ?_ ?_
  rotate_left
  · intro w'
    go_simp
    with_reducible rfl
  rotate_left
  · simp only [Act.put, List.setIfInBounds_toArray, List.set_cons_zero, List.set_cons_succ, i64_w, i32_w]
    rfl
  refine one_ (i := 17) (N := some 54) #[true, true, true, true, true, true, true, true, true, true, true, true, true, true, true, true, true, true, false, true] rfl rfl (by kernel_rfl) (by decide) (fun K hK => ?_)
  refine value_ (w1 := ?_) (v := ?_) (by rfl) rfl ?_ ?_
  rotate_left 2
  · go_simp
    constructor
    · rfl
    · rfl
  obtain ⟨g54, hg_⟩ : ∃ x : Nat, x = wa.heap.size := ⟨_, rfl⟩
  obtain ⟨wb, hw_⟩ : ∃ x : World, x = wa.alloc (.cells #[.string s0, .string X1, .string (X1 ++ X2), .string X3] 9 (0, 0)) := ⟨_, rfl⟩
  rw [← hw_, ← hg_]
  have BKg54 := Aside0.mk (show wb.heap[g54]? = some (.cells #[.string s0, .string X1, .string (X1 ++ X2), .string X3] 9 (0, 0)) from by rw [hw_, hg_]; exact heap_alloc_new _ _)
  have hb := (show Below wa.heap.size wa wb from by rw [hw_]; exact below_alloc (Below.refl _ _) _)
  have n0_ := Aside0.mk (Kd.C_below HCD.out hb)
  have n1_ := Aside0.mk (below_step HBD.out hb)
  clear HCD HBD
  have HCD := n0_
  have HBD := n1_
  clear n0_ n1_
  clear hb hw_ hg_
  refine hK.out _ _ ⟨HS1.out _ HCD.out, HS3.out _ HCD.out⟩ (fun hHeld => ?_)
  clear hK K
  refine norm_ (a' := ?_) ?_ ?_
  rotate_left
  · show Act.put _ (some 54) _ = _
    simp only [Act.put, List.setIfInBounds_toArray, List.set_cons_zero, List.set_cons_succ, i64_w, i32_w]
    rfl
  refine pure_ (i := 18) (N := some 55) (v := ?_) (a' := ?_) #[true, true, true, true, true, true, true, true, true, true, true, true, true, true, true, true, true, true, true, true] rfl rfl (by kernel_rfl) (fun _ _ _ h => h) (Or.inl ⟨by rfl, ?_⟩) ?_ ?_
  rotate_left
  · intro w'
    go_simp
    with_reducible rfl
  rotate_left
  · simp only [Act.put, List.setIfInBounds_toArray, List.set_cons_zero, List.set_cons_succ, i64_w, i32_w]
    rfl
  refine done_ (by kernel_rfl) ?_
  clear hHeld HCD HS1 HS3 BKg43 hcut hr hr2 hr3 hse hb1 HX2 hs0 hs1 HO HT PAW HGE
  obtain ⟨S4, hS4⟩ : ∃ x : ByteArray, x = X1 ++ X2 := ⟨_, rfl⟩
  rw [← hS4] at BKg54
  clear hS4
  go_wp2_with (fail)
  go_loopg [56] 4 (fun kx s56 wr => ∃ (j : Nat), s56 = .int .i64 j ∧ j ≤ 4 ∧ 4 - j ≤ kx ∧ Aside0 (wr.heap[g54]? = some (.cells #[.string s0, .string X1, .string S4, .string X3] 9 (0, 0))) ∧ Aside0 (Below w.heap.size w wr))
  case atStart => exact ⟨0, rfl, by omega, by omega, BKg54, HBD⟩
  case round =>
    clear BKg54 HBD
    obtain ⟨j, rfl, hj, hgas, BK, HB⟩ := hrel
    by_cases hlt : j < 4
    · have p1 : decide ((j : Int) < 4) = true := decide_eq_true (by omega)
      have p2 : decide (0 ≤ (j : Int)) = true := decide_eq_true (by omega)
      obtain ⟨x, hx⟩ : ∃ x : ByteArray, wr.cell? ⟨g54, j, none⟩ = some (.string x) := by
        rcases j with _ | _ | _ | _ | j
        · exact ⟨s0, (blk_cell BK.out 0).trans rfl⟩
        · exact ⟨X1, (blk_cell BK.out 1).trans rfl⟩
        · exact ⟨S4, (blk_cell BK.out 2).trans rfl⟩
        · exact ⟨X3, (blk_cell BK.out 3).trans rfl⟩
        · omega
      obtain ⟨kx, r1, r2, r3, h1, h2, h3⟩ := HP3.out x
      have H1 := Aside0.mk h1
      have H2 := Aside0.mk h2
      have H3 := Aside0.mk h3
      clear h1 h2 h3
      go_wp2_with (fail)
      refine (prefix_Parse.calls x r1 r2 r3 _ H1.out).mono ?_
      rintro e wp ⟨rfl, hb⟩
      have BKp := Aside0.mk (blk_below BK.out hb)
      have HBp := Aside0.mk (below_step HB.out hb)
      clear hb hx BK HB
      go_upto_region 9 with (fail)
      obtain ⟨g14, hg14⟩ : ∃ x : Nat, x = wp.heap.size := ⟨_, rfl⟩
      obtain ⟨V, hV⟩ : ∃ x : World, x = wp.alloc (.cells #[.int .u32 r1, .int .u8 r2] 24 (0, 0)) := ⟨_, rfl⟩
      rw [← hV, ← hg14]
      have BK14 := Aside0.mk (show V.heap[g14]? = some (.cells #[.int .u32 r1, .int .u8 r2] 24 (0, 0)) from by rw [hV, hg14]; exact heap_alloc_new _ _)
      have BKV := Aside0.mk (show V.heap[g54]? = some (.cells #[.string s0, .string X1, .string S4, .string X3] 9 (0, 0)) from by rw [hV]; exact blk_alloc BKp.out _)
      have HBV := Aside0.mk (show Below w.heap.size w V from by rw [hV]; exact below_alloc HBp.out _)
      clear hV hg14 BKp HBp
      have y0 : V.cell? ⟨g14, 0, none⟩ = some (.int .u32 r1) := (blk_cell BK14.out 0).trans rfl
      have y1 : V.cell? ⟨g14, 1, none⟩ = some (.int .u8 r2) := (blk_cell BK14.out 1).trans rfl
      by_cases hr : r3 = 0
      · obtain ⟨ht, hrt⟩ := H2.out hr
        have HT := Aside0.mk ht
        have HRT := Aside0.mk hrt
        subst hr
        clear ht hrt H1 H2 H3
        go_wp2_with (fail)
        refine (milestoneref01_Text.calls kx r1 r2 x _ HT.out).mono ?_
        rintro e w8 ⟨rfl, hb⟩
        have BK14' := Aside0.mk (blk_below BK14.out hb)
        have BK8 := Aside0.mk (blk_below BKV.out hb)
        have HB8 := Aside0.mk (below_step HBV.out hb)
        clear hb y0 y1 BK14 BKV HBV
        have y0 : w8.cell? ⟨g14, 0, none⟩ = some (.int .u32 r1) := (blk_cell BK14'.out 0).trans rfl
        have y1 : w8.cell? ⟨g14, 1, none⟩ = some (.int .u8 r2) := (blk_cell BK14'.out 1).trans rfl
        go_wp2_with (fail)
        refine (milestoneref01_Right.calls kx r1 r2 true _ HRT.out).mono ?_
        rintro e w9 ⟨rfl, hb⟩
        have BK9 := Aside0.mk (blk_below BK8.out hb)
        have HB9 := Aside0.mk (below_step HB8.out hb)
        clear hb y0 y1 BK14' BK8 HB8
        go_wp2_with (fail)
        go_roundg (4 - (j + 1))
        case measure => omega
        case rel => exact ⟨j + 1, by go_num, by omega, Nat.le_refl _, BK9, HB9⟩
      · obtain ⟨rfl, rfl, rfl⟩ := H3.out hr
        clear H1 H2 H3 hr
        go_wp2_with (fail)
        go_roundg (4 - (j + 1))
        case measure => omega
        case rel => exact ⟨j + 1, by go_num, by omega, Nat.le_refl _, BKV, HBV⟩
    · obtain rfl : j = 4 := by omega
      go_wp2_with (fail)
      go_ret
      exact ⟨rfl, HB.out⟩

end Go.Proofs.YtfjdijphpcddnaaDoor.QPrefixParses
