-- Lines by a program of this session, for this claim.
import Derived.Test.YtpcohoeafldpmaaQTallyTablex0
namespace Go.Proofs.Ytpcohoeafldpmaa.QTallyTable
open Go.RowKit Go.Proofs.YtpcohoeafldpmaaW.PrintWords Go.Proofs.YtpcohoeafldpmaaW.PrintLast Go.Proofs.YtpcohoeafldpmaaW.PrintMore
attribute [local go_sem] max2_int min2_int max_two min_two max_three min_three max_four min_four   -- for this text's walks alone
set_option linter.unusedVariables false
set_option linter.unusedSimpArgs false

/-! ### tally_line: function 27 -/
def tally_line.l0 : Nat → Int → Int → Option (Int)
  | 0, _, _ => none
  | k + 1, x3, x6 => if x6 < 8 then (if (Go.bits .and .u32 x3 1) = 1 then (tally_line.l0 k (Go.bits .xor .u32 (x3 / 2) 2197175160) (wrap64 (x6 + 1))) else (tally_line.l0 k (x3 / 2) (wrap64 (x6 + 1)))) else (some x3)
def tally_line.f (k : Nat) (a0 : Int) : Option (Int) := tally_line.l0 k ((a0) % 4294967296) 0
theorem tally_line.mono_l : ∀ k, (∀ y0 y1, LeO (tally_line.l0 k y0 y1) (tally_line.l0 (k + 1) y0 y1))
  | 0 => fun _ _ r h => by simp [tally_line.l0] at h
  | k + 1 => by
    have ih0 := tally_line.mono_l k
    · intro y0 y1
      unfold tally_line.l0
      repeat' first
      | (with_reducible exact ih0 _ _)
      | (with_reducible exact LeO.refl _)
      | (with_reducible exact LeO.none _)
      | (with_reducible refine LeO.ite ?_ ?_)
      | (with_reducible refine LeO.bind ?_ (fun _ => ?_))
      | exact ih0 _ _
      | exact LeO.none _
      | refine LeO.ite ?_ ?_
      | refine LeO.bind ?_ (fun _ => ?_)
theorem tally_line.mono : ∀ a0 k, LeO (tally_line.f k a0) (tally_line.f (k + 1) a0) := by
  intro a0 k
  have ih0 := tally_line.mono_l k
  unfold tally_line.f
  repeat' first
      | (with_reducible exact ih0 _ _)
      | (with_reducible exact LeO.refl _)
      | (with_reducible exact LeO.none _)
      | (with_reducible refine LeO.ite ?_ ?_)
      | (with_reducible refine LeO.bind ?_ (fun _ => ?_))
      | exact ih0 _ _
      | exact LeO.none _
      | refine LeO.ite ?_ ?_
      | refine LeO.bind ?_ (fun _ => ?_)
set_option maxHeartbeats 8000000 in
set_option maxRecDepth 100000 in
theorem tally_line.calls (k : Nat) (a0 : Int) (r : Int) (w : World) (h : tally_line.f k a0 = some r) :
    Calls Try.prog 27 #[.int .u8 a0] w fun e w' => e = .returned (.int .u32 r) ∧ Drawn0 w w' := by
  have H : (tally_line.l0 k ((a0) % 4294967296) 0) = some r := h
  clear h
  have H' := Aside0.mk H
  clear H
  go_enter Try.func27, Try.ntmps27
  go_wp2
  go_loopg [3, 6] k (fun kq v3 v6 w' => ∃ (x3_1 : Int) (x6_1 : Int), v3 = .int .u32 x3_1 ∧ v6 = .int .i64 x6_1 ∧ Aside0 (tally_line.l0 kq x3_1 x6_1 = some r) ∧ Aside0 (kq ≤ k) ∧ Drawn0 w w')
  case atStart => exact ⟨((a0) % 4294967296), (0), (by first | rfl | (simp; done) | (simp [*]; done) | (refine qa_int ?_; omega) | (refine qa_int ?_; simp <;> omega)), (by first | rfl | (simp; done) | (simp [*]; done) | (refine qa_int ?_; omega) | (refine qa_int ?_; simp <;> omega)), H', ⟨Nat.le_refl _⟩, by repeat (first | exact Drawn0.refl _ | apply Drawn0.step)⟩
  case round =>
    clear H'
    obtain ⟨x3_1, x6_1, rfl, rfl, HA, HK1, ⟨m1, rfl⟩⟩ := hrel
    cases gk with
    | zero => exact absurd HA.out (by simp [tally_line.l0])
    | succ k1 =>
      have H := HA.out
      clear HA
      simp only [tally_line.l0] at H
      by_cases c2 : x6_1 < 8
      · rw [if_pos c2] at H
        have c2b0 : decide (x6_1 < 8) = true := decide_eq_true c2
        clear c2
        by_cases c3 : (Go.bits .and .u32 x3_1 1) = 1
        · rw [if_pos c3] at H
          have c3b0 : ((Go.bits .and .u32 x3_1 1) == 1) = true := beq_iff_eq.mpr c3
          have c3b1 : ((Go.bits .and .u32 x3_1 1) != 1) = false := bne_eq_false_iff_eq.mpr c3
          clear c3
          have H' := Aside0.mk H
          clear H
          go_wp2
          go_roundg k1
          case measure => have := HK1.out; omega
          case rel => exact ⟨(Go.bits .xor .u32 (x3_1 / 2) 2197175160), (wrap64 (x6_1 + 1)), (by first | rfl | (simp; done) | (simp [*]; done) | (refine qa_int ?_; omega) | (refine qa_int ?_; simp <;> omega)), (by first | rfl | (simp; done) | (simp [*]; done) | (refine qa_int ?_; omega) | (refine qa_int ?_; simp <;> omega)), H', ⟨by have := HK1.out; omega⟩, by repeat (first | exact Drawn0.refl _ | apply Drawn0.step)⟩
        · rw [if_neg c3] at H
          have c3b0 : ((Go.bits .and .u32 x3_1 1) == 1) = false := beq_eq_false_iff_ne.mpr c3
          have c3b1 : ((Go.bits .and .u32 x3_1 1) != 1) = true := bne_iff_ne.mpr c3
          have H' := Aside0.mk H
          clear H
          go_wp2
          go_roundg k1
          case measure => have := HK1.out; omega
          case rel => exact ⟨(x3_1 / 2), (wrap64 (x6_1 + 1)), (by first | rfl | (simp; done) | (simp [*]; done) | (refine qa_int ?_; omega) | (refine qa_int ?_; simp <;> omega)), (by first | rfl | (simp; done) | (simp [*]; done) | (refine qa_int ?_; omega) | (refine qa_int ?_; simp <;> omega)), H', ⟨by have := HK1.out; omega⟩, by repeat (first | exact Drawn0.refl _ | apply Drawn0.step)⟩
      · rw [if_neg c2] at H
        have c2b0 : decide (x6_1 < 8) = false := decide_eq_false c2
        clear c2
        obtain rfl := Option.some.inj H
        simp only [Option.some.injEq, Prod.mk.injEq] at H
        obtain ⟨rfl⟩ := H
        go_wp2
        go_ret
        exact ⟨by first | rfl | (simp; done) | (simp [*]; done) | (refine qa_int ?_; omega) | (refine qa_int ?_; simp <;> omega), by repeat (first | exact Drawn0.refl _ | apply Drawn0.step)⟩

/-! ### tally_More: function 25 -/
def tally_More.l0 : Nat → Int → List Int → Int → Int → Option (Int)
  | 0, _, _, _, _ => none
  | k + 1, x5, x10, x11, x12 => if x12 < x11 then (if 0 ≤ x12 then (if x12 < (x10.length : Int) then ((tally_line.f k (Go.bits .xor .u8 ((x5) % 256) (rd x10 x12))).bind fun t102 => (tally_More.l0 k (Go.bits .xor .u32 (x5 / 256) t102) x10 x11 (wrap64 (x12 + 1)))) else (none)) else (none)) else (some (Go.bits .xor .u32 IntKind.u32.max x5))
def tally_More.f (k : Nat) (a0 : Int) (l1 : List Int) : Option (Int) := tally_More.l0 k (Go.bits .xor .u32 IntKind.u32.max a0) l1 (l1.length : Int) 0
theorem tally_More.mono_l : ∀ k, (∀ y0 y1 y2 y3, LeO (tally_More.l0 k y0 y1 y2 y3) (tally_More.l0 (k + 1) y0 y1 y2 y3))
  | 0 => fun _ _ _ _ r h => by simp [tally_More.l0] at h
  | k + 1 => by
    have ih0 := tally_More.mono_l k
    · intro y0 y1 y2 y3
      unfold tally_More.l0
      repeat' first
      | (with_reducible exact ih0 _ _ _ _)
      | (with_reducible exact tally_line.mono _ _)
      | (with_reducible exact LeO.refl _)
      | (with_reducible exact LeO.none _)
      | (with_reducible refine LeO.ite ?_ ?_)
      | (with_reducible refine LeO.bind ?_ (fun _ => ?_))
      | exact ih0 _ _ _ _
      | exact tally_line.mono _ _
      | exact LeO.none _
      | refine LeO.ite ?_ ?_
      | refine LeO.bind ?_ (fun _ => ?_)
theorem tally_More.mono : ∀ a0 a1 k, LeO (tally_More.f k a0 a1) (tally_More.f (k + 1) a0 a1) := by
  intro a0 a1 k
  have ih0 := tally_More.mono_l k
  unfold tally_More.f
  repeat' first
      | (with_reducible exact ih0 _ _ _ _)
      | (with_reducible exact tally_line.mono _ _)
      | (with_reducible exact LeO.refl _)
      | (with_reducible exact LeO.none _)
      | (with_reducible refine LeO.ite ?_ ?_)
      | (with_reducible refine LeO.bind ?_ (fun _ => ?_))
      | exact ih0 _ _ _ _
      | exact tally_line.mono _ _
      | exact LeO.none _
      | refine LeO.ite ?_ ?_
      | refine LeO.bind ?_ (fun _ => ?_)
set_option maxHeartbeats 8000000 in
set_option maxRecDepth 100000 in
theorem tally_More.calls (k : Nat) (a0 : Int) (A1 : Option Addr) (c1 : Nat) (l1 : List Int) (r : Int) (w : World) (hr1 : Kd.C (Kd.int .u8) w A1 l1.length l1) (hc1 : l1.length ≤ c1) (h : tally_More.f k a0 l1 = some r) :
    Calls Try.prog 25 #[.int .u32 a0, .slice A1 l1.length c1] w fun e w' => e = .returned (.int .u32 r) ∧ Drawn0 w w' := by
  have HR1 := Aside0.mk hr1
  have HC1 := Aside0.mk hc1
  clear hr1 hc1
  have H : (tally_More.l0 k (Go.bits .xor .u32 IntKind.u32.max a0) l1 (l1.length : Int) 0) = some r := h
  clear h
  have H' := Aside0.mk H
  clear H
  go_enter Try.func25, Try.ntmps25
  go_wp2
  go_loopg [5, 12] k (fun kq v5 v12 w' => ∃ (x5_1 : Int) (x12_1 : Int), v5 = .int .u32 x5_1 ∧ v12 = .int .i64 x12_1 ∧ Aside0 (tally_More.l0 kq x5_1 l1 (l1.length : Int) x12_1 = some r) ∧ Aside0 (kq ≤ k) ∧ Drawn0 w w')
  case atStart => exact ⟨(Go.bits .xor .u32 IntKind.u32.max a0), (0), (by first | rfl | (simp; done) | (simp [*]; done) | (refine qa_int ?_; omega) | (refine qa_int ?_; simp <;> omega)), (by first | rfl | (simp; done) | (simp [*]; done) | (refine qa_int ?_; omega) | (refine qa_int ?_; simp <;> omega)), H', ⟨Nat.le_refl _⟩, by repeat (first | exact Drawn0.refl _ | apply Drawn0.step)⟩
  case round =>
    clear H'
    try clear c1
    try clear c2
    try clear p2
    obtain ⟨x5_1, x12_1, rfl, rfl, HA, HK1, ⟨m1, rfl⟩⟩ := hrel
    cases gk with
    | zero => exact absurd HA.out (by simp [tally_More.l0])
    | succ k1 =>
      have H := HA.out
      clear HA
      simp only [tally_More.l0] at H
      by_cases c3 : x12_1 < (l1.length : Int)
      · rw [if_pos c3] at H
        have c3b0 : decide (x12_1 < (l1.length : Int)) = true := decide_eq_true c3
        clear c3
        by_cases c4 : 0 ≤ x12_1
        · rw [if_pos c4] at H
          have c4b0 : decide (0 ≤ x12_1) = true := decide_eq_true c4
          clear c4
          by_cases c5 : x12_1 < (l1.length : Int)
          · rw [if_pos c5] at H
            have c5b0 : decide (x12_1 < (l1.length : Int)) = true := decide_eq_true c5
            clear c5
            replace H := Option.bind_eq_some_iff.mp H
            obtain ⟨t102, A60, H⟩ := H
            replace H : (tally_More.l0 k1 (Go.bits .xor .u32 (x5_1 / 256) t102) l1 (l1.length : Int) (wrap64 (x12_1 + 1))) = some r := H
            have A6 := Aside0.mk A60
            clear A60
            have H' := Aside0.mk H
            clear H
            have p101 : 0 ≤ (x12_1 : Int) := of_decide_eq_true (by first | (with_reducible assumption) | assumption)
            have q101 : x12_1 < (l1.length : Int) := of_decide_eq_true (by first | (with_reducible assumption) | assumption)
            obtain ⟨ad101, e101, hx101_0⟩ := Kd.at_int HR1.out x12_1 p101 q101
            cases e101
            replace p101 := eq_true p101
            replace q101 := eq_true q101
            go_wp2_with (first | ((with_reducible refine gate_callee (f := 27) rfl ?_); refine goesL_ (some 22) rfl rfl Try.func27 (by kernel_rfl) rfl #[.int .u8 (Go.bits .xor .u8 ((x5_1) % 256) (rd l1 x12_1))] rfl (by (try simp only [List.map_toArray, List.map_cons, List.map_nil]); first | done | rfl | (simp only [List.length_drop, List.length_take]; rfl) | (simp; done) | (refine qa_arr ?_; (repeat' (first | rfl | refine qa_cons ?_ ?_ | refine qa_int ?_ | refine qa_agg ?_ | refine qa_arr ?_ | omega)); done)) ?_; (with_reducible refine (tally_line.calls k1 (Go.bits .xor .u8 ((x5_1) % 256) (rd l1 x12_1)) t102 _ A6.out).mono ?_); rintro e w' ⟨rfl, ⟨nd, rfl⟩⟩; refine ⟨_, rfl, ?_⟩))
            go_roundg k1
            case measure => have := HK1.out; omega
            case rel => exact ⟨(Go.bits .xor .u32 (x5_1 / 256) t102), (wrap64 (x12_1 + 1)), (by first | rfl | (simp; done) | (simp [*]; done) | (refine qa_int ?_; omega) | (refine qa_int ?_; simp <;> omega)), (by first | rfl | (simp; done) | (simp [*]; done) | (refine qa_int ?_; omega) | (refine qa_int ?_; simp <;> omega)), H', ⟨by have := HK1.out; omega⟩, by repeat (first | exact Drawn0.refl _ | apply Drawn0.step)⟩
          · rw [if_neg c5] at H
            exact absurd H (by simp)
        · rw [if_neg c4] at H
          exact absurd H (by simp)
      · rw [if_neg c3] at H
        have c3b0 : decide (x12_1 < (l1.length : Int)) = false := decide_eq_false c3
        clear c3
        obtain rfl := Option.some.inj H
        simp only [Option.some.injEq, Prod.mk.injEq] at H
        obtain ⟨rfl⟩ := H
        go_wp2
        go_ret
        exact ⟨by first | rfl | (simp; done) | (simp [*]; done) | (refine qa_int ?_; omega) | (refine qa_int ?_; simp <;> omega), by repeat (first | exact Drawn0.refl _ | apply Drawn0.step)⟩

/-! ### tally_Sum: function 23 -/
def tally_Sum.f (k : Nat) (l0 : List Int) : Option (Int) := (tally_More.f k 0 l0).bind fun t103 => (some t103)
theorem tally_Sum.mono : ∀ a0 k, LeO (tally_Sum.f k a0) (tally_Sum.f (k + 1) a0) := by
  intro a0 k
  unfold tally_Sum.f
  repeat' first
      | (with_reducible exact tally_More.mono _ _ _)
      | (with_reducible exact LeO.refl _)
      | (with_reducible exact LeO.none _)
      | (with_reducible refine LeO.ite ?_ ?_)
      | (with_reducible refine LeO.bind ?_ (fun _ => ?_))
      | exact tally_More.mono _ _ _
      | exact LeO.none _
      | refine LeO.ite ?_ ?_
      | refine LeO.bind ?_ (fun _ => ?_)
set_option maxHeartbeats 8000000 in
set_option maxRecDepth 100000 in
theorem tally_Sum.calls (k : Nat) (A0 : Option Addr) (c0 : Nat) (l0 : List Int) (r : Int) (w : World) (hr0 : Kd.C (Kd.int .u8) w A0 l0.length l0) (hc0 : l0.length ≤ c0) (h : tally_Sum.f k l0 = some r) :
    Calls Try.prog 23 #[.slice A0 l0.length c0] w fun e w' => e = .returned (.int .u32 r) ∧ Drawn0 w w' := by
  have HR0 := Aside0.mk hr0
  have HC0 := Aside0.mk hc0
  clear hr0 hc0
  have H : ((tally_More.f k 0 l0).bind fun t103 => (some t103)) = some r := h
  clear h
  replace H := Option.bind_eq_some_iff.mp H
  obtain ⟨t103, A20, H⟩ := H
  replace H : (some t103) = some r := H
  have A2 := Aside0.mk A20
  clear A20
  obtain rfl := Option.some.inj H
  simp only [Option.some.injEq, Prod.mk.injEq] at H
  obtain ⟨rfl⟩ := H
  go_enter Try.func23, Try.ntmps23
  go_wp2_with (first | ((with_reducible refine gate_callee (f := 25) rfl ?_); refine goesL_ (some 4) rfl rfl Try.func25 (by kernel_rfl) rfl #[.int .u32 0, .slice A0 l0.length c0] rfl (by (try simp only [List.map_toArray, List.map_cons, List.map_nil]); first | done | rfl | (simp only [List.length_drop, List.length_take]; rfl) | (simp; done) | (refine qa_arr ?_; (repeat' (first | rfl | refine qa_cons ?_ ?_ | refine qa_int ?_ | refine qa_agg ?_ | refine qa_arr ?_ | omega)); done)) ?_; (with_reducible refine (tally_More.calls k 0 _ _ l0 t103 _ ?side1 ?side2 A2.out).mono ?_); (case side1 => repeat (first | exact HR0.out | (with_reducible refine Kd.C_alloc ?_ _) | (with_reducible refine Kd.C_drewN ?_ _) | (with_reducible refine Kd.C_drew ?_))); (case side2 => exact HC0.out); rintro e w' ⟨rfl, ⟨nd, rfl⟩⟩; refine ⟨_, rfl, ?_⟩) | ((with_reducible refine gate_callee (f := 25) rfl ?_); refine goesL_ _ rfl rfl Try.func25 (by kernel_rfl) rfl #[.int .u32 0, .slice A0 l0.length c0] rfl (by (try simp only [List.map_toArray, List.map_cons, List.map_nil]); first | done | rfl | (simp only [List.length_drop, List.length_take]; rfl) | (simp; done) | (refine qa_arr ?_; (repeat' (first | rfl | refine qa_cons ?_ ?_ | refine qa_int ?_ | refine qa_agg ?_ | refine qa_arr ?_ | omega)); done)) ?_; (with_reducible refine (tally_More.calls k 0 _ _ l0 t103 _ ?side1b ?side2b A2.out).mono ?_); (case side1b => repeat (first | exact HR0.out | (with_reducible refine Kd.C_alloc ?_ _) | (with_reducible refine Kd.C_drewN ?_ _) | (with_reducible refine Kd.C_drew ?_))); (case side2b => exact HC0.out); rintro e w' ⟨rfl, ⟨nd, rfl⟩⟩; refine ⟨_, rfl, ?_⟩) | (go_at_call 25; (with_reducible refine (tally_More.calls k 0 _ _ l0 t103 _ ?side1c ?side2c A2.out).mono ?_); (case side1c => repeat (first | exact HR0.out | (with_reducible refine Kd.C_alloc ?_ _) | (with_reducible refine Kd.C_drewN ?_ _) | (with_reducible refine Kd.C_drew ?_))); (case side2c => exact HC0.out); rintro e w' ⟨rfl, ⟨nd, rfl⟩⟩))
  go_ret
  exact ⟨by first | rfl | (simp; done) | (simp [*]; done) | (refine qa_int ?_; omega) | (refine qa_int ?_; simp <;> omega), by repeat (first | exact Drawn0.refl _ | apply Drawn0.step)⟩

/-! ### milestonelaw04_awake: function 22 -/
def milestonelaw04_awake.f (k : Nat) : Option (Bool) := (tally_Sum.f k (([49, 50, 51, 52, 53, 54, 55, 56, 57] : List Int))).bind fun t107 => (some (t107 == 3808858755))
theorem milestonelaw04_awake.mono : ∀ k, LeO (milestonelaw04_awake.f k) (milestonelaw04_awake.f (k + 1)) := by
  intro k
  unfold milestonelaw04_awake.f
  exact LeO.bind (tally_Sum.mono _ _) (fun _ => LeO.refl _)
theorem milestonelaw04_awake.reads (w : World) (C : Array Value) (hC : C = #[.int .u8 49, .int .u8 50, .int .u8 51, .int .u8 52, .int .u8 53, .int .u8 54, .int .u8 55, .int .u8 56, .int .u8 57]) :
    Kd.C (Kd.int .u8) (w.alloc (.cells C 5 (C.size, C.size + 1))) (some ⟨w.heap.size, 0, none⟩) 9 ([49, 50, 51, 52, 53, 54, 55, 56, 57] : List Int) := by
  refine Kd.C_of_reads (d := (0 : Int)) (h1 := fun _ => rfl) ⟨rfl, by omega, fun _ => ⟨_, rfl, fun j hj => ?_⟩⟩
  have hb : (w.alloc (.cells C 5 (C.size, C.size + 1))).heap[w.heap.size]? = some (.cells C 5 (C.size, C.size + 1)) := by
    show (w.heap.push _)[w.heap.size]? = _
    simp
  rw [add_plain]
  unfold World.cell?
  dsimp only
  rw [hb]
  subst hC
  match j, hj with
  | 0, _ => rfl
  | 1, _ => rfl
  | 2, _ => rfl
  | 3, _ => rfl
  | 4, _ => rfl
  | 5, _ => rfl
  | 6, _ => rfl
  | 7, _ => rfl
  | 8, _ => rfl
set_option maxHeartbeats 8000000 in
set_option maxRecDepth 100000 in
theorem milestonelaw04_awake.calls (k : Nat) (r : Bool) (w : World) (h : milestonelaw04_awake.f k = some r) :
    Calls Try.prog 22 #[] w fun e w' => e = .returned (.bool r) ∧ Below w.heap.size w w' := by
  unfold milestonelaw04_awake.f at h
  replace h := Option.bind_eq_some_iff.mp h
  obtain ⟨t107, A10, h⟩ := h
  have A1 := Aside0.mk A10
  clear A10
  obtain rfl := Option.some.inj h
  clear h
  have HC := Aside0.mk (milestonelaw04_awake.reads w _ rfl)
  have kc := fun (w : World) (C : Array Value) (n c : Nat) => Lib.run_convert_bytes_const (P := Try.prog) w 38 5 C n c Try.underlying38 Try.underlying5
  go_enter Try.func22, Try.ntmps22
  go_wp2_with (fail)
  refine (tally_Sum.calls k (some ⟨w.heap.size, 0, none⟩) 9 ([49, 50, 51, 52, 53, 54, 55, 56, 57] : List Int) t107 _ HC.out (by simp) A1.out).mono ?_
  rintro e w' ⟨rfl, ⟨nd, rfl⟩⟩
  go_wp2
  go_ret
  exact ⟨rfl, by repeat (first | (with_reducible first | exact Below.refl _ _ | apply below_alloc | apply pw_below_drewN | apply below_drew1) | exact Below.refl _ _)⟩

/-! ### tally_Table: function 26 -/
/-! ## the sum's own arithmetic, over natural numbers -/
def crcP : Nat := 2197175160
def crcS (x : Nat) : Nat := if x % 2 = 1 then x / 2 ^^^ crcP else x / 2
def crcI : Nat → Nat → Nat
  | 0, x => x
  | n + 1, x => crcI n (crcS x)
theorem crcS_xor (x y : Nat) : crcS (x ^^^ y) = crcS x ^^^ crcS y := by
  have hm : (x ^^^ y) % 2 = (x + y) % 2 := by
    have h : (x ^^^ y) % 2 ^ 1 = (x % 2 ^ 1) ^^^ (y % 2 ^ 1) := Nat.xor_mod_two_pow
    rw [Nat.pow_one] at h
    rw [h, Nat.add_mod]
    rcases Nat.mod_two_eq_zero_or_one x with a | a <;> rcases Nat.mod_two_eq_zero_or_one y with b | b <;> rw [a, b] <;> rfl
  have hd : (x ^^^ y) / 2 = x / 2 ^^^ y / 2 := Nat.xor_div_two
  unfold crcS
  rw [hm, hd]
  by_cases a : x % 2 = 1
  · by_cases b : y % 2 = 1
    · rw [if_neg (by omega), if_pos a, if_pos b]
      have e : x / 2 ^^^ crcP ^^^ (y / 2 ^^^ crcP) = x / 2 ^^^ y / 2 ^^^ (crcP ^^^ crcP) := by ac_rfl
      rw [e, Nat.xor_self, Nat.xor_zero]
    · rw [if_pos (by omega), if_pos a, if_neg b]
      ac_rfl
  · by_cases b : y % 2 = 1
    · rw [if_pos (by omega), if_neg a, if_pos b]
      ac_rfl
    · rw [if_neg (by omega), if_neg a, if_neg b]
theorem crcS_two (z : Nat) : crcS (2 * z) = z := by
  unfold crcS
  rw [if_neg (by omega)]
  omega
theorem crcS_lt (x : Nat) (h : x < 4294967296) : crcS x < 4294967296 := by
  unfold crcS
  split
  · exact Nat.xor_lt_two_pow (n := 32) (by omega) (by unfold crcP; omega)
  · omega
theorem crcI_xor : ∀ (n x y : Nat), crcI n (x ^^^ y) = crcI n x ^^^ crcI n y
  | 0, _, _ => rfl
  | n + 1, x, y => by rw [crcI, crcS_xor, crcI_xor n]; rfl
theorem crcI_lt : ∀ (n x : Nat), x < 4294967296 → crcI n x < 4294967296
  | 0, _, h => h
  | n + 1, x, h => crcI_lt n _ (crcS_lt x h)
theorem crcI_shift : ∀ (n z : Nat), crcI n (2 ^ n * z) = z
  | 0, z => by simp [crcI]
  | n + 1, z => by
    rw [crcI, Nat.pow_succ, Nat.mul_comm (2 ^ n) 2, Nat.mul_assoc, crcS_two, crcI_shift n z]
theorem xor_split (x : Nat) : x = 256 * (x / 256) ^^^ x % 256 := by
  apply Nat.eq_of_testBit_eq
  intro i
  have h := Nat.testBit_two_pow_mul_add (x / 256) (show x % 2 ^ 8 < 2 ^ 8 from Nat.mod_lt _ (by omega)) i
  have e : 2 ^ 8 * (x / 256) + x % 2 ^ 8 = x := by omega
  rw [e] at h
  rw [h, Nat.testBit_xor, show (256 : Nat) = 2 ^ 8 from rfl, Nat.testBit_two_pow_mul, Nat.testBit_mod_two_pow]
  by_cases hi : i < 8
  · simp [hi, Nat.not_le.2 hi]
  · simp [hi, Nat.not_lt.1 hi]
theorem crc_byte (x : Nat) : crcI 8 x = x / 256 ^^^ crcI 8 (x % 256) := by
  have h := congrArg (crcI 8) (xor_split x)
  rw [crcI_xor, show (256 : Nat) * (x / 256) = 2 ^ 8 * (x / 256) from rfl, crcI_shift] at h
  exact h
theorem crc_step (r b : Nat) (hb : b < 256) : crcI 8 (r ^^^ b) = r / 256 ^^^ crcI 8 (r % 256 ^^^ b) := by
  have h1 : (r ^^^ b) / 2 ^ 8 = r / 2 ^ 8 ^^^ b / 2 ^ 8 := Nat.xor_div_two_pow
  have h2 : (r ^^^ b) % 2 ^ 8 = r % 2 ^ 8 ^^^ b % 2 ^ 8 := Nat.xor_mod_two_pow
  have e : (2 : Nat) ^ 8 = 256 := rfl
  rw [e] at h1 h2
  rw [crc_byte, h1, h2, Nat.div_eq_of_lt hb, Nat.mod_eq_of_lt hb, Nat.xor_zero]
theorem line_loop (n : Nat) : ∀ (i x k : Nat), i + n = 8 → n < k → x < 4294967296 → tally_line.l0 k (x : Int) (i : Int) = some ((crcI n x : Nat) : Int) := by
  induction n with
  | zero =>
    intro i x k hi hk _
    obtain ⟨k, rfl⟩ : ∃ m, k = m + 1 := ⟨k - 1, by omega⟩
    rw [tally_line.l0, if_neg (by omega)]
    rfl
  | succ n ih =>
    intro i x k hi hk hx
    obtain ⟨k, rfl⟩ : ∃ m, k = m + 1 := ⟨k - 1, by omega⟩
    have e1 : wrap64 ((i : Int) + 1) = ((i + 1 : Nat) : Int) := by unfold wrap64; omega
    have e2 : Go.bits .and .u32 (x : Int) 1 = ((x % 2 : Nat) : Int) := by
      have := u32_and_nat x 1 hx (by omega)
      rw [Nat.and_one_is_mod] at this
      exact this
    have e3 : (x : Int) / 2 = ((x / 2 : Nat) : Int) := by omega
    have e4 : Go.bits .xor .u32 ((x / 2 : Nat) : Int) 2197175160 = ((x / 2 ^^^ crcP : Nat) : Int) := u32_xor_nat (x / 2) 2197175160 (by omega) (by omega)
    have hs := crcS_lt x hx
    rw [tally_line.l0, if_pos (by omega), e1, e2, e3, e4]
    by_cases h : x % 2 = 1
    · have e5 : crcS x = x / 2 ^^^ crcP := by unfold crcS; rw [if_pos h]
      rw [if_pos (by omega), crcI, e5]
      rw [e5] at hs
      exact ih (i + 1) _ k (by omega) (by omega) hs
    · have e5 : crcS x = x / 2 := by unfold crcS; rw [if_neg h]
      rw [if_neg (by omega), crcI, e5]
      rw [e5] at hs
      exact ih (i + 1) _ k (by omega) (by omega) hs
theorem line_is (k b : Nat) (hb : b < 256) : tally_line.f (k + 9) (b : Int) = some ((crcI 8 b : Nat) : Int) := by
  unfold tally_line.f
  have e : (b : Int) % 4294967296 = (b : Int) := by omega
  rw [e]
  exact line_loop 8 0 b (k + 9) (by omega) (by omega) (by omega)
/-- bytes fed to a register -/
def crcB (x : Nat) : Nat := crcI 8 x
def crcF (r : Nat) (q : List Int) : Nat := q.foldl (fun r b => crcB (r ^^^ b.toNat)) r
theorem crcF_nil (r : Nat) : crcF r [] = r := List.foldl_nil
theorem crcF_cons (r : Nat) (b : Int) (q : List Int) : crcF r (b :: q) = crcF (crcB (r ^^^ b.toNat)) q := List.foldl_cons ..
def crcM : Nat := 4294967295
theorem crcM_lt : crcM < 4294967296 := by unfold crcM; omega
def crcV (x : Nat) : Nat := crcM ^^^ x
theorem crcV_lt (x : Nat) (h : x < 4294967296) : crcV x < 4294967296 := by
  unfold crcV
  exact Nat.xor_lt_two_pow (n := 32) crcM_lt h
theorem crcV_bits (x : Nat) (h : x < 4294967296) : Go.bits .xor .u32 IntKind.u32.max (x : Int) = ((crcV x : Nat) : Int) := u32_xor_nat crcM x crcM_lt h
theorem xor_twice (m x : Nat) : m ^^^ (m ^^^ x) = x := by rw [← Nat.xor_assoc, Nat.xor_self, Nat.zero_xor]
theorem crcV_is (x : Nat) : crcV x = crcM ^^^ x := by rw [crcV]
theorem crcV_twice (x : Nat) : crcV (crcV x) = x := by rw [crcV_is, crcV_is, xor_twice]
def isBytes (l : List Int) : Prop := ∀ x ∈ l, 0 ≤ x ∧ x < 256
theorem crcF_lt : ∀ (q : List Int) (r : Nat), isBytes q → r < 4294967296 → crcF r q < 4294967296
  | [], r, _, h => by rw [crcF_nil]; exact h
  | b :: q, r, hq, h => by
    have hb := hq b List.mem_cons_self
    rw [crcF_cons]
    exact crcF_lt q _ (fun z hz => hq z (List.mem_cons_of_mem _ hz)) (crcI_lt 8 _ (Nat.xor_lt_two_pow (n := 32) h (by omega)))
theorem crcF_append : ∀ (p q : List Int) (r : Nat), crcF r (p ++ q) = crcF (crcF r p) q
  | [], q, r => by rw [List.nil_append, crcF_nil]
  | b :: p, q, r => by rw [List.cons_append, crcF_cons, crcF_cons, crcF_append p q]
theorem rd_drop (q : List Int) (i : Nat) (hi : i < q.length) : q.drop i = rd q i :: q.drop (i + 1) := by
  rw [List.drop_eq_getElem_cons hi]
  congr 1
  unfold rd
  simp [List.getD_eq_getElem?_getD, List.getElem?_eq_getElem hi]
theorem rd_byte (q : List Int) (hq : isBytes q) (i : Nat) (hi : i < q.length) : 0 ≤ rd q i ∧ rd q i < 256 := by
  have := rd_drop q i hi
  have h : rd q i ∈ q.drop i := by rw [this]; exact List.mem_cons_self
  exact hq _ (List.mem_of_mem_drop h)
theorem more_loop (q : List Int) (hq : isBytes q) (hl : q.length < 1000000) (d : Nat) : ∀ (i r k : Nat), i + d = q.length → d + 10 < k → r < 4294967296 →
    tally_More.l0 k (r : Int) q (q.length : Int) (i : Int) = some ((crcV (crcF r (q.drop i)) : Nat) : Int) := by
  induction d with
  | zero =>
    intro i r k hi hk hr
    obtain ⟨k, rfl⟩ : ∃ m, k = m + 1 := ⟨k - 1, by omega⟩
    rw [tally_More.l0, if_neg (by omega), crcV_bits r hr, List.drop_eq_nil_of_le (by omega), crcF_nil]
  | succ d ih =>
    intro i r k hi hk hr
    obtain ⟨k, rfl⟩ : ∃ m, k = m + 9 + 1 := ⟨k - 10, by omega⟩
    have hb := rd_byte q hq i (by omega)
    obtain ⟨b, hbe⟩ := Int.eq_ofNat_of_zero_le hb.1
    have hbn : b < 256 := by omega
    have e1 : wrap64 ((i : Int) + 1) = ((i + 1 : Nat) : Int) := by unfold wrap64; omega
    have e2 : (r : Int) % 256 = ((r % 256 : Nat) : Int) := by omega
    have e3 : (r : Int) / 256 = ((r / 256 : Nat) : Int) := by omega
    have hx : r % 256 ^^^ b < 256 := Nat.xor_lt_two_pow (n := 8) (by omega) (by omega)
    have hc : crcI 8 (r % 256 ^^^ b) < 4294967296 := crcI_lt 8 _ (by omega)
    have hd : r / 256 < 4294967296 := by omega
    have hn : r / 256 ^^^ crcI 8 (r % 256 ^^^ b) < 4294967296 := Nat.xor_lt_two_pow (n := 32) hd hc
    have key := ih (i + 1) (r / 256 ^^^ crcI 8 (r % 256 ^^^ b)) (k + 9) (by omega) (by omega) hn
    have t1 : (i : Int) < (q.length : Int) := by omega
    have t2 : (0 : Int) ≤ (i : Int) := by omega
    have t3 : Go.bits .xor .u8 ((r : Int) % 256) (rd q i) = ((r % 256 ^^^ b : Nat) : Int) := by
      rw [e2, hbe]
      exact u8_xor_nat (r % 256) b (by omega) hbn
    have t4 : q.drop i = (b : Int) :: q.drop (i + 1) := by rw [rd_drop q i (by omega), hbe]
    have t5 := line_is k _ hx
    have t6 : Go.bits .xor .u32 ((r : Int) / 256) ((crcI 8 (r % 256 ^^^ b) : Nat) : Int) = ((r / 256 ^^^ crcI 8 (r % 256 ^^^ b) : Nat) : Int) := by
      rw [e3]
      exact u32_xor_nat _ _ hd hc
    clear ih e2 e3 hx hc hd
    rw [tally_More.l0, if_pos t1, if_pos t2, if_pos t1, t3, t5, Option.bind_some, t6, e1, key, t4, crcF_cons, Int.toNat_natCast, crcB, crc_step r b hbn]
theorem more_is (k s : Nat) (q : List Int) (hq : isBytes q) (hl : q.length < 1000000) (hk : q.length + 10 < k) (hs : s < 4294967296) : tally_More.f k (s : Int) q = some ((crcV (crcF (crcV s) q) : Nat) : Int) := by
  unfold tally_More.f
  rw [crcV_bits s hs]
  exact more_loop q hq hl q.length 0 _ k (by omega) hk (crcV_lt s hs)
theorem sum_is (k : Nat) (q : List Int) (hq : isBytes q) (hl : q.length < 1000000) (hk : q.length + 10 < k) : tally_Sum.f k q = some ((crcV (crcF crcM q) : Nat) : Int) := by
  unfold tally_Sum.f
  have h := more_is k 0 q hq hl hk (by omega)
  have e : crcV 0 = crcM := by unfold crcV; rw [Nat.xor_zero]
  rw [e] at h
  rw [show (0 : Int) = ((0 : Nat) : Int) from rfl, h, Option.bind_some]
theorem xor_zero_eq {a b : Nat} (h : a ^^^ b = 0) : a = b := by
  have e : a ^^^ b ^^^ b = 0 ^^^ b := by rw [h]
  rw [Nat.xor_assoc, Nat.xor_self, Nat.xor_zero, Nat.zero_xor] at e
  exact e
theorem crcS_ne (x : Nat) (h : x < 4294967296) (hx : x ≠ 0) : crcS x ≠ 0 := by
  unfold crcS
  split
  · intro e
    have := xor_zero_eq e
    unfold crcP at this
    omega
  · omega
theorem crcI_ne : ∀ (n x : Nat), x < 4294967296 → x ≠ 0 → crcI n x ≠ 0
  | 0, _, _, h => h
  | n + 1, x, h, hx => crcI_ne n _ (crcS_lt x h) (crcS_ne x h hx)
theorem nine : isBytes [49, 50, 51, 52, 53, 54, 55, 56, 57] := by
  intro x hx
  simp only [List.mem_cons, List.not_mem_nil, or_false] at hx
  omega
theorem nine_sum : crcV (crcF crcM [49, 50, 51, 52, 53, 54, 55, 56, 57]) = 3808858755 := by decide +kernel
theorem awake_is (k : Nat) (hk : 19 < k) : milestonelaw04_awake.f k = some true := by
  unfold milestonelaw04_awake.f
  rw [sum_is k _ nine (by decide) hk, Option.bind_some, nine_sum]
  rfl
def tl (i : Nat) : Int := ((crcI 8 i : Nat) : Int)
def tcells (i : Nat) : Array Value := ((List.range 256).map fun j => if j < i then Value.int .u32 (tl j) else Value.int .u32 0).toArray
theorem tcells_at (i j : Nat) (h : j < 256) : (tcells i)[j]? = some (if j < i then Value.int .u32 (tl j) else Value.int .u32 0) := by
  unfold tcells
  rw [List.getElem?_toArray, List.getElem?_map, List.getElem?_range h]
  rfl
theorem tcells_size (i : Nat) : (tcells i).size = 256 := by
  unfold tcells
  rw [List.size_toArray, List.length_map, List.length_range]
theorem tcells_set (i : Nat) (h : i < 256) : (tcells i).setIfInBounds i (.int .u32 (tl i)) = tcells (i + 1) := by
  apply Array.ext
  · rw [Array.size_setIfInBounds, tcells_size, tcells_size]
  · intro j h1 h2
    have hj : j < 256 := by rw [tcells_size] at h2; exact h2
    rw [Array.getElem_setIfInBounds (by rw [tcells_size]; exact hj)]
    have e1 := tcells_at i j hj
    have e2 := tcells_at (i + 1) j hj
    rw [Array.getElem?_eq_getElem (by rw [tcells_size]; exact hj)] at e1 e2
    rw [Option.some.inj e2]
    by_cases hij : i = j
    · subst hij
      rw [if_pos rfl, if_pos (by omega)]
    · rw [if_neg hij, Option.some.inj e1]
      by_cases hlt : j < i
      · rw [if_pos hlt, if_pos (by omega)]
      · rw [if_neg hlt, if_neg (by omega)]
theorem zero49 : ∀ w : World, Sem.run Try.prog (zeroValue 49) w = .ok (.agg (tcells 0)) w := fun _ => by kernel_rfl
set_option maxHeartbeats 8000000 in
set_option maxRecDepth 100000 in
theorem table_any (w : World) : Calls Try.prog 26 #[] w fun e w' => e = .returned (.pointer (some ⟨w.heap.size, 0, none⟩)) ∧ w'.heap[w.heap.size]? = some (.cells (tcells 256) 49 (0, 0)) ∧ Below w.heap.size w w' := by
  have hz := zero49
  have h0 : (w.alloc (.cells (tcells 0) 49)).heap[w.heap.size]? = some (.cells (tcells 0) 49 (0, 0)) := by
    simpa using heap_alloc_new w (.cells (tcells 0) 49)
  have H0 := Aside0.mk h0
  clear h0
  go_enter Try.func26, Try.ntmps26
  go_wp2
  clear hz
  go_loopw [2, 3] (fun v2 v3 wr => ∃ i : Nat, i ≤ 256 ∧ v3 = .int .i64 i ∧ Aside0 (wr.heap[w.heap.size]? = some (.cells (tcells i) 49 (0, 0))) ∧ Aside0 (Below w.heap.size w wr)) (fun _ v3 _ => 256 - (intOf v3).toNat)
  case atStart => exact ⟨0, by omega, rfl, H0, ⟨below_alloc (Below.refl _ _) _⟩⟩
  case round =>
    clear H0
    obtain ⟨i, hi, rfl, HH, HB⟩ := hrel
    by_cases hlt : i < 256
    · have hL := Aside0.mk (line_is 0 i hlt)
      have hc : wr.cell? ⟨w.heap.size, i, none⟩ = some (.int .u32 0) := by rw [blk_cell HH.out, tcells_at i i hlt, if_neg (by omega)]
      have hf : wr.frozen? ⟨w.heap.size, i, none⟩ = false := blk_frozen HH.out i
      go_wp2_with (go_at_call 27; refine (tally_line.calls 9 _ _ _ hL.out).mono ?_; rintro e w' ⟨rfl, ⟨nd, rfl⟩⟩)
      go_roundw
      case rel => exact ⟨i + 1, by omega, by go_num, ⟨by have h := blk_set HH.out i (.int .u32 (tl i)); rw [tcells_set i hlt] at h; exact h⟩, ⟨by repeat (first | exact HB.out | apply pw_below_drewN | apply below_drew1 | refine below_set ?_ (Nat.le_refl _))⟩⟩
      case measure => simp [intOf]; omega
    · have e : i = 256 := by omega
      subst e
      go_wp2
      go_ret
      exact ⟨rfl, HH.out, HB.out⟩

/-! ### milestonelaw04_TallyTable: function 11 -/
theorem tl_xor (a b : Nat) (ha : a < 256) (hb : b < 256) : Go.bits .xor .u32 (tl a) (tl b) = tl (a ^^^ b) := by
  unfold tl
  rw [crcI_xor]
  exact u32_xor_nat _ _ (crcI_lt 8 a (by omega)) (crcI_lt 8 b (by omega))
theorem tl_inj (a b : Nat) (ha : a < 256) (hb : b < 256) : tl a = tl b ↔ a = b := by
  constructor
  · intro h
    have e : crcI 8 a = crcI 8 b := Int.natCast_inj.1 h
    apply Classical.byContradiction
    intro hne
    have hx : a ^^^ b < 4294967296 := Nat.xor_lt_two_pow (n := 32) (by omega) (by omega)
    apply crcI_ne 8 (a ^^^ b) hx (fun h0 => hne (xor_zero_eq h0))
    rw [crcI_xor, e, Nat.xor_self]
  · intro h; rw [h]
theorem tl_0 : tl 0 = 0 := by decide +kernel
theorem tl_128 : tl 128 = 2197175160 := by decide +kernel
set_option maxHeartbeats 8000000 in
set_option maxRecDepth 100000 in
theorem milestonelaw04_TallyTable.walk (a0 : Int) (a1 : Int) (w : World) (w0 : (Lit.int .u8 a0).wf = true) (w1 : (Lit.int .u8 a1).wf = true) :
    Calls Try.prog 11 #[.int .u8 a0, .int .u8 a1] w fun e w' => e = .returned (.bool true) ∧ Below w.heap.size w w' := by
  have hb0 := Go.bounds_u8 w0
  have hb1 := Go.bounds_u8 w1
  clear w0 w1
  obtain ⟨a, ea⟩ := Int.eq_ofNat_of_zero_le hb0.1
  obtain ⟨b, eb⟩ := Int.eq_ofNat_of_zero_le hb1.1
  subst ea eb
  have ha : a < 256 := by omega
  have hb : b < 256 := by omega
  clear hb0 hb1
  have hx : a ^^^ b < 256 := Nat.xor_lt_two_pow (n := 8) ha hb
  have HA := Aside0.mk (awake_is 20 (by omega))
  have hxe : Go.bits .xor .u8 (a : Int) (b : Int) = ((a ^^^ b : Nat) : Int) := u8_xor_nat a b ha hb
  have hte := tl_xor a b ha hb
  have hin := tl_inj a b ha hb
  have hd : decide (tl a = tl b) = decide (a = b) := by rw [decide_eq_decide]; exact hin
  have HD := Aside0.mk hd
  have HX := Aside0.mk hxe
  have HT := Aside0.mk hte
  clear hd hin hxe hte
  go_enter Try.func11, Try.ntmps11
  go_wp2_with (fail)
  refine (table_any _).mono ?_
  rintro e w1 ⟨rfl, HH, HB⟩
  have HH := Aside0.mk HH
  have HB := Aside0.mk HB
  go_wp2_with (fail)
  refine (milestonelaw04_awake.calls 20 true _ HA.out).mono ?_
  rintro e w2 ⟨rfl, HB2⟩
  have HHz := blk_below HH.out HB2
  have hcell : ∀ j, j < 256 → w2.cell? ⟨w.heap.size, j, none⟩ = some (.int .u32 (tl j)) := fun j hj => by rw [blk_cell HHz, tcells_at 256 j hj, if_pos hj]
  have c0 := hcell 0 (by omega)
  have c128 := hcell 128 (by omega)
  have ca := hcell a ha
  have cb := hcell b hb
  have cx := hcell (a ^^^ b) hx
  rw [tl_0] at c0
  rw [tl_128] at c128
  have HB3 := Aside0.mk HB2
  clear HHz hcell HB2
  have hai : (a : Int) < 256 := by omega
  have hbi : (b : Int) < 256 := by omega
  have hxi : ((a ^^^ b : Nat) : Int) < 256 := by omega
  have hxe := HX.out
  have hte := HT.out
  by_cases hab : a = b
  · subst hab
    have ht0 := tl_0
    go_wp2_with (fail)
    go_quiet (fail)
    go_wp2
    go_ret
    exact ⟨rfl, by repeat (first | exact below_step HB.out HB3.out | apply pw_below_drewN | apply below_drew1)⟩
  · have hab2 : ¬ ((a : Int) = (b : Int)) := by omega
    have hd2 : decide ((a : Int) = (b : Int)) = false := decide_eq_false hab2
    have hbq : ((a : Int) == (b : Int)) = false := beq_eq_false_iff_ne.2 hab2
    have htq : (tl a == tl b) = false := beq_eq_false_iff_ne.2 (fun h => hab ((tl_inj a b ha hb).1 h))
    clear hab2
    go_wp2_with (fail)
    go_quiet (fail)
    go_wp2
    go_ret
    exact ⟨rfl, by repeat (first | exact below_step HB.out HB3.out | apply pw_below_drewN | apply below_drew1)⟩

end Go.Proofs.Ytpcohoeafldpmaa.QTallyTable
