-- Lines by a program of this session, for this claim.
import Derived.Test.YtnfdgpmdakciiaaQMessageMostx0
import Derived.Test.YtnfdgpmdakciiaaQMessageMostx2
namespace Go.Proofs.Ytnfdgpmdakciiaa.QMessageMost
open Go.RowKit Go.Proofs.YtnfdgpmdakciiaaW.PrintWords Go.Proofs.YtnfdgpmdakciiaaW.PrintLast Go.Proofs.YtnfdgpmdakciiaaW.PrintMore
attribute [local go_sem] max2_int min2_int max_two min_two max_three min_three max_four min_four   -- for this text's walks alone
set_option linter.unusedVariables false
set_option linter.unusedSimpArgs false

/-! ### message_body: function 21 -/
def message_body.place (k : Nat) (p : List Int) (a3 a4 a5 : Int) : Option (List Int) := (coin_Put.f k p (IntKind.u64.wrap a3)).bind fun q => (coin_Put.f k q (IntKind.u64.wrap a4)).bind fun r => coin_Put.f k r (IntKind.u64.wrap a5)
def message_body.f (k : Nat) (a0_0 a0_1 a0_2 a0_3 a0_4 a0_5 a0_6 : Int) : Option (List Int) :=
  if a0_0 = 1 then coin_Put.f k [] a0_1
  else if a0_0 = 2 then (coin_Put.f k [] (IntKind.u64.wrap a0_2)).bind fun p => coin_Put.f k p (IntKind.u64.wrap a0_6)
  else if a0_0 = 3 then (coin_Put.f k [] (IntKind.u64.wrap a0_2)).bind fun p => (message_body.place k p a0_3 a0_4 a0_5).bind fun q => coin_Put.f k q (IntKind.u64.wrap a0_6)
  else (message_body.place k [] a0_3 a0_4 a0_5).bind fun q => coin_Put.f k q a0_1
theorem message_body.place_mono (p : List Int) (a3 a4 a5 : Int) (k : Nat) : LeO (message_body.place k p a3 a4 a5) (message_body.place (k + 1) p a3 a4 a5) := by
  unfold message_body.place
  exact LeO.bind (coin_Put.mono _ _ _) (fun _ => LeO.bind (coin_Put.mono _ _ _) (fun _ => coin_Put.mono _ _ _))
theorem message_body.mono (a0_0 a0_1 a0_2 a0_3 a0_4 a0_5 a0_6 : Int) (k : Nat) : LeO (message_body.f k a0_0 a0_1 a0_2 a0_3 a0_4 a0_5 a0_6) (message_body.f (k + 1) a0_0 a0_1 a0_2 a0_3 a0_4 a0_5 a0_6) := by
  unfold message_body.f
  exact LeO.ite (coin_Put.mono _ _ _) (LeO.ite (LeO.bind (coin_Put.mono _ _ _) (fun _ => coin_Put.mono _ _ _)) (LeO.ite (LeO.bind (coin_Put.mono _ _ _) (fun _ => LeO.bind (message_body.place_mono _ _ _ _ _) (fun _ => coin_Put.mono _ _ _))) (LeO.bind (message_body.place_mono _ _ _ _ _) (fun _ => coin_Put.mono _ _ _))))
theorem message_body.put (k : Nat) (v : Value) (p : List Int) (n : Int) (r : List Int) (B W : World) (hB : Below B.heap.size B W) (ho : Kd.R (Kd.int .u8) 5 W B.heap.size (fun _ => True) v p) (h : coin_Put.f k p n = some r) :
    Calls Try.prog 20 #[v, .int .u64 n] W fun e w' => ∃ v' : Value, e = .returned v' ∧ Aside0 (Kd.R (Kd.int .u8) 5 w' B.heap.size (fun _ => True) v' r) ∧ Aside0 (Below B.heap.size B w') := by
  refine (coin_Put.calls k (fun _ => True) v p n r B W hB ho h).mono ?_
  rintro e w' ⟨v', rfl, ho', hb, _⟩
  exact ⟨v', rfl, ⟨Kd.R_mono ho' (fun _ _ => trivial)⟩, ⟨hb⟩⟩
set_option maxHeartbeats 8000000 in
theorem message_body.place_any (k : Nat) (g : Nat) (v : Value) (p : List Int) (a0 a1 a2 a3 a4 a5 a6 : Int) (r : List Int) (B W : World) (hh : B.heap[g]? = some (.cells #[.int .u8 a0, .int .u64 a1, .int .i64 a2, .int .u32 a3, .int .u8 a4, .int .u16 a5, .int .u16 a6] 28 (0, 0))) (hB : Below B.heap.size B W) (ho : Kd.R (Kd.int .u8) 5 W B.heap.size (fun _ => True) v p) (h : message_body.place k p a3 a4 a5 = some r) :
    Calls Try.prog 37 #[v, .pointer (some ⟨g, 0, none⟩)] W fun e w' => ∃ v' : Value, e = .returned v' ∧ Aside0 (Kd.R (Kd.int .u8) 5 w' B.heap.size (fun _ => True) v' r) ∧ Aside0 (Below B.heap.size B w') := by
  unfold message_body.place at h
  obtain ⟨q, h1, h⟩ := Option.bind_eq_some_iff.mp h
  obtain ⟨s, h2, h3⟩ := Option.bind_eq_some_iff.mp h
  have H1 := Aside0.mk h1
  have H2 := Aside0.mk h2
  have H3 := Aside0.mk h3
  have HH := Aside0.mk hh
  have HB := Aside0.mk hB
  have HO := Aside0.mk ho
  have HW := Aside0.mk (blk_below hh hB)
  clear h1 h2 h3 h hh hB ho
  have hc3 : W.cell? ⟨g, 3, none⟩ = some (.int .u32 a3) := (blk_cell HW.out 3).trans rfl
  have hc4 : W.cell? ⟨g, 4, none⟩ = some (.int .u8 a4) := (blk_cell HW.out 4).trans rfl
  have hc5 : W.cell? ⟨g, 5, none⟩ = some (.int .u16 a5) := (blk_cell HW.out 5).trans rfl
  go_enter Try.func37, Try.ntmps37
  go_wp2_with (fail)
  go_region_held3 (fun w' => w'.cell? ⟨g, 3, none⟩ = some (.int .u32 a3) ∧ w'.cell? ⟨g, 4, none⟩ = some (.int .u8 a4) ∧ w'.cell? ⟨g, 5, none⟩ = some (.int .u16 a5)) (go_keep)
    ((first | ((with_reducible refine (message_body.put k v p (IntKind.u64.wrap a3) q B _ ?sa1 ?sb1 H1.out).mono ?_); (case sa1 => first | exact HB.out | exact below_drew1 HB.out); (case sb1 => first | exact HO.out | exact Kd.R_drew HO.out); rintro e w2 ⟨v2, rfl, HO2, HB2⟩; have HW2 := Aside0.mk (blk_below HH.out HB2.out); have hc3_2 : w2.cell? ⟨g, 3, none⟩ = some (.int .u32 a3) := (blk_cell HW2.out 3).trans rfl; have hc4_2 : w2.cell? ⟨g, 4, none⟩ = some (.int .u8 a4) := (blk_cell HW2.out 4).trans rfl; have hc5_2 : w2.cell? ⟨g, 5, none⟩ = some (.int .u16 a5) := (blk_cell HW2.out 5).trans rfl) | ((with_reducible refine (message_body.put k v2 q (IntKind.u64.wrap a4) s B _ ?sa2 ?sb2 H2.out).mono ?_); (case sa2 => first | exact HB2.out | exact below_drew1 HB2.out); (case sb2 => first | exact HO2.out | exact Kd.R_drew HO2.out); rintro e w3 ⟨v3, rfl, HO3, HB3⟩; have HW3 := Aside0.mk (blk_below HH.out HB3.out); have hc3_3 : w3.cell? ⟨g, 3, none⟩ = some (.int .u32 a3) := (blk_cell HW3.out 3).trans rfl; have hc4_3 : w3.cell? ⟨g, 4, none⟩ = some (.int .u8 a4) := (blk_cell HW3.out 4).trans rfl; have hc5_3 : w3.cell? ⟨g, 5, none⟩ = some (.int .u16 a5) := (blk_cell HW3.out 5).trans rfl) | ((with_reducible refine (message_body.put k v3 s (IntKind.u64.wrap a5) r B _ ?sa3 ?sb3 H3.out).mono ?_); (case sa3 => first | exact HB3.out | exact below_drew1 HB3.out); (case sb3 => first | exact HO3.out | exact Kd.R_drew HO3.out); rintro e w4 ⟨v4, rfl, HO4, HB4⟩; have HW4 := Aside0.mk (blk_below HH.out HB4.out); have hc3_4 : w4.cell? ⟨g, 3, none⟩ = some (.int .u32 a3) := (blk_cell HW4.out 3).trans rfl; have hc4_4 : w4.cell? ⟨g, 4, none⟩ = some (.int .u8 a4) := (blk_cell HW4.out 4).trans rfl; have hc5_4 : w4.cell? ⟨g, 5, none⟩ = some (.int .u16 a5) := (blk_cell HW4.out 5).trans rfl)))
  all_goals
    go_wp2_with (fail)
    go_ret
    exact ⟨v4, rfl, HO4, HB4⟩
set_option maxHeartbeats 8000000 in
theorem message_body.calls (k : Nat) (a0_0 : Int) (a0_1 : Int) (a0_2 : Int) (a0_3 : Int) (a0_4 : Int) (a0_5 : Int) (a0_6 : Int) (r : List Int) (w : World) (h : message_body.f k a0_0 a0_1 a0_2 a0_3 a0_4 a0_5 a0_6 = some r) :
    Calls Try.prog 21 #[.agg #[.int .u8 a0_0, .int .u64 a0_1, .int .i64 a0_2, .int .u32 a0_3, .int .u8 a0_4, .int .u16 a0_5, .int .u16 a0_6]] w fun e w' => ∃ v0_ : Value, e = .returned (v0_) ∧ Kd.R (Kd.int .u8) 5 w' w.heap.size (fun _ => True) v0_ r ∧ Below w.heap.size w w' := by
  have hmf : ∀ (fn : Fn) (first cap : Array Value) (w : World), (Instr.makeFunc fn first cap).run Try.prog w = .ok (.func fn first cap) w := fun _ _ _ _ => rfl
  obtain ⟨B, hBe⟩ : ∃ B : World, B = w.alloc (.cells #[.int .u8 a0_0, .int .u64 a0_1, .int .i64 a0_2, .int .u32 a0_3, .int .u8 a0_4, .int .u16 a0_5, .int .u16 a0_6] 28 (0, 0)) := ⟨_, rfl⟩
  have hh : B.heap[w.heap.size]? = some (.cells #[.int .u8 a0_0, .int .u64 a0_1, .int .i64 a0_2, .int .u32 a0_3, .int .u8 a0_4, .int .u16 a0_5, .int .u16 a0_6] 28 (0, 0)) := by rw [hBe]; simpa using heap_alloc_new w _
  have hs : w.heap.size ≤ B.heap.size := by rw [hBe]; simp
  have hwb : Below w.heap.size w B := by rw [hBe]; exact below_alloc (Below.refl _ _) _
  have HE := Aside0.mk hBe
  have HH := Aside0.mk hh
  have HS := Aside0.mk hs
  have HWB := Aside0.mk hwb
  have FIN := Aside0.mk (show ∀ (w' : World) (v' : Value), Kd.R (Kd.int .u8) 5 w' B.heap.size (fun _ => True) v' r → Below B.heap.size B w' → (Kd.R (Kd.int .u8) 5 w' w.heap.size (fun _ => True) v' r ∧ Below w.heap.size w w') from fun w' v' h1 h2 => ⟨Kd.R_lower h1 hs, below_step hwb h2⟩)
  have HN := Aside0.mk (Kd.R_nil (Kd.int .u8) 5 B B.heap.size (fun _ => True))
  have HR := Aside0.mk (Below.refl B.heap.size B)
  clear hBe hh hs hwb
  have hc1 : B.cell? ⟨w.heap.size, 1, none⟩ = some (.int .u64 a0_1) := (blk_cell HH.out 1).trans rfl
  have hc0 : B.cell? ⟨w.heap.size, 0, none⟩ = some (.int .u8 a0_0) := (blk_cell HH.out 0).trans rfl
  have hc2 : B.cell? ⟨w.heap.size, 2, none⟩ = some (.int .i64 a0_2) := (blk_cell HH.out 2).trans rfl
  have hc6 : B.cell? ⟨w.heap.size, 6, none⟩ = some (.int .u16 a0_6) := (blk_cell HH.out 6).trans rfl
  unfold message_body.f at h
  by_cases c1 : a0_0 = 1
  · rw [if_pos c1] at h
    have e1 : (a0_0 == 1) = true := beq_iff_eq.mpr c1
    clear c1
    have HP := Aside0.mk h
    clear h
    go_enter Try.func21, Try.ntmps21
    go_wp2_with (fail)
    refine (message_body.put k _ [] a0_1 r B _ ?_ ?_ HP.out).mono ?_
    · rw [← HE.out]; exact HR.out
    · rw [← HE.out]; exact HN.out
    rintro e w2 ⟨v2, rfl, HO2, HB2⟩
    go_wp2_with (fail)
    go_ret
    exact ⟨v2, rfl, FIN.out _ _ HO2.out HB2.out⟩
  · rw [if_neg c1] at h
    have e1 : (a0_0 == 1) = false := beq_eq_false_iff_ne.mpr c1
    clear c1
    by_cases c2 : a0_0 = 2
    · rw [if_pos c2] at h
      have e2 : (a0_0 == 2) = true := beq_iff_eq.mpr c2
      clear c2
      obtain ⟨p, h1, h2⟩ := Option.bind_eq_some_iff.mp h
      have H1 := Aside0.mk h1
      have H2 := Aside0.mk h2
      clear h h1 h2
      go_enter Try.func21, Try.ntmps21
      go_wp2_with (fail)
      rw [← HE.out]
      go_region_held3 (fun w' => w'.cell? ⟨w.heap.size, 2, none⟩ = some (.int .i64 a0_2) ∧ w'.cell? ⟨w.heap.size, 6, none⟩ = some (.int .u16 a0_6)) (go_keep)
        ((first | ((with_reducible refine (message_body.put k _ [] (IntKind.u64.wrap a0_2) p B _ ?sa1 ?sb1 H1.out).mono ?_); (case sa1 => first | exact HR.out | exact below_drew1 HR.out); (case sb1 => first | exact HN.out | exact Kd.R_drew HN.out); rintro e w2 ⟨v2, rfl, HO2, HB2⟩; have HW2 := Aside0.mk (blk_below HH.out HB2.out); have hc2_2 : w2.cell? ⟨w.heap.size, 2, none⟩ = some (.int .i64 a0_2) := (blk_cell HW2.out 2).trans rfl; have hc6_2 : w2.cell? ⟨w.heap.size, 6, none⟩ = some (.int .u16 a0_6) := (blk_cell HW2.out 6).trans rfl) | ((with_reducible refine (message_body.put k v2 p (IntKind.u64.wrap a0_6) r B _ ?sa2 ?sb2 H2.out).mono ?_); (case sa2 => first | exact HB2.out | exact below_drew1 HB2.out); (case sb2 => first | exact HO2.out | exact Kd.R_drew HO2.out); rintro e w3 ⟨v3, rfl, HO3, HB3⟩; have HW3 := Aside0.mk (blk_below HH.out HB3.out); have hc2_3 : w3.cell? ⟨w.heap.size, 2, none⟩ = some (.int .i64 a0_2) := (blk_cell HW3.out 2).trans rfl; have hc6_3 : w3.cell? ⟨w.heap.size, 6, none⟩ = some (.int .u16 a0_6) := (blk_cell HW3.out 6).trans rfl)))
      all_goals
        go_wp2_with (fail)
        go_ret
        exact ⟨v3, rfl, FIN.out _ _ HO3.out HB3.out⟩
    · rw [if_neg c2] at h
      have e2 : (a0_0 == 2) = false := beq_eq_false_iff_ne.mpr c2
      clear c2
      by_cases c3 : a0_0 = 3
      · rw [if_pos c3] at h
        have e3 : (a0_0 == 3) = true := beq_iff_eq.mpr c3
        clear c3
        obtain ⟨p, h1, h⟩ := Option.bind_eq_some_iff.mp h
        obtain ⟨q, h2, h3⟩ := Option.bind_eq_some_iff.mp h
        have H1 := Aside0.mk h1
        have H2 := Aside0.mk h2
        have H3 := Aside0.mk h3
        clear h h1 h2 h3
        go_enter Try.func21, Try.ntmps21
        go_wp2_with (fail)
        rw [← HE.out]
        go_region_held3 (fun w' => w'.cell? ⟨w.heap.size, 2, none⟩ = some (.int .i64 a0_2) ∧ w'.cell? ⟨w.heap.size, 6, none⟩ = some (.int .u16 a0_6)) (go_keep)
          ((first | ((with_reducible refine (message_body.put k _ [] (IntKind.u64.wrap a0_2) p B _ ?sa3 ?sb3 H1.out).mono ?_); (case sa3 => first | exact HR.out | exact below_drew1 HR.out); (case sb3 => first | exact HN.out | exact Kd.R_drew HN.out); rintro e w2 ⟨v2, rfl, HO2, HB2⟩; have HW2 := Aside0.mk (blk_below HH.out HB2.out); have hc2_2 : w2.cell? ⟨w.heap.size, 2, none⟩ = some (.int .i64 a0_2) := (blk_cell HW2.out 2).trans rfl; have hc6_2 : w2.cell? ⟨w.heap.size, 6, none⟩ = some (.int .u16 a0_6) := (blk_cell HW2.out 6).trans rfl) | ((with_reducible refine (message_body.place_any k w.heap.size v2 p a0_0 a0_1 a0_2 a0_3 a0_4 a0_5 a0_6 q B _ HH.out ?sa4 ?sb4 H2.out).mono ?_); (case sa4 => first | exact HB2.out | exact below_drew1 HB2.out); (case sb4 => first | exact HO2.out | exact Kd.R_drew HO2.out); rintro e w3 ⟨v3, rfl, HO3, HB3⟩; have HW3 := Aside0.mk (blk_below HH.out HB3.out); have hc2_3 : w3.cell? ⟨w.heap.size, 2, none⟩ = some (.int .i64 a0_2) := (blk_cell HW3.out 2).trans rfl; have hc6_3 : w3.cell? ⟨w.heap.size, 6, none⟩ = some (.int .u16 a0_6) := (blk_cell HW3.out 6).trans rfl) | ((with_reducible refine (message_body.put k v3 q (IntKind.u64.wrap a0_6) r B _ ?sa5 ?sb5 H3.out).mono ?_); (case sa5 => first | exact HB3.out | exact below_drew1 HB3.out); (case sb5 => first | exact HO3.out | exact Kd.R_drew HO3.out); rintro e w4 ⟨v4, rfl, HO4, HB4⟩; have HW4 := Aside0.mk (blk_below HH.out HB4.out); have hc2_4 : w4.cell? ⟨w.heap.size, 2, none⟩ = some (.int .i64 a0_2) := (blk_cell HW4.out 2).trans rfl; have hc6_4 : w4.cell? ⟨w.heap.size, 6, none⟩ = some (.int .u16 a0_6) := (blk_cell HW4.out 6).trans rfl)))
        all_goals
          go_wp2_with (fail)
          go_ret
          exact ⟨v4, rfl, FIN.out _ _ HO4.out HB4.out⟩
      · rw [if_neg c3] at h
        have e3 : (a0_0 == 3) = false := beq_eq_false_iff_ne.mpr c3
        clear c3
        obtain ⟨q, h2, h3⟩ := Option.bind_eq_some_iff.mp h
        have H2 := Aside0.mk h2
        have H3 := Aside0.mk h3
        clear h h2 h3
        go_enter Try.func21, Try.ntmps21
        go_wp2_with (fail)
        rw [← HE.out]
        go_region_held3 (fun w' => w'.cell? ⟨w.heap.size, 1, none⟩ = some (.int .u64 a0_1)) (go_keep)
          ((first | ((with_reducible refine (message_body.place_any k w.heap.size _ [] a0_0 a0_1 a0_2 a0_3 a0_4 a0_5 a0_6 q B _ HH.out ?sa6 ?sb6 H2.out).mono ?_); (case sa6 => first | exact HR.out | exact below_drew1 HR.out); (case sb6 => first | exact HN.out | exact Kd.R_drew HN.out); rintro e w3 ⟨v3, rfl, HO3, HB3⟩; have HW3 := Aside0.mk (blk_below HH.out HB3.out); have hc1_3 : w3.cell? ⟨w.heap.size, 1, none⟩ = some (.int .u64 a0_1) := (blk_cell HW3.out 1).trans rfl) | ((with_reducible refine (message_body.put k v3 q a0_1 r B _ ?sa7 ?sb7 H3.out).mono ?_); (case sa7 => first | exact HB3.out | exact below_drew1 HB3.out); (case sb7 => first | exact HO3.out | exact Kd.R_drew HO3.out); rintro e w4 ⟨v4, rfl, HO4, HB4⟩; have HW4 := Aside0.mk (blk_below HH.out HB4.out); have hc1_4 : w4.cell? ⟨w.heap.size, 1, none⟩ = some (.int .u64 a0_1) := (blk_cell HW4.out 1).trans rfl)))
        all_goals
          go_wp2_with (fail)
          go_ret
          exact ⟨v4, rfl, FIN.out _ _ HO4.out HB4.out⟩

/-! ### tally_line: function 44 -/
def tally_line.l0 : Nat → Int → Int → Option (Int)
  | 0, _, _ => none
  | k + 1, x3, x6 => if x6 < 8 then (if (Go.bits .and .u32 x3 1) = 1 then (tally_line.l0 k (Go.bits .xor .u32 (x3 / 2) 2197175160) (wrap64 (x6 + 1))) else (tally_line.l0 k (x3 / 2) (wrap64 (x6 + 1)))) else (some x3)
def tally_line.f (k : Nat) (a0 : Int) : Option (Int) := tally_line.l0 k ((a0) % 4294967296) 0
theorem tally_line.mono_l : ∀ k, (∀ y0 y1, LeO (tally_line.l0 k y0 y1) (tally_line.l0 (k + 1) y0 y1))
  | 0 => fun _ _ r h => by simp [tally_line.l0] at h
  | k + 1 => by
    have ih0 := tally_line.mono_l k
    · intro y0 y1
      unfold tally_line.l0
      repeat' first
      | (with_reducible exact ih0 _ _)
      | (with_reducible exact LeO.refl _)
      | (with_reducible exact LeO.none _)
      | (with_reducible refine LeO.ite ?_ ?_)
      | (with_reducible refine LeO.bind ?_ (fun _ => ?_))
      | exact ih0 _ _
      | exact LeO.none _
      | refine LeO.ite ?_ ?_
      | refine LeO.bind ?_ (fun _ => ?_)
theorem tally_line.mono : ∀ a0 k, LeO (tally_line.f k a0) (tally_line.f (k + 1) a0) := by
  intro a0 k
  have ih0 := tally_line.mono_l k
  unfold tally_line.f
  repeat' first
      | (with_reducible exact ih0 _ _)
      | (with_reducible exact LeO.refl _)
      | (with_reducible exact LeO.none _)
      | (with_reducible refine LeO.ite ?_ ?_)
      | (with_reducible refine LeO.bind ?_ (fun _ => ?_))
      | exact ih0 _ _
      | exact LeO.none _
      | refine LeO.ite ?_ ?_
      | refine LeO.bind ?_ (fun _ => ?_)
set_option maxHeartbeats 8000000 in
set_option maxRecDepth 100000 in
theorem tally_line.calls (k : Nat) (a0 : Int) (r : Int) (w : World) (h : tally_line.f k a0 = some r) :
    Calls Try.prog 44 #[.int .u8 a0] w fun e w' => e = .returned (.int .u32 r) ∧ Drawn0 w w' := by
  have H : (tally_line.l0 k ((a0) % 4294967296) 0) = some r := h
  clear h
  have H' := Aside0.mk H
  clear H
  go_enter Try.func44, Try.ntmps44
  go_wp2
  go_loopg [3, 6] k (fun kq v3 v6 w' => ∃ (x3_1 : Int) (x6_1 : Int), v3 = .int .u32 x3_1 ∧ v6 = .int .i64 x6_1 ∧ Aside0 (tally_line.l0 kq x3_1 x6_1 = some r) ∧ Aside0 (kq ≤ k) ∧ Drawn0 w w')
  case atStart => exact ⟨((a0) % 4294967296), (0), (by first | rfl | (simp; done) | (simp [*]; done) | (refine qa_int ?_; omega) | (refine qa_int ?_; simp <;> omega)), (by first | rfl | (simp; done) | (simp [*]; done) | (refine qa_int ?_; omega) | (refine qa_int ?_; simp <;> omega)), H', ⟨Nat.le_refl _⟩, by repeat (first | exact Drawn0.refl _ | apply Drawn0.step)⟩
  case round =>
    clear H'
    obtain ⟨x3_1, x6_1, rfl, rfl, HA, HK1, ⟨m1, rfl⟩⟩ := hrel
    cases gk with
    | zero => exact absurd HA.out (by simp [tally_line.l0])
    | succ k1 =>
      have H := HA.out
      clear HA
      simp only [tally_line.l0] at H
      by_cases c2 : x6_1 < 8
      · rw [if_pos c2] at H
        have c2b0 : decide (x6_1 < 8) = true := decide_eq_true c2
        clear c2
        by_cases c3 : (Go.bits .and .u32 x3_1 1) = 1
        · rw [if_pos c3] at H
          have c3b0 : ((Go.bits .and .u32 x3_1 1) == 1) = true := beq_iff_eq.mpr c3
          have c3b1 : ((Go.bits .and .u32 x3_1 1) != 1) = false := bne_eq_false_iff_eq.mpr c3
          clear c3
          have H' := Aside0.mk H
          clear H
          go_wp2
          go_roundg k1
          case measure => have := HK1.out; omega
          case rel => exact ⟨(Go.bits .xor .u32 (x3_1 / 2) 2197175160), (wrap64 (x6_1 + 1)), (by first | rfl | (simp; done) | (simp [*]; done) | (refine qa_int ?_; omega) | (refine qa_int ?_; simp <;> omega)), (by first | rfl | (simp; done) | (simp [*]; done) | (refine qa_int ?_; omega) | (refine qa_int ?_; simp <;> omega)), H', ⟨by have := HK1.out; omega⟩, by repeat (first | exact Drawn0.refl _ | apply Drawn0.step)⟩
        · rw [if_neg c3] at H
          have c3b0 : ((Go.bits .and .u32 x3_1 1) == 1) = false := beq_eq_false_iff_ne.mpr c3
          have c3b1 : ((Go.bits .and .u32 x3_1 1) != 1) = true := bne_iff_ne.mpr c3
          have H' := Aside0.mk H
          clear H
          go_wp2
          go_roundg k1
          case measure => have := HK1.out; omega
          case rel => exact ⟨(x3_1 / 2), (wrap64 (x6_1 + 1)), (by first | rfl | (simp; done) | (simp [*]; done) | (refine qa_int ?_; omega) | (refine qa_int ?_; simp <;> omega)), (by first | rfl | (simp; done) | (simp [*]; done) | (refine qa_int ?_; omega) | (refine qa_int ?_; simp <;> omega)), H', ⟨by have := HK1.out; omega⟩, by repeat (first | exact Drawn0.refl _ | apply Drawn0.step)⟩
      · rw [if_neg c2] at H
        have c2b0 : decide (x6_1 < 8) = false := decide_eq_false c2
        clear c2
        obtain rfl := Option.some.inj H
        simp only [Option.some.injEq, Prod.mk.injEq] at H
        obtain ⟨rfl⟩ := H
        go_wp2
        go_ret
        exact ⟨by first | rfl | (simp; done) | (simp [*]; done) | (refine qa_int ?_; omega) | (refine qa_int ?_; simp <;> omega), by repeat (first | exact Drawn0.refl _ | apply Drawn0.step)⟩

/-! ### tally_More: function 38 -/
def tally_More.l0 : Nat → Int → List Int → Int → Int → Option (Int)
  | 0, _, _, _, _ => none
  | k + 1, x5, x10, x11, x12 => if x12 < x11 then (if 0 ≤ x12 then (if x12 < (x10.length : Int) then ((tally_line.f k (Go.bits .xor .u8 ((x5) % 256) (rd x10 x12))).bind fun t120 => (tally_More.l0 k (Go.bits .xor .u32 (x5 / 256) t120) x10 x11 (wrap64 (x12 + 1)))) else (none)) else (none)) else (some (Go.bits .xor .u32 IntKind.u32.max x5))
def tally_More.f (k : Nat) (a0 : Int) (l1 : List Int) : Option (Int) := tally_More.l0 k (Go.bits .xor .u32 IntKind.u32.max a0) l1 (l1.length : Int) 0
theorem tally_More.mono_l : ∀ k, (∀ y0 y1 y2 y3, LeO (tally_More.l0 k y0 y1 y2 y3) (tally_More.l0 (k + 1) y0 y1 y2 y3))
  | 0 => fun _ _ _ _ r h => by simp [tally_More.l0] at h
  | k + 1 => by
    have ih0 := tally_More.mono_l k
    · intro y0 y1 y2 y3
      unfold tally_More.l0
      repeat' first
      | (with_reducible exact ih0 _ _ _ _)
      | (with_reducible exact tally_line.mono _ _)
      | (with_reducible exact LeO.refl _)
      | (with_reducible exact LeO.none _)
      | (with_reducible refine LeO.ite ?_ ?_)
      | (with_reducible refine LeO.bind ?_ (fun _ => ?_))
      | exact ih0 _ _ _ _
      | exact tally_line.mono _ _
      | exact LeO.none _
      | refine LeO.ite ?_ ?_
      | refine LeO.bind ?_ (fun _ => ?_)
theorem tally_More.mono : ∀ a0 a1 k, LeO (tally_More.f k a0 a1) (tally_More.f (k + 1) a0 a1) := by
  intro a0 a1 k
  have ih0 := tally_More.mono_l k
  unfold tally_More.f
  repeat' first
      | (with_reducible exact ih0 _ _ _ _)
      | (with_reducible exact tally_line.mono _ _)
      | (with_reducible exact LeO.refl _)
      | (with_reducible exact LeO.none _)
      | (with_reducible refine LeO.ite ?_ ?_)
      | (with_reducible refine LeO.bind ?_ (fun _ => ?_))
      | exact ih0 _ _ _ _
      | exact tally_line.mono _ _
      | exact LeO.none _
      | refine LeO.ite ?_ ?_
      | refine LeO.bind ?_ (fun _ => ?_)
set_option maxHeartbeats 8000000 in
set_option maxRecDepth 100000 in
theorem tally_More.calls (k : Nat) (a0 : Int) (A1 : Option Addr) (c1 : Nat) (l1 : List Int) (r : Int) (w : World) (hr1 : Kd.C (Kd.int .u8) w A1 l1.length l1) (hc1 : l1.length ≤ c1) (h : tally_More.f k a0 l1 = some r) :
    Calls Try.prog 38 #[.int .u32 a0, .slice A1 l1.length c1] w fun e w' => e = .returned (.int .u32 r) ∧ Drawn0 w w' := by
  have HR1 := Aside0.mk hr1
  have HC1 := Aside0.mk hc1
  clear hr1 hc1
  have H : (tally_More.l0 k (Go.bits .xor .u32 IntKind.u32.max a0) l1 (l1.length : Int) 0) = some r := h
  clear h
  have H' := Aside0.mk H
  clear H
  go_enter Try.func38, Try.ntmps38
  go_wp2
  go_loopg [5, 12] k (fun kq v5 v12 w' => ∃ (x5_1 : Int) (x12_1 : Int), v5 = .int .u32 x5_1 ∧ v12 = .int .i64 x12_1 ∧ Aside0 (tally_More.l0 kq x5_1 l1 (l1.length : Int) x12_1 = some r) ∧ Aside0 (kq ≤ k) ∧ Drawn0 w w')
  case atStart => exact ⟨(Go.bits .xor .u32 IntKind.u32.max a0), (0), (by first | rfl | (simp; done) | (simp [*]; done) | (refine qa_int ?_; omega) | (refine qa_int ?_; simp <;> omega)), (by first | rfl | (simp; done) | (simp [*]; done) | (refine qa_int ?_; omega) | (refine qa_int ?_; simp <;> omega)), H', ⟨Nat.le_refl _⟩, by repeat (first | exact Drawn0.refl _ | apply Drawn0.step)⟩
  case round =>
    clear H'
    try clear c1
    try clear p2
    obtain ⟨x5_1, x12_1, rfl, rfl, HA, HK1, ⟨m1, rfl⟩⟩ := hrel
    cases gk with
    | zero => exact absurd HA.out (by simp [tally_More.l0])
    | succ k1 =>
      have H := HA.out
      clear HA
      simp only [tally_More.l0] at H
      by_cases c3 : x12_1 < (l1.length : Int)
      · rw [if_pos c3] at H
        have c3b0 : decide (x12_1 < (l1.length : Int)) = true := decide_eq_true c3
        clear c3
        by_cases c4 : 0 ≤ x12_1
        · rw [if_pos c4] at H
          have c4b0 : decide (0 ≤ x12_1) = true := decide_eq_true c4
          clear c4
          by_cases c5 : x12_1 < (l1.length : Int)
          · rw [if_pos c5] at H
            have c5b0 : decide (x12_1 < (l1.length : Int)) = true := decide_eq_true c5
            clear c5
            replace H := Option.bind_eq_some_iff.mp H
            obtain ⟨t120, A60, H⟩ := H
            replace H : (tally_More.l0 k1 (Go.bits .xor .u32 (x5_1 / 256) t120) l1 (l1.length : Int) (wrap64 (x12_1 + 1))) = some r := H
            have A6 := Aside0.mk A60
            clear A60
            have H' := Aside0.mk H
            clear H
            have p119 : 0 ≤ (x12_1 : Int) := of_decide_eq_true (by first | (with_reducible assumption) | assumption)
            have q119 : x12_1 < (l1.length : Int) := of_decide_eq_true (by first | (with_reducible assumption) | assumption)
            obtain ⟨ad119, e119, hx119_0⟩ := Kd.at_int HR1.out x12_1 p119 q119
            cases e119
            replace p119 := eq_true p119
            replace q119 := eq_true q119
            go_wp2_with (first | ((with_reducible refine gate_callee (f := 44) rfl ?_); refine goesL_ (some 22) rfl rfl Try.func44 (by kernel_rfl) rfl #[.int .u8 (Go.bits .xor .u8 ((x5_1) % 256) (rd l1 x12_1))] rfl (by (try simp only [List.map_toArray, List.map_cons, List.map_nil]); first | done | rfl | (simp only [List.length_drop, List.length_take]; rfl) | (simp; done) | (refine qa_arr ?_; (repeat' (first | rfl | refine qa_cons ?_ ?_ | refine qa_int ?_ | refine qa_agg ?_ | refine qa_arr ?_ | omega)); done)) ?_; (with_reducible refine (tally_line.calls k1 (Go.bits .xor .u8 ((x5_1) % 256) (rd l1 x12_1)) t120 _ A6.out).mono ?_); rintro e w' ⟨rfl, ⟨nd, rfl⟩⟩; refine ⟨_, rfl, ?_⟩) | ((with_reducible refine gate_callee (f := 44) rfl ?_); refine goesL_ _ rfl rfl Try.func44 (by kernel_rfl) rfl #[.int .u8 (Go.bits .xor .u8 ((x5_1) % 256) (rd l1 x12_1))] rfl (by (try simp only [List.map_toArray, List.map_cons, List.map_nil]); first | done | rfl | (simp only [List.length_drop, List.length_take]; rfl) | (simp; done) | (refine qa_arr ?_; (repeat' (first | rfl | refine qa_cons ?_ ?_ | refine qa_int ?_ | refine qa_agg ?_ | refine qa_arr ?_ | omega)); done)) ?_; (with_reducible refine (tally_line.calls k1 (Go.bits .xor .u8 ((x5_1) % 256) (rd l1 x12_1)) t120 _ A6.out).mono ?_); rintro e w' ⟨rfl, ⟨nd, rfl⟩⟩; refine ⟨_, rfl, ?_⟩))
            go_roundg k1
            case measure => have := HK1.out; omega
            case rel => exact ⟨(Go.bits .xor .u32 (x5_1 / 256) t120), (wrap64 (x12_1 + 1)), (by first | rfl | (simp; done) | (simp [*]; done) | (refine qa_int ?_; omega) | (refine qa_int ?_; simp <;> omega)), (by first | rfl | (simp; done) | (simp [*]; done) | (refine qa_int ?_; omega) | (refine qa_int ?_; simp <;> omega)), H', ⟨by have := HK1.out; omega⟩, by repeat (first | exact Drawn0.refl _ | apply Drawn0.step)⟩
          · rw [if_neg c5] at H
            exact absurd H (by simp)
        · rw [if_neg c4] at H
          exact absurd H (by simp)
      · rw [if_neg c3] at H
        have c3b0 : decide (x12_1 < (l1.length : Int)) = false := decide_eq_false c3
        clear c3
        obtain rfl := Option.some.inj H
        simp only [Option.some.injEq, Prod.mk.injEq] at H
        obtain ⟨rfl⟩ := H
        go_wp2
        go_ret
        exact ⟨by first | rfl | (simp; done) | (simp [*]; done) | (refine qa_int ?_; omega) | (refine qa_int ?_; simp <;> omega), by repeat (first | exact Drawn0.refl _ | apply Drawn0.step)⟩

/-! ### tally_Sum: function 22 -/
def tally_Sum.f (k : Nat) (l0 : List Int) : Option (Int) := (tally_More.f k 0 l0).bind fun t121 => (some t121)
theorem tally_Sum.mono : ∀ a0 k, LeO (tally_Sum.f k a0) (tally_Sum.f (k + 1) a0) := by
  intro a0 k
  unfold tally_Sum.f
  repeat' first
      | (with_reducible exact tally_More.mono _ _ _)
      | (with_reducible exact LeO.refl _)
      | (with_reducible exact LeO.none _)
      | (with_reducible refine LeO.ite ?_ ?_)
      | (with_reducible refine LeO.bind ?_ (fun _ => ?_))
      | exact tally_More.mono _ _ _
      | exact LeO.none _
      | refine LeO.ite ?_ ?_
      | refine LeO.bind ?_ (fun _ => ?_)
set_option maxHeartbeats 8000000 in
set_option maxRecDepth 100000 in
theorem tally_Sum.calls (k : Nat) (A0 : Option Addr) (c0 : Nat) (l0 : List Int) (r : Int) (w : World) (hr0 : Kd.C (Kd.int .u8) w A0 l0.length l0) (hc0 : l0.length ≤ c0) (h : tally_Sum.f k l0 = some r) :
    Calls Try.prog 22 #[.slice A0 l0.length c0] w fun e w' => e = .returned (.int .u32 r) ∧ Drawn0 w w' := by
  have HR0 := Aside0.mk hr0
  have HC0 := Aside0.mk hc0
  clear hr0 hc0
  have H : ((tally_More.f k 0 l0).bind fun t121 => (some t121)) = some r := h
  clear h
  replace H := Option.bind_eq_some_iff.mp H
  obtain ⟨t121, A20, H⟩ := H
  replace H : (some t121) = some r := H
  have A2 := Aside0.mk A20
  clear A20
  obtain rfl := Option.some.inj H
  simp only [Option.some.injEq, Prod.mk.injEq] at H
  obtain ⟨rfl⟩ := H
  go_enter Try.func22, Try.ntmps22
  go_wp2_with (first | ((with_reducible refine gate_callee (f := 38) rfl ?_); refine goesL_ (some 4) rfl rfl Try.func38 (by kernel_rfl) rfl #[.int .u32 0, .slice A0 l0.length c0] rfl (by (try simp only [List.map_toArray, List.map_cons, List.map_nil]); first | done | rfl | (simp only [List.length_drop, List.length_take]; rfl) | (simp; done) | (refine qa_arr ?_; (repeat' (first | rfl | refine qa_cons ?_ ?_ | refine qa_int ?_ | refine qa_agg ?_ | refine qa_arr ?_ | omega)); done)) ?_; (with_reducible refine (tally_More.calls k 0 _ _ l0 t121 _ ?side1 ?side2 A2.out).mono ?_); (case side1 => repeat (first | exact HR0.out | (with_reducible refine Kd.C_alloc ?_ _) | (with_reducible refine Kd.C_drewN ?_ _) | (with_reducible refine Kd.C_drew ?_))); (case side2 => exact HC0.out); rintro e w' ⟨rfl, ⟨nd, rfl⟩⟩; refine ⟨_, rfl, ?_⟩) | ((with_reducible refine gate_callee (f := 38) rfl ?_); refine goesL_ _ rfl rfl Try.func38 (by kernel_rfl) rfl #[.int .u32 0, .slice A0 l0.length c0] rfl (by (try simp only [List.map_toArray, List.map_cons, List.map_nil]); first | done | rfl | (simp only [List.length_drop, List.length_take]; rfl) | (simp; done) | (refine qa_arr ?_; (repeat' (first | rfl | refine qa_cons ?_ ?_ | refine qa_int ?_ | refine qa_agg ?_ | refine qa_arr ?_ | omega)); done)) ?_; (with_reducible refine (tally_More.calls k 0 _ _ l0 t121 _ ?side1b ?side2b A2.out).mono ?_); (case side1b => repeat (first | exact HR0.out | (with_reducible refine Kd.C_alloc ?_ _) | (with_reducible refine Kd.C_drewN ?_ _) | (with_reducible refine Kd.C_drew ?_))); (case side2b => exact HC0.out); rintro e w' ⟨rfl, ⟨nd, rfl⟩⟩; refine ⟨_, rfl, ?_⟩) | (go_at_call 38; (with_reducible refine (tally_More.calls k 0 _ _ l0 t121 _ ?side1c ?side2c A2.out).mono ?_); (case side1c => repeat (first | exact HR0.out | (with_reducible refine Kd.C_alloc ?_ _) | (with_reducible refine Kd.C_drewN ?_ _) | (with_reducible refine Kd.C_drew ?_))); (case side2c => exact HC0.out); rintro e w' ⟨rfl, ⟨nd, rfl⟩⟩))
  go_ret
  exact ⟨by first | rfl | (simp; done) | (simp [*]; done) | (refine qa_int ?_; omega) | (refine qa_int ?_; simp <;> omega), by repeat (first | exact Drawn0.refl _ | apply Drawn0.step)⟩

/-! ### message_Encode: function 9 -/
mutual
def message_Encode.l0 : Nat → List Int → Int → List (S28) → Int → Int → Option (List Int)
  | 0, _, _, _, _, _ => none
  | k + 1, x3, x4, x15, x16, x17 => if x17 < x16 then (if 0 ≤ x17 then (if x17 < (x15.length : Int) then ((message_Right.f ((rd_T28 x15 x17).f0) ((rd_T28 x15 x17).f1) ((rd_T28 x15 x17).f2) ((rd_T28 x15 x17).f3.f0) ((rd_T28 x15 x17).f3.f1) ((rd_T28 x15 x17).f4) ((rd_T28 x15 x17).f5)).bind fun t138 => (if t138 = true then (message_Encode.j1 k x3 x4 x15 x16 x17 (decide (x4 < 300)) ((rd_T28 x15 x17).f0) ((rd_T28 x15 x17).f1) ((rd_T28 x15 x17).f2) ((rd_T28 x15 x17).f3.f0) ((rd_T28 x15 x17).f3.f1) ((rd_T28 x15 x17).f4) ((rd_T28 x15 x17).f5)) else (message_Encode.j1 k x3 x4 x15 x16 x17 false ((rd_T28 x15 x17).f0) ((rd_T28 x15 x17).f1) ((rd_T28 x15 x17).f2) ((rd_T28 x15 x17).f3.f0) ((rd_T28 x15 x17).f3.f1) ((rd_T28 x15 x17).f4) ((rd_T28 x15 x17).f5)))) else (none)) else (none)) else ((tally_Sum.f k x3).bind fun t129 => ((some (([(t129) % 256, (t129 / 256) % 256, (t129 / 65536) % 256, (t129 / 16777216) % 256] : List Int) : List Int)).bind fun y130 => (if x3.length + y130.length < 140737488355328 then (some (x3 ++ y130)) else (none))))
def message_Encode.j1 : Nat → List Int → Int → List (S28) → Int → Int → Bool → Int → Int → Int → Int → Int → Int → Int → Option (List Int)
  | 0, _, _, _, _, _, _, _, _, _, _, _, _, _ => none
  | k + 1, x3, x4, x15, x16, x17, x26, x138000, x138001, x138002, x138003, x138004, x138005, x138006 => if x26 = true then ((message_body.f k x138000 x138001 x138002 x138003 x138004 x138005 x138006).bind fun t139 => (if x3.length < 140737488355328 then ((coin_Put.f k (x3 ++ [x138000]) (IntKind.u64.wrap ((t139.length : Int)))).bind fun t145 => (if t145.length + t139.length < 140737488355328 then (message_Encode.l0 k (t145 ++ t139) (wrap64 (x4 + 1)) x15 x16 (wrap64 (x17 + 1))) else (none))) else (none))) else (message_Encode.l0 k x3 x4 x15 x16 (wrap64 (x17 + 1)))
end
def message_Encode.f (k : Nat) (a0_0 : Int) (l0_1 : List (S28)) : Option (List Int) := (coin_Put.f k (([1] : List Int)) (IntKind.u64.wrap (a0_0))).bind fun t126 => (message_Encode.l0 k t126 0 l0_1 (l0_1.length : Int) 0)
theorem message_Encode.mono_l : ∀ k, (∀ y0 y1 y2 y3 y4, LeO (message_Encode.l0 k y0 y1 y2 y3 y4) (message_Encode.l0 (k + 1) y0 y1 y2 y3 y4)) ∧ (∀ y0 y1 y2 y3 y4 y5 y6 y7 y8 y9 y10 y11 y12, LeO (message_Encode.j1 k y0 y1 y2 y3 y4 y5 y6 y7 y8 y9 y10 y11 y12) (message_Encode.j1 (k + 1) y0 y1 y2 y3 y4 y5 y6 y7 y8 y9 y10 y11 y12))
  | 0 => ⟨fun _ _ _ _ _ r h => by simp [message_Encode.l0] at h, fun _ _ _ _ _ _ _ _ _ _ _ _ _ r h => by simp [message_Encode.j1] at h⟩
  | k + 1 => by
    obtain ⟨ih0, ih1⟩ := message_Encode.mono_l k
    refine ⟨?_, ?_⟩
    · intro y0 y1 y2 y3 y4
      unfold message_Encode.l0
      repeat' first
      | (with_reducible exact ih0 _ _ _ _ _)
      | (with_reducible exact ih1 _ _ _ _ _ _ _ _ _ _ _ _ _)
      | (with_reducible exact coin_Put.mono _ _ _)
      | (with_reducible exact message_body.mono _ _ _ _ _ _ _ _)
      | (with_reducible exact tally_Sum.mono _ _)
      | (with_reducible exact LeO.refl _)
      | (with_reducible exact LeO.none _)
      | (with_reducible refine LeO.ite ?_ ?_)
      | (with_reducible refine LeO.bind ?_ (fun _ => ?_))
      | exact ih0 _ _ _ _ _
      | exact ih1 _ _ _ _ _ _ _ _ _ _ _ _ _
      | exact coin_Put.mono _ _ _
      | exact message_body.mono _ _ _ _ _ _ _ _
      | exact tally_Sum.mono _ _
      | exact LeO.none _
      | refine LeO.ite ?_ ?_
      | refine LeO.bind ?_ (fun _ => ?_)
    · intro y0 y1 y2 y3 y4 y5 y6 y7 y8 y9 y10 y11 y12
      unfold message_Encode.j1
      repeat' first
      | (with_reducible exact ih0 _ _ _ _ _)
      | (with_reducible exact ih1 _ _ _ _ _ _ _ _ _ _ _ _ _)
      | (with_reducible exact coin_Put.mono _ _ _)
      | (with_reducible exact message_body.mono _ _ _ _ _ _ _ _)
      | (with_reducible exact tally_Sum.mono _ _)
      | (with_reducible exact LeO.refl _)
      | (with_reducible exact LeO.none _)
      | (with_reducible refine LeO.ite ?_ ?_)
      | (with_reducible refine LeO.bind ?_ (fun _ => ?_))
      | exact ih0 _ _ _ _ _
      | exact ih1 _ _ _ _ _ _ _ _ _ _ _ _ _
      | exact coin_Put.mono _ _ _
      | exact message_body.mono _ _ _ _ _ _ _ _
      | exact tally_Sum.mono _ _
      | exact LeO.none _
      | refine LeO.ite ?_ ?_
      | refine LeO.bind ?_ (fun _ => ?_)
theorem message_Encode.mono : ∀ a0 a1 k, LeO (message_Encode.f k a0 a1) (message_Encode.f (k + 1) a0 a1) := by
  intro a0 a1 k
  obtain ⟨ih0, ih1⟩ := message_Encode.mono_l k
  unfold message_Encode.f
  repeat' first
      | (with_reducible exact ih0 _ _ _ _ _)
      | (with_reducible exact ih1 _ _ _ _ _ _ _ _ _ _ _ _ _)
      | (with_reducible exact coin_Put.mono _ _ _)
      | (with_reducible exact message_body.mono _ _ _ _ _ _ _ _)
      | (with_reducible exact tally_Sum.mono _ _)
      | (with_reducible exact LeO.refl _)
      | (with_reducible exact LeO.none _)
      | (with_reducible refine LeO.ite ?_ ?_)
      | (with_reducible refine LeO.bind ?_ (fun _ => ?_))
      | exact ih0 _ _ _ _ _
      | exact ih1 _ _ _ _ _ _ _ _ _ _ _ _ _
      | exact coin_Put.mono _ _ _
      | exact message_body.mono _ _ _ _ _ _ _ _
      | exact tally_Sum.mono _ _
      | exact LeO.none _
      | refine LeO.ite ?_ ?_
      | refine LeO.bind ?_ (fun _ => ?_)
set_option maxHeartbeats 8000000 in
set_option maxRecDepth 100000 in
theorem message_Encode.calls (k : Nat) (a0_0 : Int) (A0_1 : Option Addr) (c0_1 : Nat) (l0_1 : List (S28)) (r : List Int) (w : World) (hr0_1 : Kd.C k28 w A0_1 l0_1.length l0_1) (hc0_1 : l0_1.length ≤ c0_1) (h : message_Encode.f k a0_0 l0_1 = some r) :
    Calls Try.prog 9 #[.agg #[.int .i64 a0_0, .slice A0_1 l0_1.length c0_1]] w fun e w' => ∃ v0_ : Value, e = .returned (v0_) ∧ Kd.R (Kd.int .u8) 5 w' w.heap.size (fun _ => True) v0_ r ∧ Below w.heap.size w w' := by
  have hu34 := Try.underlying34
  have hu28 := Try.underlying28
  have HR0_1 := Aside0.mk hr0_1
  have HC0_1 := Aside0.mk hc0_1
  clear hr0_1 hc0_1
  have HB := Aside0.mk (Below.refl w.heap.size w)
  have H : ((coin_Put.f k (([1] : List Int)) (IntKind.u64.wrap (a0_0))).bind fun t126 => (message_Encode.l0 k t126 0 l0_1 (l0_1.length : Int) 0)) = some r := h
  clear h
  obtain ⟨y123, hy123⟩ : ∃ y_ : List Int, y_ = (([1] : List Int)) := ⟨_, rfl⟩
  replace H : ((coin_Put.f k y123 (IntKind.u64.wrap (a0_0))).bind fun t126 => (message_Encode.l0 k t126 0 l0_1 (l0_1.length : Int) 0)) = some r := by first | (rw [hy123]; with_reducible exact H) | (have H2_ := (Option.bind_some _ _).symm.trans H; rw [hy123]; with_reducible exact H2_) | (have H2_ := (Option.bind_some _ _).symm.trans H; with_reducible exact H2_) | with_reducible exact H | (rw [hy123]; exact H) | exact H
  have Ny123 := Aside0.mk hy123
  clear hy123
  replace H := Option.bind_eq_some_iff.mp H
  obtain ⟨t126, A20, H⟩ := H
  replace H : (message_Encode.l0 k t126 0 l0_1 (l0_1.length : Int) 0) = some r := H
  have A2 := Aside0.mk A20
  clear A20
  have H' := Aside0.mk H
  clear H
  go_enter Try.func9, Try.ntmps9
  go_wp2_with (first | ((with_reducible refine gate_dst (N := 1) rfl ?_); refine box_event ?hg (N := 1) ?hd (cs := #[.int .i64 a0_0, .slice A0_1 l0_1.length c0_1]) (t := 34) ?hr ?_; (case hd => rfl); (case hg => rfl); (case hr => first | (go_simp; done) | (go_simp; rfl)); intro gb122 hg w3 hbox hb; have n0_ := Aside0.mk (below_step (by repeat (first | (with_reducible first | exact HB.out | apply below_alloc | apply pw_below_drewN | apply below_drew1) | exact HB.out)) hb); have n1_ := Aside0.mk (hbox); have n2_ := Aside0.mk ((by rw [hg]; exact (below_size (by repeat (first | (with_reducible first | exact HB.out | apply below_alloc | apply pw_below_drewN | apply below_drew1) | exact HB.out))) : w.heap.size ≤ gb122)); have n3_ := Aside0.mk ((by rw [hg]; exact (below_size (by repeat (first | (with_reducible first | exact HB.out | apply below_alloc | apply pw_below_drewN | apply below_drew1) | exact HB.out))) : w.heap.size ≤ gb122)); clear HB; have HB := n0_; have BK122 := n1_; have GW122 := n2_; have GE122 := n3_; clear n0_ n1_ n2_ n3_; clear hb hbox hg) | ((with_reducible refine gate_dst (N := 9) rfl ?_); refine Kd.R_lit (Kd.int .u8) _ 5 ?hg (N := 9) ?hd (xs := ([1] : List Int)) (inner := [.int .u8 1]) (ok := fun _ => True) (okp := fun _ => True) ?hr ?hp (fun _ hk => hk) trivial (Below.refl _ _) (Nat.le_refl _) (by simp) ?_; (case hd => rfl); (case hg => rfl); (case hr => first | (go_simp; done) | (go_simp; rfl)); (case hp => exact (Reps.one (show Kd.M (Kd.int .u8) _ _ _ 1 [.int .u8 1] from rfl) (Reps.none _ _))); intro v124 w4 ho5 hb hg_ hnew_; clear hg_ hnew_; (first | rw [← Ny123.out] at ho5 | (simp only [Int.reduceToNat] at ho5; rw [← Ny123.out] at ho5)); have n0_ := Aside0.mk (Kd.R_lower ho5 (below_size (by repeat (first | (with_reducible first | exact HB.out | apply below_alloc | apply pw_below_drewN | apply below_drew1 | refine below_set ?_ GE122.out) | exact HB.out)))); have n1_ := Aside0.mk (blk_below (g := gb122) (o := .cells #[.int .i64 a0_0, .slice A0_1 l0_1.length c0_1] 34 (0, 0)) (by (with_reducible repeat (first | refine blk_drewN ?_ _ | refine blk_drew ?_ | refine blk_alloc ?_ _)); exact BK122.out) hb); have n2_ := Aside0.mk (below_step (by repeat (first | (with_reducible first | exact HB.out | apply below_alloc | apply pw_below_drewN | apply below_drew1 | refine below_set ?_ GE122.out) | exact HB.out)) hb); clear BK122; clear HB; have HO125 := n0_; have BK122 := n1_; have HB := n2_; clear n0_ n1_ n2_; clear hb ho5; have hcz6_0 : w4.cell? ⟨gb122, 0, none⟩ = some (.int .i64 a0_0) := (blk_cell BK122.out 0).trans rfl; have hcz6_1 : w4.cell? ⟨gb122, 1, none⟩ = some (.slice A0_1 l0_1.length c0_1) := (blk_cell BK122.out 1).trans rfl; have hfz6_0 := blk_frozen BK122.out 0; have hfz6_1 := blk_frozen BK122.out 1; obtain ⟨Ao7, co7, eo7⟩ := Kd.R_slice HO125.out; subst eo7) | ((with_reducible refine gate_callee (f := 20) rfl ?_); refine goesL_ (some 13) rfl rfl Try.func20 (by kernel_rfl) rfl #[.slice Ao7 y123.length co7, .int .u64 (IntKind.u64.wrap (a0_0))] rfl (by (try simp only [List.map_toArray, List.map_cons, List.map_nil]); first | done | rfl | (simp only [List.length_drop, List.length_take]; rfl) | (simp; done) | (refine qa_arr ?_; (repeat' (first | rfl | refine qa_cons ?_ ?_ | refine qa_int ?_ | refine qa_agg ?_ | refine qa_arr ?_ | omega)); done)) ?_; (with_reducible refine (coin_Put.calls k (fun k_ => some k_ = (.slice Ao7 y123.length co7 : Value).ownBlock) (.slice Ao7 y123.length co7) y123 (IntKind.u64.wrap (a0_0)) t126 w _ ?side1 ?side2 A2.out).mono ?_); (case side1 => repeat (first | (with_reducible first | exact HB.out | apply below_alloc | apply pw_below_drewN | apply below_drew1 | refine below_set ?_ GE122.out) | exact HB.out)); (case side2 => exact Kd.R_tight rfl HO125.out); rintro e w8 ⟨v127, rfl, ho0, hb, hkp⟩; refine ⟨_, rfl, ?_⟩; have n0_ := Aside0.mk (blk_kept (o := .cells #[.int .i64 a0_0, .slice A0_1 l0_1.length c0_1] 34 (0, 0)) (by (with_reducible repeat (first | refine blk_drewN ?_ _ | refine blk_drew ?_ | refine blk_alloc ?_ _)); exact BK122.out) hkp (fun hs_ => (fun e_ => (Kd.R_ne HO125.out BK122.out (by decide)) e_) hs_)); have n1_ := Aside0.mk (Kd.R_mono (ok' := fun k_ => True) ho0 (fun k_ hk_ => trivial)); have n2_ := Aside0.mk (hb); clear BK122; clear HB; clear HO125; have BK122 := n0_; have HO128 := n1_; have HB := n2_; clear n0_ n1_ n2_; (try clear hb); (try clear hkp); (try clear ho0); have hcz9_0 : w8.cell? ⟨gb122, 0, none⟩ = some (.int .i64 a0_0) := (blk_cell BK122.out 0).trans rfl; have hcz9_1 : w8.cell? ⟨gb122, 1, none⟩ = some (.slice A0_1 l0_1.length c0_1) := (blk_cell BK122.out 1).trans rfl; have hfz9_0 := blk_frozen BK122.out 0; have hfz9_1 := blk_frozen BK122.out 1))
  go_loopg [3, 4, 17] k (fun kq v3 v4 v17 w' => ∃ (x3_1 : List Int) (x4_1 : Int) (x17_1 : Int), v4 = .int .i64 x4_1 ∧ v17 = .int .i64 x17_1 ∧ Aside0 (message_Encode.l0 kq x3_1 x4_1 l0_1 (l0_1.length : Int) x17_1 = some r) ∧ Aside0 (kq ≤ k) ∧ Aside0 (Kd.R (Kd.int .u8) 5 w' w.heap.size (fun _ => True) v3 x3_1) ∧ Aside0 (w'.heap[gb122]? = some (.cells #[.int .i64 a0_0, (.slice A0_1 l0_1.length c0_1)] 34 (0, 0))) ∧ Aside0 (Below w.heap.size w w'))
  case atStart => exact ⟨(t126), (0), (0), (by first | rfl | (simp; done) | (simp [*]; done) | (refine qa_int ?_; omega) | (refine qa_int ?_; simp <;> omega)), (by first | rfl | (simp; done) | (simp [*]; done) | (refine qa_int ?_; omega) | (refine qa_int ?_; simp <;> omega)), H', ⟨Nat.le_refl _⟩, ⟨by (with_reducible repeat (first | apply Kd.R_alloc | apply Kd.R_drewN | apply Kd.R_drew)); exact HO128.out⟩, ⟨by (with_reducible repeat (first | refine blk_drewN ?_ _ | refine blk_drew ?_ | refine blk_alloc ?_ _)); exact BK122.out⟩, ⟨by repeat (first | (with_reducible first | exact HB.out | apply below_alloc | apply pw_below_drewN | apply below_drew1 | refine below_set ?_ GE122.out) | exact HB.out)⟩⟩
  case round =>
    clear H'
    try clear c2
    try clear p2
    try clear c9
    try clear hcz6_0
    try clear hcz6_1
    try clear hcz9_0
    try clear hcz9_1
    try clear hfz6_0
    try clear hfz6_1
    try clear hfz9_0
    try clear hfz9_1
    obtain ⟨x3_1, x4_1, x17_1, rfl, rfl, HA, HK1, HO_3, BK122, HB⟩ := hrel
    cases gk with
    | zero => exact absurd HA.out (by simp [message_Encode.l0])
    | succ k1 =>
      have H := HA.out
      clear HA
      simp only [message_Encode.l0] at H
      by_cases c10 : x17_1 < (l0_1.length : Int)
      · rw [if_pos c10] at H
        have c10b0 : decide (x17_1 < (l0_1.length : Int)) = true := decide_eq_true c10
        clear c10
        by_cases c11 : 0 ≤ x17_1
        · rw [if_pos c11] at H
          have c11b0 : decide (0 ≤ x17_1) = true := decide_eq_true c11
          clear c11
          by_cases c12 : x17_1 < (l0_1.length : Int)
          · rw [if_pos c12] at H
            have c12b0 : decide (x17_1 < (l0_1.length : Int)) = true := decide_eq_true c12
            clear c12
            have HC13 := Aside0.mk H
            clear H
            have p136 : 0 ≤ (x17_1 : Int) := of_decide_eq_true (by first | (with_reducible assumption) | assumption)
            have q136 : x17_1 < (l0_1.length : Int) := of_decide_eq_true (by first | (with_reducible assumption) | assumption)
            obtain ⟨ad136, e136, hx136_0, hx136_1, hx136_2, hx136_3, hx136_4, hx136_5, hx136_6⟩ := at_T28 HR0_1.out x17_1 p136 q136
            cases e136
            replace hx136_0 := (HB.out.cell (World.block_lt_of_cell? w _ hx136_0)).trans hx136_0
            replace hx136_1 := (HB.out.cell (World.block_lt_of_cell? w _ hx136_1)).trans hx136_1
            replace hx136_2 := (HB.out.cell (World.block_lt_of_cell? w _ hx136_2)).trans hx136_2
            replace hx136_3 := (HB.out.cell (World.block_lt_of_cell? w _ hx136_3)).trans hx136_3
            replace hx136_4 := (HB.out.cell (World.block_lt_of_cell? w _ hx136_4)).trans hx136_4
            replace hx136_5 := (HB.out.cell (World.block_lt_of_cell? w _ hx136_5)).trans hx136_5
            replace hx136_6 := (HB.out.cell (World.block_lt_of_cell? w _ hx136_6)).trans hx136_6
            replace p136 := eq_true p136
            replace q136 := eq_true q136
            go_upto_region 6 with (first | ((with_reducible refine gate_dst (N := 6) rfl ?_); refine box_event ?hg (N := 6) ?hd (cs := #[.int .u8 0, .int .u64 0, .int .i64 0, .int .u32 0, .int .u8 0, .int .u16 0, .int .u16 0]) (t := 28) ?hr ?_; (case hd => rfl); (case hg => rfl); (case hr => first | (go_simp; done) | (go_simp; rfl)); intro gb137 hg w14 hbox hb; have n0_ := Aside0.mk (Kd.R_below (by (with_reducible repeat (first | apply Kd.R_alloc | apply Kd.R_drewN | apply Kd.R_drew)); exact HO_3.out) hb); have n1_ := Aside0.mk (blk_below (g := gb122) (o := .cells #[.int .i64 a0_0, .slice (some ad136) l0_1.length c0_1] 34 (0, 0)) (by (with_reducible repeat (first | refine blk_drewN ?_ _ | refine blk_drew ?_ | refine blk_alloc ?_ _)); exact BK122.out) hb); have n2_ := Aside0.mk (below_step (by repeat (first | (with_reducible first | exact HB.out | apply below_alloc | apply pw_below_drewN | apply below_drew1 | refine below_set ?_ GE122.out) | exact HB.out)) hb); have n3_ := Aside0.mk (hbox); have n4_ := Aside0.mk ((by rw [hg]; exact (below_size (by repeat (first | (with_reducible first | exact HB.out | apply below_alloc | apply pw_below_drewN | apply below_drew1 | refine below_set ?_ GE122.out) | exact HB.out))) : w.heap.size ≤ gb137)); have n5_ := Aside0.mk ((by rw [hg]; exact (below_size (by repeat (first | (with_reducible first | exact HB.out | apply below_alloc | apply pw_below_drewN | apply below_drew1 | refine below_set ?_ GE122.out) | exact HB.out))) : w.heap.size ≤ gb137)); have n6_ := Aside0.mk ((by rw [hg]; exact Nat.ne_of_lt (blk_lt (g := gb122) (o := .cells #[.int .i64 a0_0, .slice (some ad136) l0_1.length c0_1] 34 (0, 0)) (by (with_reducible repeat (first | refine blk_drewN ?_ _ | refine blk_drew ?_ | refine blk_alloc ?_ _)); exact BK122.out)) : gb122 ≠ gb137)); have n7_ := Aside0.mk ((by rw [hg]; exact Nat.ne_of_gt (blk_lt (g := gb122) (o := .cells #[.int .i64 a0_0, .slice (some ad136) l0_1.length c0_1] 34 (0, 0)) (by (with_reducible repeat (first | refine blk_drewN ?_ _ | refine blk_drew ?_ | refine blk_alloc ?_ _)); exact BK122.out)) : gb137 ≠ gb122)); clear HO_3; clear BK122; clear HB; have HO_3 := n0_; have BK122 := n1_; have HB := n2_; have BK137 := n3_; have GW137 := n4_; have GE137 := n5_; have NB122_137 := n6_; have NB137_122 := n7_; clear n0_ n1_ n2_ n3_ n4_ n5_ n6_ n7_; clear hb hbox hg; have hnb15 := NB137_122.out; have hnc15 := NB122_137.out; have hcz16_0 : w14.cell? ⟨gb137, 0, none⟩ = some (.int .u8 0) := (blk_cell BK137.out 0).trans rfl; have hcz16_1 : w14.cell? ⟨gb137, 1, none⟩ = some (.int .u64 0) := (blk_cell BK137.out 1).trans rfl; have hcz16_2 : w14.cell? ⟨gb137, 2, none⟩ = some (.int .i64 0) := (blk_cell BK137.out 2).trans rfl; have hcz16_3 : w14.cell? ⟨gb137, 3, none⟩ = some (.int .u32 0) := (blk_cell BK137.out 3).trans rfl; have hcz16_4 : w14.cell? ⟨gb137, 4, none⟩ = some (.int .u8 0) := (blk_cell BK137.out 4).trans rfl; have hcz16_5 : w14.cell? ⟨gb137, 5, none⟩ = some (.int .u16 0) := (blk_cell BK137.out 5).trans rfl; have hcz16_6 : w14.cell? ⟨gb137, 6, none⟩ = some (.int .u16 0) := (blk_cell BK137.out 6).trans rfl; have hfz16_0 := blk_frozen BK137.out 0; have hfz16_1 := blk_frozen BK137.out 1; have hfz16_2 := blk_frozen BK137.out 2; have hfz16_3 := blk_frozen BK137.out 3; have hfz16_4 := blk_frozen BK137.out 4; have hfz16_5 := blk_frozen BK137.out 5; have hfz16_6 := blk_frozen BK137.out 6))
            (try simp only [Act.put, List.setIfInBounds_toArray, List.set_cons_zero, List.set_cons_succ])
            go_cut [26] (fun v26 wc => ∃ (kq : Nat) (x26_12 : Bool), v26 = .bool x26_12 ∧ Aside0 (message_Encode.j1 kq x3_1 x4_1 l0_1 (l0_1.length : Int) x17_1 x26_12 ((rd_T28 l0_1 x17_1).f0) ((rd_T28 l0_1 x17_1).f1) ((rd_T28 l0_1 x17_1).f2) ((rd_T28 l0_1 x17_1).f3.f0) ((rd_T28 l0_1 x17_1).f3.f1) ((rd_T28 l0_1 x17_1).f4) ((rd_T28 l0_1 x17_1).f5) = some r) ∧ Aside0 (kq ≤ k1) ∧ Aside0 (Kd.R (Kd.int .u8) 5 wc w.heap.size (fun _ => True) u3 x3_1) ∧ Aside0 (wc.heap[gb122]? = some (.cells #[.int .i64 a0_0, (.slice (some ad136) l0_1.length c0_1)] 34 (0, 0))) ∧ Aside0 (wc.heap[gb137]? = some (.cells #[.int .u8 ((rd_T28 l0_1 x17_1).f0), .int .u64 ((rd_T28 l0_1 x17_1).f1), .int .i64 ((rd_T28 l0_1 x17_1).f2), .int .u32 ((rd_T28 l0_1 x17_1).f3.f0), .int .u8 ((rd_T28 l0_1 x17_1).f3.f1), .int .u16 ((rd_T28 l0_1 x17_1).f4), .int .u16 ((rd_T28 l0_1 x17_1).f5)] 28 (0, 0))) ∧ Aside0 (Below w.heap.size w wc))
            case first =>
              have H := HC13.out
              clear HC13
              replace H := Option.bind_eq_some_iff.mp H
              obtain ⟨t138, A170, H⟩ := H
              replace H : (if t138 = true then (message_Encode.j1 k1 x3_1 x4_1 l0_1 (l0_1.length : Int) x17_1 (decide (x4_1 < 300)) ((rd_T28 l0_1 x17_1).f0) ((rd_T28 l0_1 x17_1).f1) ((rd_T28 l0_1 x17_1).f2) ((rd_T28 l0_1 x17_1).f3.f0) ((rd_T28 l0_1 x17_1).f3.f1) ((rd_T28 l0_1 x17_1).f4) ((rd_T28 l0_1 x17_1).f5)) else (message_Encode.j1 k1 x3_1 x4_1 l0_1 (l0_1.length : Int) x17_1 false ((rd_T28 l0_1 x17_1).f0) ((rd_T28 l0_1 x17_1).f1) ((rd_T28 l0_1 x17_1).f2) ((rd_T28 l0_1 x17_1).f3.f0) ((rd_T28 l0_1 x17_1).f3.f1) ((rd_T28 l0_1 x17_1).f4) ((rd_T28 l0_1 x17_1).f5))) = some r := H
              have A17 := Aside0.mk A170
              clear A170
              by_cases c18 : t138 = true
              · subst c18
                have H1 : (message_Encode.j1 k1 x3_1 x4_1 l0_1 (l0_1.length : Int) x17_1 (decide (x4_1 < 300)) ((rd_T28 l0_1 x17_1).f0) ((rd_T28 l0_1 x17_1).f1) ((rd_T28 l0_1 x17_1).f2) ((rd_T28 l0_1 x17_1).f3.f0) ((rd_T28 l0_1 x17_1).f3.f1) ((rd_T28 l0_1 x17_1).f4) ((rd_T28 l0_1 x17_1).f5)) = some r := by rw [if_pos rfl] at H; exact H
                clear H
                have H := H1
                clear H1
                have H' := Aside0.mk H
                clear H
                have hnb19 := NB137_122.out
                have hnc19 := NB122_137.out
                have hcz20_0 : w14.cell? ⟨gb137, 0, none⟩ = some (.int .u8 0) := (blk_cell BK137.out 0).trans rfl
                have hcz20_1 : w14.cell? ⟨gb137, 1, none⟩ = some (.int .u64 0) := (blk_cell BK137.out 1).trans rfl
                have hcz20_2 : w14.cell? ⟨gb137, 2, none⟩ = some (.int .i64 0) := (blk_cell BK137.out 2).trans rfl
                have hcz20_3 : w14.cell? ⟨gb137, 3, none⟩ = some (.int .u32 0) := (blk_cell BK137.out 3).trans rfl
                have hcz20_4 : w14.cell? ⟨gb137, 4, none⟩ = some (.int .u8 0) := (blk_cell BK137.out 4).trans rfl
                have hcz20_5 : w14.cell? ⟨gb137, 5, none⟩ = some (.int .u16 0) := (blk_cell BK137.out 5).trans rfl
                have hcz20_6 : w14.cell? ⟨gb137, 6, none⟩ = some (.int .u16 0) := (blk_cell BK137.out 6).trans rfl
                have hfz20_0 := blk_frozen BK137.out 0
                have hfz20_1 := blk_frozen BK137.out 1
                have hfz20_2 := blk_frozen BK137.out 2
                have hfz20_3 := blk_frozen BK137.out 3
                have hfz20_4 := blk_frozen BK137.out 4
                have hfz20_5 := blk_frozen BK137.out 5
                have hfz20_6 := blk_frozen BK137.out 6
                go_wp2_with (first | ((with_reducible refine gate_callee (f := 13) rfl ?_); refine goesL_ (some 22) rfl rfl Try.func13 (by kernel_rfl) rfl #[.agg #[.int .u8 ((rd_T28 l0_1 x17_1).f0), .int .u64 ((rd_T28 l0_1 x17_1).f1), .int .i64 ((rd_T28 l0_1 x17_1).f2), .int .u32 ((rd_T28 l0_1 x17_1).f3.f0), .int .u8 ((rd_T28 l0_1 x17_1).f3.f1), .int .u16 ((rd_T28 l0_1 x17_1).f4), .int .u16 ((rd_T28 l0_1 x17_1).f5)]] rfl (by (try simp only [List.map_toArray, List.map_cons, List.map_nil]); first | done | rfl | (simp only [List.length_drop, List.length_take]; rfl) | (simp; done) | (refine qa_arr ?_; (repeat' (first | rfl | refine qa_cons ?_ ?_ | refine qa_int ?_ | refine qa_agg ?_ | refine qa_arr ?_ | omega)); done)) ?_; (with_reducible refine (message_Right.calls ((rd_T28 l0_1 x17_1).f0) ((rd_T28 l0_1 x17_1).f1) ((rd_T28 l0_1 x17_1).f2) ((rd_T28 l0_1 x17_1).f3.f0) ((rd_T28 l0_1 x17_1).f3.f1) ((rd_T28 l0_1 x17_1).f4) ((rd_T28 l0_1 x17_1).f5) true _ A17.out).mono ?_); rintro e w21 ⟨rfl, hb⟩; refine ⟨_, rfl, ?_⟩; have n0_ := Aside0.mk (Kd.R_below (by (with_reducible repeat (first | apply Kd.R_alloc | apply Kd.R_drewN | apply Kd.R_drew)); exact (Kd.R_mono (Kd.R_far (p := ⟨gb137, 6, none⟩) (Kd.R_far (p := ⟨gb137, 5, none⟩) (Kd.R_far (p := ⟨gb137, 4, none⟩) (Kd.R_far (p := ⟨gb137, 3, none⟩) (Kd.R_far (p := ⟨gb137, 2, none⟩) (Kd.R_far (p := ⟨gb137, 1, none⟩) (Kd.R_far (p := ⟨gb137, 0, none⟩) (Kd.R_types HO_3.out BK137.out (by decide)) (fun _ hk => hk.2) (.int .u8 ((rd_T28 l0_1 x17_1).f0))) (fun _ hk => hk.2) (.int .u64 ((rd_T28 l0_1 x17_1).f1))) (fun _ hk => hk.2) (.int .i64 ((rd_T28 l0_1 x17_1).f2))) (fun _ hk => hk.2) (.int .u32 ((rd_T28 l0_1 x17_1).f3.f0))) (fun _ hk => hk.2) (.int .u8 ((rd_T28 l0_1 x17_1).f3.f1))) (fun _ hk => hk.2) (.int .u16 ((rd_T28 l0_1 x17_1).f4))) (fun _ hk => hk.2) (.int .u16 ((rd_T28 l0_1 x17_1).f5))) (fun _ h_ => h_.1))) hb); have n1_ := Aside0.mk (blk_below (g := gb122) (o := .cells #[.int .i64 a0_0, .slice (some ad136) l0_1.length c0_1] 34 (0, 0)) (by (with_reducible repeat (first | refine blk_drewN ?_ _ | refine blk_drew ?_ | refine blk_alloc ?_ _)); refine blk_far ?_ NB122_137.out _; (with_reducible repeat (first | refine blk_drewN ?_ _ | refine blk_drew ?_ | refine blk_alloc ?_ _)); refine blk_far ?_ NB122_137.out _; (with_reducible repeat (first | refine blk_drewN ?_ _ | refine blk_drew ?_ | refine blk_alloc ?_ _)); refine blk_far ?_ NB122_137.out _; (with_reducible repeat (first | refine blk_drewN ?_ _ | refine blk_drew ?_ | refine blk_alloc ?_ _)); refine blk_far ?_ NB122_137.out _; (with_reducible repeat (first | refine blk_drewN ?_ _ | refine blk_drew ?_ | refine blk_alloc ?_ _)); refine blk_far ?_ NB122_137.out _; (with_reducible repeat (first | refine blk_drewN ?_ _ | refine blk_drew ?_ | refine blk_alloc ?_ _)); refine blk_far ?_ NB122_137.out _; (with_reducible repeat (first | refine blk_drewN ?_ _ | refine blk_drew ?_ | refine blk_alloc ?_ _)); refine blk_far ?_ NB122_137.out _; (with_reducible repeat (first | refine blk_drewN ?_ _ | refine blk_drew ?_ | refine blk_alloc ?_ _)); exact BK122.out) hb); have n2_ := Aside0.mk (blk_below (g := gb137) (o := .cells #[.int .u8 ((rd_T28 l0_1 x17_1).f0), .int .u64 ((rd_T28 l0_1 x17_1).f1), .int .i64 ((rd_T28 l0_1 x17_1).f2), .int .u32 ((rd_T28 l0_1 x17_1).f3.f0), .int .u8 ((rd_T28 l0_1 x17_1).f3.f1), .int .u16 ((rd_T28 l0_1 x17_1).f4), .int .u16 ((rd_T28 l0_1 x17_1).f5)] 28 (0, 0)) (by (with_reducible repeat (first | refine blk_drewN ?_ _ | refine blk_drew ?_ | refine blk_alloc ?_ _)); refine blk_put (cs := #[.int .u8 ((rd_T28 l0_1 x17_1).f0), .int .u64 ((rd_T28 l0_1 x17_1).f1), .int .i64 ((rd_T28 l0_1 x17_1).f2), .int .u32 ((rd_T28 l0_1 x17_1).f3.f0), .int .u8 ((rd_T28 l0_1 x17_1).f3.f1), .int .u16 ((rd_T28 l0_1 x17_1).f4), .int .u16 0]) ?_ 6 _ rfl; (with_reducible repeat (first | refine blk_drewN ?_ _ | refine blk_drew ?_ | refine blk_alloc ?_ _)); refine blk_put (cs := #[.int .u8 ((rd_T28 l0_1 x17_1).f0), .int .u64 ((rd_T28 l0_1 x17_1).f1), .int .i64 ((rd_T28 l0_1 x17_1).f2), .int .u32 ((rd_T28 l0_1 x17_1).f3.f0), .int .u8 ((rd_T28 l0_1 x17_1).f3.f1), .int .u16 0, .int .u16 0]) ?_ 5 _ rfl; (with_reducible repeat (first | refine blk_drewN ?_ _ | refine blk_drew ?_ | refine blk_alloc ?_ _)); refine blk_put (cs := #[.int .u8 ((rd_T28 l0_1 x17_1).f0), .int .u64 ((rd_T28 l0_1 x17_1).f1), .int .i64 ((rd_T28 l0_1 x17_1).f2), .int .u32 ((rd_T28 l0_1 x17_1).f3.f0), .int .u8 0, .int .u16 0, .int .u16 0]) ?_ 4 _ rfl; (with_reducible repeat (first | refine blk_drewN ?_ _ | refine blk_drew ?_ | refine blk_alloc ?_ _)); refine blk_put (cs := #[.int .u8 ((rd_T28 l0_1 x17_1).f0), .int .u64 ((rd_T28 l0_1 x17_1).f1), .int .i64 ((rd_T28 l0_1 x17_1).f2), .int .u32 0, .int .u8 0, .int .u16 0, .int .u16 0]) ?_ 3 _ rfl; (with_reducible repeat (first | refine blk_drewN ?_ _ | refine blk_drew ?_ | refine blk_alloc ?_ _)); refine blk_put (cs := #[.int .u8 ((rd_T28 l0_1 x17_1).f0), .int .u64 ((rd_T28 l0_1 x17_1).f1), .int .i64 0, .int .u32 0, .int .u8 0, .int .u16 0, .int .u16 0]) ?_ 2 _ rfl; (with_reducible repeat (first | refine blk_drewN ?_ _ | refine blk_drew ?_ | refine blk_alloc ?_ _)); refine blk_put (cs := #[.int .u8 ((rd_T28 l0_1 x17_1).f0), .int .u64 0, .int .i64 0, .int .u32 0, .int .u8 0, .int .u16 0, .int .u16 0]) ?_ 1 _ rfl; (with_reducible repeat (first | refine blk_drewN ?_ _ | refine blk_drew ?_ | refine blk_alloc ?_ _)); refine blk_put (cs := #[.int .u8 0, .int .u64 0, .int .i64 0, .int .u32 0, .int .u8 0, .int .u16 0, .int .u16 0]) ?_ 0 _ rfl; (with_reducible repeat (first | refine blk_drewN ?_ _ | refine blk_drew ?_ | refine blk_alloc ?_ _)); exact BK137.out) hb); have n3_ := Aside0.mk (below_step (by repeat (first | (with_reducible first | exact HB.out | apply below_alloc | apply pw_below_drewN | apply below_drew1 | refine below_set ?_ GE122.out | refine below_set ?_ GE137.out) | exact HB.out)) hb); clear HO_3; clear BK122; clear BK137; clear HB; have HO_3 := n0_; have BK122 := n1_; have BK137 := n2_; have HB := n3_; clear n0_ n1_ n2_ n3_; (try clear hb); (try clear hb2); (try clear hk); (try clear hi)))
                go_meet
                case rel => exact ⟨_, (decide (x4_1 < 300)), (by first | rfl | (simp; done) | (simp [*]; done) | (refine qa_int ?_; omega) | (refine qa_int ?_; simp <;> omega)), H', ⟨by have := HK1.out; first | omega | exact Nat.le_refl _⟩, ⟨by (with_reducible repeat (first | apply Kd.R_alloc | apply Kd.R_drewN | apply Kd.R_drew)); exact HO_3.out⟩, ⟨by (with_reducible repeat (first | refine blk_drewN ?_ _ | refine blk_drew ?_ | refine blk_alloc ?_ _)); exact BK122.out⟩, ⟨by (with_reducible repeat (first | refine blk_drewN ?_ _ | refine blk_drew ?_ | refine blk_alloc ?_ _)); exact BK137.out⟩, ⟨by repeat (first | (with_reducible first | exact HB.out | apply below_alloc | apply pw_below_drewN | apply below_drew1 | refine below_set ?_ GE122.out | refine below_set ?_ GE137.out) | exact HB.out)⟩⟩
              · replace c18 := Bool.eq_false_iff.mpr c18
                subst c18
                have H1 : (message_Encode.j1 k1 x3_1 x4_1 l0_1 (l0_1.length : Int) x17_1 false ((rd_T28 l0_1 x17_1).f0) ((rd_T28 l0_1 x17_1).f1) ((rd_T28 l0_1 x17_1).f2) ((rd_T28 l0_1 x17_1).f3.f0) ((rd_T28 l0_1 x17_1).f3.f1) ((rd_T28 l0_1 x17_1).f4) ((rd_T28 l0_1 x17_1).f5)) = some r := by rw [if_neg (show ¬ (false = true) by decide)] at H; exact H
                clear H
                have H := H1
                clear H1
                have H' := Aside0.mk H
                clear H
                have hnb22 := NB137_122.out
                have hnc22 := NB122_137.out
                have hcz23_0 : w14.cell? ⟨gb137, 0, none⟩ = some (.int .u8 0) := (blk_cell BK137.out 0).trans rfl
                have hcz23_1 : w14.cell? ⟨gb137, 1, none⟩ = some (.int .u64 0) := (blk_cell BK137.out 1).trans rfl
                have hcz23_2 : w14.cell? ⟨gb137, 2, none⟩ = some (.int .i64 0) := (blk_cell BK137.out 2).trans rfl
                have hcz23_3 : w14.cell? ⟨gb137, 3, none⟩ = some (.int .u32 0) := (blk_cell BK137.out 3).trans rfl
                have hcz23_4 : w14.cell? ⟨gb137, 4, none⟩ = some (.int .u8 0) := (blk_cell BK137.out 4).trans rfl
                have hcz23_5 : w14.cell? ⟨gb137, 5, none⟩ = some (.int .u16 0) := (blk_cell BK137.out 5).trans rfl
                have hcz23_6 : w14.cell? ⟨gb137, 6, none⟩ = some (.int .u16 0) := (blk_cell BK137.out 6).trans rfl
                have hfz23_0 := blk_frozen BK137.out 0
                have hfz23_1 := blk_frozen BK137.out 1
                have hfz23_2 := blk_frozen BK137.out 2
                have hfz23_3 := blk_frozen BK137.out 3
                have hfz23_4 := blk_frozen BK137.out 4
                have hfz23_5 := blk_frozen BK137.out 5
                have hfz23_6 := blk_frozen BK137.out 6
                go_wp2_with (first | ((with_reducible refine gate_callee (f := 13) rfl ?_); refine goesL_ (some 22) rfl rfl Try.func13 (by kernel_rfl) rfl #[.agg #[.int .u8 ((rd_T28 l0_1 x17_1).f0), .int .u64 ((rd_T28 l0_1 x17_1).f1), .int .i64 ((rd_T28 l0_1 x17_1).f2), .int .u32 ((rd_T28 l0_1 x17_1).f3.f0), .int .u8 ((rd_T28 l0_1 x17_1).f3.f1), .int .u16 ((rd_T28 l0_1 x17_1).f4), .int .u16 ((rd_T28 l0_1 x17_1).f5)]] rfl (by (try simp only [List.map_toArray, List.map_cons, List.map_nil]); first | done | rfl | (simp only [List.length_drop, List.length_take]; rfl) | (simp; done) | (refine qa_arr ?_; (repeat' (first | rfl | refine qa_cons ?_ ?_ | refine qa_int ?_ | refine qa_agg ?_ | refine qa_arr ?_ | omega)); done)) ?_; (with_reducible refine (message_Right.calls ((rd_T28 l0_1 x17_1).f0) ((rd_T28 l0_1 x17_1).f1) ((rd_T28 l0_1 x17_1).f2) ((rd_T28 l0_1 x17_1).f3.f0) ((rd_T28 l0_1 x17_1).f3.f1) ((rd_T28 l0_1 x17_1).f4) ((rd_T28 l0_1 x17_1).f5) false _ A17.out).mono ?_); rintro e w24 ⟨rfl, hb⟩; refine ⟨_, rfl, ?_⟩; have n0_ := Aside0.mk (Kd.R_below (by (with_reducible repeat (first | apply Kd.R_alloc | apply Kd.R_drewN | apply Kd.R_drew)); exact (Kd.R_mono (Kd.R_far (p := ⟨gb137, 6, none⟩) (Kd.R_far (p := ⟨gb137, 5, none⟩) (Kd.R_far (p := ⟨gb137, 4, none⟩) (Kd.R_far (p := ⟨gb137, 3, none⟩) (Kd.R_far (p := ⟨gb137, 2, none⟩) (Kd.R_far (p := ⟨gb137, 1, none⟩) (Kd.R_far (p := ⟨gb137, 0, none⟩) (Kd.R_types HO_3.out BK137.out (by decide)) (fun _ hk => hk.2) (.int .u8 ((rd_T28 l0_1 x17_1).f0))) (fun _ hk => hk.2) (.int .u64 ((rd_T28 l0_1 x17_1).f1))) (fun _ hk => hk.2) (.int .i64 ((rd_T28 l0_1 x17_1).f2))) (fun _ hk => hk.2) (.int .u32 ((rd_T28 l0_1 x17_1).f3.f0))) (fun _ hk => hk.2) (.int .u8 ((rd_T28 l0_1 x17_1).f3.f1))) (fun _ hk => hk.2) (.int .u16 ((rd_T28 l0_1 x17_1).f4))) (fun _ hk => hk.2) (.int .u16 ((rd_T28 l0_1 x17_1).f5))) (fun _ h_ => h_.1))) hb); have n1_ := Aside0.mk (blk_below (g := gb122) (o := .cells #[.int .i64 a0_0, .slice (some ad136) l0_1.length c0_1] 34 (0, 0)) (by (with_reducible repeat (first | refine blk_drewN ?_ _ | refine blk_drew ?_ | refine blk_alloc ?_ _)); refine blk_far ?_ NB122_137.out _; (with_reducible repeat (first | refine blk_drewN ?_ _ | refine blk_drew ?_ | refine blk_alloc ?_ _)); refine blk_far ?_ NB122_137.out _; (with_reducible repeat (first | refine blk_drewN ?_ _ | refine blk_drew ?_ | refine blk_alloc ?_ _)); refine blk_far ?_ NB122_137.out _; (with_reducible repeat (first | refine blk_drewN ?_ _ | refine blk_drew ?_ | refine blk_alloc ?_ _)); refine blk_far ?_ NB122_137.out _; (with_reducible repeat (first | refine blk_drewN ?_ _ | refine blk_drew ?_ | refine blk_alloc ?_ _)); refine blk_far ?_ NB122_137.out _; (with_reducible repeat (first | refine blk_drewN ?_ _ | refine blk_drew ?_ | refine blk_alloc ?_ _)); refine blk_far ?_ NB122_137.out _; (with_reducible repeat (first | refine blk_drewN ?_ _ | refine blk_drew ?_ | refine blk_alloc ?_ _)); refine blk_far ?_ NB122_137.out _; (with_reducible repeat (first | refine blk_drewN ?_ _ | refine blk_drew ?_ | refine blk_alloc ?_ _)); exact BK122.out) hb); have n2_ := Aside0.mk (blk_below (g := gb137) (o := .cells #[.int .u8 ((rd_T28 l0_1 x17_1).f0), .int .u64 ((rd_T28 l0_1 x17_1).f1), .int .i64 ((rd_T28 l0_1 x17_1).f2), .int .u32 ((rd_T28 l0_1 x17_1).f3.f0), .int .u8 ((rd_T28 l0_1 x17_1).f3.f1), .int .u16 ((rd_T28 l0_1 x17_1).f4), .int .u16 ((rd_T28 l0_1 x17_1).f5)] 28 (0, 0)) (by (with_reducible repeat (first | refine blk_drewN ?_ _ | refine blk_drew ?_ | refine blk_alloc ?_ _)); refine blk_put (cs := #[.int .u8 ((rd_T28 l0_1 x17_1).f0), .int .u64 ((rd_T28 l0_1 x17_1).f1), .int .i64 ((rd_T28 l0_1 x17_1).f2), .int .u32 ((rd_T28 l0_1 x17_1).f3.f0), .int .u8 ((rd_T28 l0_1 x17_1).f3.f1), .int .u16 ((rd_T28 l0_1 x17_1).f4), .int .u16 0]) ?_ 6 _ rfl; (with_reducible repeat (first | refine blk_drewN ?_ _ | refine blk_drew ?_ | refine blk_alloc ?_ _)); refine blk_put (cs := #[.int .u8 ((rd_T28 l0_1 x17_1).f0), .int .u64 ((rd_T28 l0_1 x17_1).f1), .int .i64 ((rd_T28 l0_1 x17_1).f2), .int .u32 ((rd_T28 l0_1 x17_1).f3.f0), .int .u8 ((rd_T28 l0_1 x17_1).f3.f1), .int .u16 0, .int .u16 0]) ?_ 5 _ rfl; (with_reducible repeat (first | refine blk_drewN ?_ _ | refine blk_drew ?_ | refine blk_alloc ?_ _)); refine blk_put (cs := #[.int .u8 ((rd_T28 l0_1 x17_1).f0), .int .u64 ((rd_T28 l0_1 x17_1).f1), .int .i64 ((rd_T28 l0_1 x17_1).f2), .int .u32 ((rd_T28 l0_1 x17_1).f3.f0), .int .u8 0, .int .u16 0, .int .u16 0]) ?_ 4 _ rfl; (with_reducible repeat (first | refine blk_drewN ?_ _ | refine blk_drew ?_ | refine blk_alloc ?_ _)); refine blk_put (cs := #[.int .u8 ((rd_T28 l0_1 x17_1).f0), .int .u64 ((rd_T28 l0_1 x17_1).f1), .int .i64 ((rd_T28 l0_1 x17_1).f2), .int .u32 0, .int .u8 0, .int .u16 0, .int .u16 0]) ?_ 3 _ rfl; (with_reducible repeat (first | refine blk_drewN ?_ _ | refine blk_drew ?_ | refine blk_alloc ?_ _)); refine blk_put (cs := #[.int .u8 ((rd_T28 l0_1 x17_1).f0), .int .u64 ((rd_T28 l0_1 x17_1).f1), .int .i64 0, .int .u32 0, .int .u8 0, .int .u16 0, .int .u16 0]) ?_ 2 _ rfl; (with_reducible repeat (first | refine blk_drewN ?_ _ | refine blk_drew ?_ | refine blk_alloc ?_ _)); refine blk_put (cs := #[.int .u8 ((rd_T28 l0_1 x17_1).f0), .int .u64 0, .int .i64 0, .int .u32 0, .int .u8 0, .int .u16 0, .int .u16 0]) ?_ 1 _ rfl; (with_reducible repeat (first | refine blk_drewN ?_ _ | refine blk_drew ?_ | refine blk_alloc ?_ _)); refine blk_put (cs := #[.int .u8 0, .int .u64 0, .int .i64 0, .int .u32 0, .int .u8 0, .int .u16 0, .int .u16 0]) ?_ 0 _ rfl; (with_reducible repeat (first | refine blk_drewN ?_ _ | refine blk_drew ?_ | refine blk_alloc ?_ _)); exact BK137.out) hb); have n3_ := Aside0.mk (below_step (by repeat (first | (with_reducible first | exact HB.out | apply below_alloc | apply pw_below_drewN | apply below_drew1 | refine below_set ?_ GE122.out | refine below_set ?_ GE137.out) | exact HB.out)) hb); clear HO_3; clear BK122; clear BK137; clear HB; have HO_3 := n0_; have BK122 := n1_; have BK137 := n2_; have HB := n3_; clear n0_ n1_ n2_ n3_; (try clear hb); (try clear hb2); (try clear hk); (try clear hi)))
                go_meet
                case rel => exact ⟨_, (false), (by first | rfl | (simp; done) | (simp [*]; done) | (refine qa_int ?_; omega) | (refine qa_int ?_; simp <;> omega)), H', ⟨by have := HK1.out; first | omega | exact Nat.le_refl _⟩, ⟨by (with_reducible repeat (first | apply Kd.R_alloc | apply Kd.R_drewN | apply Kd.R_drew)); exact HO_3.out⟩, ⟨by (with_reducible repeat (first | refine blk_drewN ?_ _ | refine blk_drew ?_ | refine blk_alloc ?_ _)); exact BK122.out⟩, ⟨by (with_reducible repeat (first | refine blk_drewN ?_ _ | refine blk_drew ?_ | refine blk_alloc ?_ _)); exact BK137.out⟩, ⟨by repeat (first | (with_reducible first | exact HB.out | apply below_alloc | apply pw_below_drewN | apply below_drew1 | refine below_set ?_ GE122.out | refine below_set ?_ GE137.out) | exact HB.out)⟩⟩
            case rest =>
              clear HC13
              try clear c1
              try clear p1
              try clear q1
              try clear hx1
              try clear c2
              try clear p2
              try clear c9
              try clear c10
              try clear c10b0
              try clear c11
              try clear c11b0
              try clear c12
              try clear c12b0
              try clear c13
              try clear p13
              try clear q13
              try clear hx13
              try clear c15
              try clear c18
              try clear c19
              try clear c20
              try clear c22
              try clear hcz16_0
              try clear hcz16_1
              try clear hcz16_2
              try clear hcz16_3
              try clear hcz16_4
              try clear hcz16_5
              try clear hcz16_6
              try clear hcz20_0
              try clear hcz20_1
              try clear hcz20_2
              try clear hcz20_3
              try clear hcz20_4
              try clear hcz20_5
              try clear hcz20_6
              try clear hcz23_0
              try clear hcz23_1
              try clear hcz23_2
              try clear hcz23_3
              try clear hcz23_4
              try clear hcz23_5
              try clear hcz23_6
              try clear hcz6_0
              try clear hcz6_1
              try clear hcz9_0
              try clear hcz9_1
              try clear hfz16_0
              try clear hfz16_1
              try clear hfz16_2
              try clear hfz16_3
              try clear hfz16_4
              try clear hfz16_5
              try clear hfz16_6
              try clear hfz20_0
              try clear hfz20_1
              try clear hfz20_2
              try clear hfz20_3
              try clear hfz20_4
              try clear hfz20_5
              try clear hfz20_6
              try clear hfz23_0
              try clear hfz23_1
              try clear hfz23_2
              try clear hfz23_3
              try clear hfz23_4
              try clear hfz23_5
              try clear hfz23_6
              try clear hfz6_0
              try clear hfz6_1
              try clear hfz9_0
              try clear hfz9_1
              try clear hx136_0
              try clear hx136_1
              try clear hx136_2
              try clear hx136_3
              try clear hx136_4
              try clear hx136_5
              try clear hx136_6
              try clear p136
              try clear p2
              try clear q136
              obtain ⟨kq, x26_12, rfl, HA, HJ12, HO_3, BK122, BK137, HB⟩ := hcut
              cases kq with
              | zero => exact absurd HA.out (by simp [message_Encode.j1])
              | succ kj12 =>
                have H := HA.out
                clear HA
                simp only [message_Encode.j1] at H
                by_cases c25 : x26_12 = true
                · subst c25
                  have H1 : ((message_body.f kj12 ((rd_T28 l0_1 x17_1).f0) ((rd_T28 l0_1 x17_1).f1) ((rd_T28 l0_1 x17_1).f2) ((rd_T28 l0_1 x17_1).f3.f0) ((rd_T28 l0_1 x17_1).f3.f1) ((rd_T28 l0_1 x17_1).f4) ((rd_T28 l0_1 x17_1).f5)).bind fun t139 => (if x3_1.length < 140737488355328 then ((coin_Put.f kj12 (x3_1 ++ [((rd_T28 l0_1 x17_1).f0)]) (IntKind.u64.wrap ((t139.length : Int)))).bind fun t145 => (if t145.length + t139.length < 140737488355328 then (message_Encode.l0 kj12 (t145 ++ t139) (wrap64 (x4_1 + 1)) l0_1 (l0_1.length : Int) (wrap64 (x17_1 + 1))) else (none))) else (none))) = some r := by rw [if_pos rfl] at H; exact H
                  clear H
                  have H := H1
                  clear H1
                  replace H := Option.bind_eq_some_iff.mp H
                  obtain ⟨t139, A260, H⟩ := H
                  replace H : (if x3_1.length < 140737488355328 then ((coin_Put.f kj12 (x3_1 ++ [((rd_T28 l0_1 x17_1).f0)]) (IntKind.u64.wrap ((t139.length : Int)))).bind fun t145 => (if t145.length + t139.length < 140737488355328 then (message_Encode.l0 kj12 (t145 ++ t139) (wrap64 (x4_1 + 1)) l0_1 (l0_1.length : Int) (wrap64 (x17_1 + 1))) else (none))) else (none)) = some r := H
                  have A26 := Aside0.mk A260
                  clear A260
                  by_cases c27 : x3_1.length < 140737488355328
                  · rw [if_pos c27] at H
                    have LMc27 := Aside0.mk c27
                    clear c27
                    obtain ⟨y142, hy142⟩ : ∃ y_ : List Int, y_ = (x3_1 ++ [((rd_T28 l0_1 x17_1).f0)]) := ⟨_, rfl⟩
                    replace H : ((coin_Put.f kj12 y142 (IntKind.u64.wrap ((t139.length : Int)))).bind fun t145 => (if t145.length + t139.length < 140737488355328 then (message_Encode.l0 kj12 (t145 ++ t139) (wrap64 (x4_1 + 1)) l0_1 (l0_1.length : Int) (wrap64 (x17_1 + 1))) else (none))) = some r := by first | (rw [hy142]; with_reducible exact H) | (have H2_ := (Option.bind_some _ _).symm.trans H; rw [hy142]; with_reducible exact H2_) | (have H2_ := (Option.bind_some _ _).symm.trans H; with_reducible exact H2_) | with_reducible exact H | (rw [hy142]; exact H) | exact H
                    have Ny142 := Aside0.mk hy142
                    clear hy142
                    replace H := Option.bind_eq_some_iff.mp H
                    obtain ⟨t145, A280, H⟩ := H
                    replace H : (if t145.length + t139.length < 140737488355328 then (message_Encode.l0 kj12 (t145 ++ t139) (wrap64 (x4_1 + 1)) l0_1 (l0_1.length : Int) (wrap64 (x17_1 + 1))) else (none)) = some r := H
                    have A28 := Aside0.mk A280
                    clear A280
                    by_cases c29 : t145.length + t139.length < 140737488355328
                    · rw [if_pos c29] at H
                      have LMc29 := Aside0.mk c29
                      clear c29
                      obtain ⟨y148, hy148⟩ : ∃ y_ : List Int, y_ = (t145 ++ t139) := ⟨_, rfl⟩
                      replace H : (message_Encode.l0 kj12 y148 (wrap64 (x4_1 + 1)) l0_1 (l0_1.length : Int) (wrap64 (x17_1 + 1))) = some r := by first | (rw [hy148]; with_reducible exact H) | (have H2_ := (Option.bind_some _ _).symm.trans H; rw [hy148]; with_reducible exact H2_) | (have H2_ := (Option.bind_some _ _).symm.trans H; with_reducible exact H2_) | with_reducible exact H | (rw [hy148]; exact H) | exact H
                      have Ny148 := Aside0.mk hy148
                      clear hy148
                      have H' := Aside0.mk H
                      clear H
                      have hnb30 := NB137_122.out
                      have hnc30 := NB122_137.out
                      have hcz31_0 : wc.cell? ⟨gb137, 0, none⟩ = some (.int .u8 ((rd_T28 l0_1 x17_1).f0)) := (blk_cell BK137.out 0).trans rfl
                      have hcz31_1 : wc.cell? ⟨gb137, 1, none⟩ = some (.int .u64 ((rd_T28 l0_1 x17_1).f1)) := (blk_cell BK137.out 1).trans rfl
                      have hcz31_2 : wc.cell? ⟨gb137, 2, none⟩ = some (.int .i64 ((rd_T28 l0_1 x17_1).f2)) := (blk_cell BK137.out 2).trans rfl
                      have hcz31_3 : wc.cell? ⟨gb137, 3, none⟩ = some (.int .u32 ((rd_T28 l0_1 x17_1).f3.f0)) := (blk_cell BK137.out 3).trans rfl
                      have hcz31_4 : wc.cell? ⟨gb137, 4, none⟩ = some (.int .u8 ((rd_T28 l0_1 x17_1).f3.f1)) := (blk_cell BK137.out 4).trans rfl
                      have hcz31_5 : wc.cell? ⟨gb137, 5, none⟩ = some (.int .u16 ((rd_T28 l0_1 x17_1).f4)) := (blk_cell BK137.out 5).trans rfl
                      have hcz31_6 : wc.cell? ⟨gb137, 6, none⟩ = some (.int .u16 ((rd_T28 l0_1 x17_1).f5)) := (blk_cell BK137.out 6).trans rfl
                      have hfz31_0 := blk_frozen BK137.out 0
                      have hfz31_1 := blk_frozen BK137.out 1
                      have hfz31_2 := blk_frozen BK137.out 2
                      have hfz31_3 := blk_frozen BK137.out 3
                      have hfz31_4 := blk_frozen BK137.out 4
                      have hfz31_5 := blk_frozen BK137.out 5
                      have hfz31_6 := blk_frozen BK137.out 6
                      go_wp2_with (first | ((with_reducible refine gate_callee (f := 21) rfl ?_); refine goesL_ (some 28) rfl rfl Try.func21 (by kernel_rfl) rfl #[.agg #[.int .u8 ((rd_T28 l0_1 x17_1).f0), .int .u64 ((rd_T28 l0_1 x17_1).f1), .int .i64 ((rd_T28 l0_1 x17_1).f2), .int .u32 ((rd_T28 l0_1 x17_1).f3.f0), .int .u8 ((rd_T28 l0_1 x17_1).f3.f1), .int .u16 ((rd_T28 l0_1 x17_1).f4), .int .u16 ((rd_T28 l0_1 x17_1).f5)]] rfl (by (try simp only [List.map_toArray, List.map_cons, List.map_nil]); first | done | rfl | (simp only [List.length_drop, List.length_take]; rfl) | (simp; done) | (refine qa_arr ?_; (repeat' (first | rfl | refine qa_cons ?_ ?_ | refine qa_int ?_ | refine qa_agg ?_ | refine qa_arr ?_ | omega)); done)) ?_; (with_reducible refine (message_body.calls kj12 ((rd_T28 l0_1 x17_1).f0) ((rd_T28 l0_1 x17_1).f1) ((rd_T28 l0_1 x17_1).f2) ((rd_T28 l0_1 x17_1).f3.f0) ((rd_T28 l0_1 x17_1).f3.f1) ((rd_T28 l0_1 x17_1).f4) ((rd_T28 l0_1 x17_1).f5) t139 _ A26.out).mono ?_); rintro e w32 ⟨v140, rfl, ho0, hb⟩; refine ⟨_, rfl, ?_⟩; have n0_ := Aside0.mk (Kd.R_elder' (by (with_reducible repeat (first | apply Kd.R_alloc | apply Kd.R_drewN | apply Kd.R_drew)); exact HO_3.out) (Kd.R_base ho0) hb); have n1_ := Aside0.mk (Kd.R_lower (Kd.R_new' ho0 (Kd.R_lt (by (with_reducible repeat (first | apply Kd.R_alloc | apply Kd.R_drewN | apply Kd.R_drew)); exact HO_3.out))) (below_size (by repeat (first | (with_reducible first | exact HB.out | apply below_alloc | apply pw_below_drewN | apply below_drew1 | refine below_set ?_ GE122.out | refine below_set ?_ GE137.out) | exact HB.out)))); have n2_ := Aside0.mk (blk_below (g := gb122) (o := .cells #[.int .i64 a0_0, .slice (some ad136) l0_1.length c0_1] 34 (0, 0)) (by (with_reducible repeat (first | refine blk_drewN ?_ _ | refine blk_drew ?_ | refine blk_alloc ?_ _)); exact BK122.out) hb); have n3_ := Aside0.mk (blk_below (g := gb137) (o := .cells #[.int .u8 ((rd_T28 l0_1 x17_1).f0), .int .u64 ((rd_T28 l0_1 x17_1).f1), .int .i64 ((rd_T28 l0_1 x17_1).f2), .int .u32 ((rd_T28 l0_1 x17_1).f3.f0), .int .u8 ((rd_T28 l0_1 x17_1).f3.f1), .int .u16 ((rd_T28 l0_1 x17_1).f4), .int .u16 ((rd_T28 l0_1 x17_1).f5)] 28 (0, 0)) (by (with_reducible repeat (first | refine blk_drewN ?_ _ | refine blk_drew ?_ | refine blk_alloc ?_ _)); exact BK137.out) hb); have n4_ := Aside0.mk (below_step (by repeat (first | (with_reducible first | exact HB.out | apply below_alloc | apply pw_below_drewN | apply below_drew1 | refine below_set ?_ GE122.out | refine below_set ?_ GE137.out) | exact HB.out)) hb); clear HO_3; clear BK122; clear BK137; clear HB; have HO_3 := n0_; have HO141 := n1_; have BK122 := n2_; have BK137 := n3_; have HB := n4_; clear n0_ n1_ n2_ n3_ n4_; (try clear hb); (try clear hb2); (try clear hk); (try clear hi); (try clear ho0); have hcz33_0 : w32.cell? ⟨gb137, 0, none⟩ = some (.int .u8 ((rd_T28 l0_1 x17_1).f0)) := (blk_cell BK137.out 0).trans rfl; have hcz33_1 : w32.cell? ⟨gb137, 1, none⟩ = some (.int .u64 ((rd_T28 l0_1 x17_1).f1)) := (blk_cell BK137.out 1).trans rfl; have hcz33_2 : w32.cell? ⟨gb137, 2, none⟩ = some (.int .i64 ((rd_T28 l0_1 x17_1).f2)) := (blk_cell BK137.out 2).trans rfl; have hcz33_3 : w32.cell? ⟨gb137, 3, none⟩ = some (.int .u32 ((rd_T28 l0_1 x17_1).f3.f0)) := (blk_cell BK137.out 3).trans rfl; have hcz33_4 : w32.cell? ⟨gb137, 4, none⟩ = some (.int .u8 ((rd_T28 l0_1 x17_1).f3.f1)) := (blk_cell BK137.out 4).trans rfl; have hcz33_5 : w32.cell? ⟨gb137, 5, none⟩ = some (.int .u16 ((rd_T28 l0_1 x17_1).f4)) := (blk_cell BK137.out 5).trans rfl; have hcz33_6 : w32.cell? ⟨gb137, 6, none⟩ = some (.int .u16 ((rd_T28 l0_1 x17_1).f5)) := (blk_cell BK137.out 6).trans rfl; have hfz33_0 := blk_frozen BK137.out 0; have hfz33_1 := blk_frozen BK137.out 1; have hfz33_2 := blk_frozen BK137.out 2; have hfz33_3 := blk_frozen BK137.out 3; have hfz33_4 := blk_frozen BK137.out 4; have hfz33_5 := blk_frozen BK137.out 5; have hfz33_6 := blk_frozen BK137.out 6) | ((with_reducible refine gate_builtin (b := .append) (xs := #[.tmp 29, .tmp 32]) rfl ?_); at_builtin; refine Kd.R_append (Kd.int .u8) (w0 := w) w.heap.size rfl (.tmp 29) (.tmp 32) 30 5 (.int .u8 0) 1 rfl Try.underlying30 info5 rfl (by decide) (by omega) u3 x3_1 ((rd_T28 l0_1 x17_1).f0) [.int .u8 ((rd_T28 l0_1 x17_1).f0)] (fun k_ => some k_ ≠ (v140 : Value).ownBlock) (fun _ => False) rfl rfl ?aP (fun _ hk => hk.elim) ?aF ?aO ?aB ?aS ?aL ?_; (case aP => exact rfl); (case aB => exact (by repeat (first | (with_reducible first | exact HB.out | apply below_alloc | apply pw_below_drewN | apply below_drew1 | refine below_set ?_ GE122.out | refine below_set ?_ GE137.out) | exact HB.out))); (case aF => exact (fun k_ hk => Kd.fresh' (Kd.R_lt (by (with_reducible repeat (first | apply Kd.R_alloc | apply Kd.R_drewN | apply Kd.R_drew)); exact HO141.out)) k_ hk)); (case aO => exact (by (with_reducible repeat (first | apply Kd.R_alloc | apply Kd.R_drewN | apply Kd.R_drew)); exact Kd.R_mono HO_3.out (fun _ hk => hk.2))); (case aS => exact (below_size (by repeat (first | (with_reducible first | exact HB.out | apply below_alloc | apply pw_below_drewN | apply below_drew1 | refine below_set ?_ GE122.out | refine below_set ?_ GE137.out) | exact HB.out)))); (case aL => have := LMc27.out; omega); intro v143 w34 ho hb hg hat; rw [← Ny142.out] at ho; have n0_ := Aside0.mk (blk_grown (g := gb122) (o := .cells #[.int .i64 a0_0, .slice (some ad136) l0_1.length c0_1] 34 (0, 0)) (by (with_reducible repeat (first | refine blk_drewN ?_ _ | refine blk_drew ?_ | refine blk_alloc ?_ _)); exact BK122.out) hg (Kd.R_ne HO_3.out BK122.out (by decide))); have n1_ := Aside0.mk (blk_grown (g := gb137) (o := .cells #[.int .u8 ((rd_T28 l0_1 x17_1).f0), .int .u64 ((rd_T28 l0_1 x17_1).f1), .int .i64 ((rd_T28 l0_1 x17_1).f2), .int .u32 ((rd_T28 l0_1 x17_1).f3.f0), .int .u8 ((rd_T28 l0_1 x17_1).f3.f1), .int .u16 ((rd_T28 l0_1 x17_1).f4), .int .u16 ((rd_T28 l0_1 x17_1).f5)] 28 (0, 0)) (by (with_reducible repeat (first | refine blk_drewN ?_ _ | refine blk_drew ?_ | refine blk_alloc ?_ _)); exact BK137.out) hg (Kd.R_ne HO_3.out BK137.out (by decide))); have n2_ := Aside0.mk (Kd.R_after (ok := (fun _ => True)) (by (with_reducible repeat (first | apply Kd.R_alloc | apply Kd.R_drewN | apply Kd.R_drew)); exact HO141.out) hg hat); have n3_ := Aside0.mk (hb); have n4_ := Aside0.mk (ho); clear BK122; clear BK137; clear HO141; clear HB; clear HO_3; have BK122 := n0_; have BK137 := n1_; have HO141 := n2_; have HB := n3_; have HO144 := n4_; clear n0_ n1_ n2_ n3_ n4_; clear ho hb hg hat; obtain ⟨Ao35, co35, eo35⟩ := Kd.R_slice HO141.out; subst eo35; obtain ⟨Ao36, co36, eo36⟩ := Kd.R_slice HO144.out; subst eo36) | ((with_reducible refine gate_callee (f := 20) rfl ?_); refine goesL_ (some 37) rfl rfl Try.func20 (by kernel_rfl) rfl #[.slice Ao36 y142.length co36, .int .u64 (IntKind.u64.wrap ((t139.length : Int)))] rfl (by (try simp only [List.map_toArray, List.map_cons, List.map_nil]); first | done | rfl | (simp only [List.length_drop, List.length_take]; rfl) | (simp; done) | (refine qa_arr ?_; (repeat' (first | rfl | refine qa_cons ?_ ?_ | refine qa_int ?_ | refine qa_agg ?_ | refine qa_arr ?_ | omega)); done)) ?_; (with_reducible refine (coin_Put.calls kj12 (fun k_ => some k_ = (.slice Ao36 y142.length co36 : Value).ownBlock) (.slice Ao36 y142.length co36) y142 (IntKind.u64.wrap ((t139.length : Int))) t145 w _ ?side1 ?side2 A28.out).mono ?_); (case side1 => repeat (first | (with_reducible first | exact HB.out | apply below_alloc | apply pw_below_drewN | apply below_drew1 | refine below_set ?_ GE122.out | refine below_set ?_ GE137.out) | exact HB.out)); (case side2 => exact Kd.R_tight rfl HO144.out); rintro e w37 ⟨v146, rfl, ho0, hb, hkp⟩; refine ⟨_, rfl, ?_⟩; have n0_ := Aside0.mk (blk_kept (o := .cells #[.int .i64 a0_0, .slice (some ad136) l0_1.length c0_1] 34 (0, 0)) (by (with_reducible repeat (first | refine blk_drewN ?_ _ | refine blk_drew ?_ | refine blk_alloc ?_ _)); exact BK122.out) hkp (fun hs_ => (fun e_ => (Kd.R_ne HO144.out BK122.out (by decide)) e_) hs_)); have n1_ := Aside0.mk (blk_kept (o := .cells #[.int .u8 ((rd_T28 l0_1 x17_1).f0), .int .u64 ((rd_T28 l0_1 x17_1).f1), .int .i64 ((rd_T28 l0_1 x17_1).f2), .int .u32 ((rd_T28 l0_1 x17_1).f3.f0), .int .u8 ((rd_T28 l0_1 x17_1).f3.f1), .int .u16 ((rd_T28 l0_1 x17_1).f4), .int .u16 ((rd_T28 l0_1 x17_1).f5)] 28 (0, 0)) (by (with_reducible repeat (first | refine blk_drewN ?_ _ | refine blk_drew ?_ | refine blk_alloc ?_ _)); exact BK137.out) hkp (fun hs_ => (fun e_ => (Kd.R_ne HO144.out BK137.out (by decide)) e_) hs_)); have n2_ := Aside0.mk (Kd.R_mono (ok' := fun k_ => some k_ ≠ (v146 : Value).ownBlock) (Kd.R_keptB (HO141.out) hkp (fun k_ hk_ hs_ => (hk_.2) hs_)) (fun k_ hk_ => fun e_ => Or.elim (ho0.1 k_ e_.symm) (fun hs_ => hk_.2.1 hs_) (fun hn_ => Nat.not_le.2 hk_.2.2 hn_))); have n3_ := Aside0.mk (Kd.R_mono (ok' := fun k_ => some k_ ≠ (.slice Ao35 t139.length co35 : Value).ownBlock) ho0 (fun k_ hk_ => Or.elim hk_ (fun hs_ => fun e_ => (((HO141.out).1 k_ e_.symm).2) hs_) (fun hn_ => (Kd.fresh' (Kd.R_lt (by (with_reducible repeat (first | apply Kd.R_alloc | apply Kd.R_drewN | apply Kd.R_drew)); exact HO141.out)) k_ hn_)))); have n4_ := Aside0.mk (hb); clear BK122; clear BK137; clear HO141; clear HB; clear HO144; have BK122 := n0_; have BK137 := n1_; have HO141 := n2_; have HO147 := n3_; have HB := n4_; clear n0_ n1_ n2_ n3_ n4_; (try clear hb); (try clear hkp); (try clear ho0)) | ((with_reducible refine gate_builtin (b := .append) (xs := #[.tmp 37, .tmp 38]) rfl ?_); at_builtin; refine Kd.R_append_rows (Kd.int .u8) (w0 := w) w.heap.size rfl (.tmp 37) (.tmp 38) 30 5 (.int .u8 0) 1 rfl Try.underlying30 info5 rfl (by decide) (by omega) v146 t145 t139 _ _ _ (fun k_ => some k_ ≠ (.slice Ao35 t139.length co35 : Value).ownBlock) (fun _ => False) rfl rfl ?aO ?aR (fun _ _ h => h) (fun _ h => h.elim) ?aF ?aB ?aS ?aL ?_; (case aR => repeat (first | exact (Kd.R_reads' HO141.out).2.2 | (with_reducible refine Kd.C_alloc ?_ _) | (with_reducible refine Kd.C_drewN ?_ _) | (with_reducible refine Kd.C_drew ?_))); (case aB => exact (by repeat (first | (with_reducible first | exact HB.out | apply below_alloc | apply pw_below_drewN | apply below_drew1 | refine below_set ?_ GE122.out | refine below_set ?_ GE137.out) | exact HB.out))); (case aF => exact (fun k_ hk => Kd.fresh' (Kd.R_lt (by (with_reducible repeat (first | apply Kd.R_alloc | apply Kd.R_drewN | apply Kd.R_drew)); exact HO141.out)) k_ hk)); (case aO => exact (by (with_reducible repeat (first | apply Kd.R_alloc | apply Kd.R_drewN | apply Kd.R_drew)); exact HO147.out)); (case aS => exact (below_size (by repeat (first | (with_reducible first | exact HB.out | apply below_alloc | apply pw_below_drewN | apply below_drew1 | refine below_set ?_ GE122.out | refine below_set ?_ GE137.out) | exact HB.out)))); (case aL => have := LMc29.out; omega); intro v149 w38 ho hb hg hat; rw [← Ny148.out] at ho; have n0_ := Aside0.mk (blk_grown (g := gb122) (o := .cells #[.int .i64 a0_0, .slice (some ad136) l0_1.length c0_1] 34 (0, 0)) (by (with_reducible repeat (first | refine blk_drewN ?_ _ | refine blk_drew ?_ | refine blk_alloc ?_ _)); exact BK122.out) hg (Kd.R_ne HO147.out BK122.out (by decide))); have n1_ := Aside0.mk (blk_grown (g := gb137) (o := .cells #[.int .u8 ((rd_T28 l0_1 x17_1).f0), .int .u64 ((rd_T28 l0_1 x17_1).f1), .int .i64 ((rd_T28 l0_1 x17_1).f2), .int .u32 ((rd_T28 l0_1 x17_1).f3.f0), .int .u8 ((rd_T28 l0_1 x17_1).f3.f1), .int .u16 ((rd_T28 l0_1 x17_1).f4), .int .u16 ((rd_T28 l0_1 x17_1).f5)] 28 (0, 0)) (by (with_reducible repeat (first | refine blk_drewN ?_ _ | refine blk_drew ?_ | refine blk_alloc ?_ _)); exact BK137.out) hg (Kd.R_ne HO147.out BK137.out (by decide))); have n2_ := Aside0.mk (Kd.R_after (ok := (fun _ => True)) (by (with_reducible repeat (first | apply Kd.R_alloc | apply Kd.R_drewN | apply Kd.R_drew)); exact Kd.R_mono HO141.out (fun _ hk => ⟨trivial, hk⟩)) hg hat); have n3_ := Aside0.mk (hb); have n4_ := Aside0.mk (ho); clear BK122; clear BK137; clear HO141; clear HB; clear HO147; have BK122 := n0_; have BK137 := n1_; have HO141 := n2_; have HB := n3_; have HO150 := n4_; clear n0_ n1_ n2_ n3_ n4_; clear ho hb hg hat))
                      go_roundg kj12
                      case measure => have := HK1.out; have := HJ12.out; omega
                      case rel => exact ⟨(y148), (wrap64 (x4_1 + 1)), (wrap64 (x17_1 + 1)), (by first | rfl | (simp; done) | (simp [*]; done) | (refine qa_int ?_; omega) | (refine qa_int ?_; simp <;> omega)), (by first | rfl | (simp; done) | (simp [*]; done) | (refine qa_int ?_; omega) | (refine qa_int ?_; simp <;> omega)), H', ⟨by have := HK1.out; have := HJ12.out; omega⟩, ⟨by (with_reducible repeat (first | apply Kd.R_alloc | apply Kd.R_drewN | apply Kd.R_drew)); exact Kd.R_mono HO150.out (fun _ hk => trivial)⟩, ⟨by (with_reducible repeat (first | refine blk_drewN ?_ _ | refine blk_drew ?_ | refine blk_alloc ?_ _)); exact BK122.out⟩, ⟨by repeat (first | (with_reducible first | exact HB.out | apply below_alloc | apply pw_below_drewN | apply below_drew1 | refine below_set ?_ GE122.out | refine below_set ?_ GE137.out) | exact HB.out)⟩⟩
                    · rw [if_neg c29] at H
                      exact absurd H (by simp)
                  · rw [if_neg c27] at H
                    exact absurd H (by simp)
                · replace c25 := Bool.eq_false_iff.mpr c25
                  subst c25
                  have H1 : (message_Encode.l0 kj12 x3_1 x4_1 l0_1 (l0_1.length : Int) (wrap64 (x17_1 + 1))) = some r := by rw [if_neg (show ¬ (false = true) by decide)] at H; exact H
                  clear H
                  have H := H1
                  clear H1
                  have H' := Aside0.mk H
                  clear H
                  go_wp2
                  go_roundg kj12
                  case measure => have := HK1.out; have := HJ12.out; omega
                  case rel => exact ⟨(x3_1), (x4_1), (wrap64 (x17_1 + 1)), (by first | rfl | (simp; done) | (simp [*]; done) | (refine qa_int ?_; omega) | (refine qa_int ?_; simp <;> omega)), (by first | rfl | (simp; done) | (simp [*]; done) | (refine qa_int ?_; omega) | (refine qa_int ?_; simp <;> omega)), H', ⟨by have := HK1.out; have := HJ12.out; omega⟩, ⟨by (with_reducible repeat (first | apply Kd.R_alloc | apply Kd.R_drewN | apply Kd.R_drew)); exact HO_3.out⟩, ⟨by (with_reducible repeat (first | refine blk_drewN ?_ _ | refine blk_drew ?_ | refine blk_alloc ?_ _)); exact BK122.out⟩, ⟨by repeat (first | (with_reducible first | exact HB.out | apply below_alloc | apply pw_below_drewN | apply below_drew1 | refine below_set ?_ GE122.out | refine below_set ?_ GE137.out) | exact HB.out)⟩⟩
          · rw [if_neg c12] at H
            exact absurd H (by simp)
        · rw [if_neg c11] at H
          exact absurd H (by simp)
      · rw [if_neg c10] at H
        have c10b0 : decide (x17_1 < (l0_1.length : Int)) = false := decide_eq_false c10
        clear c10
        replace H := Option.bind_eq_some_iff.mp H
        obtain ⟨t129, A390, H⟩ := H
        replace H : ((some (([(t129) % 256, (t129 / 256) % 256, (t129 / 65536) % 256, (t129 / 16777216) % 256] : List Int) : List Int)).bind fun y130 => (if x3_1.length + y130.length < 140737488355328 then (some (x3_1 ++ y130)) else (none))) = some r := H
        have A39 := Aside0.mk A390
        clear A390
        obtain ⟨y130, hy130⟩ : ∃ y_ : List Int, y_ = (([(t129) % 256, (t129 / 256) % 256, (t129 / 65536) % 256, (t129 / 16777216) % 256] : List Int)) := ⟨_, rfl⟩
        replace H : (if x3_1.length + y130.length < 140737488355328 then (some (x3_1 ++ y130)) else (none)) = some r := by first | (rw [hy130]; with_reducible exact H) | (have H2_ := (Option.bind_some _ _).symm.trans H; rw [hy130]; with_reducible exact H2_) | (have H2_ := (Option.bind_some _ _).symm.trans H; with_reducible exact H2_) | with_reducible exact H | (rw [hy130]; exact H) | exact H
        have Ny130 := Aside0.mk hy130
        clear hy130
        by_cases c40 : x3_1.length + y130.length < 140737488355328
        · rw [if_pos c40] at H
          have LMc40 := Aside0.mk c40
          clear c40
          obtain ⟨y133, hy133⟩ : ∃ y_ : List Int, y_ = (x3_1 ++ y130) := ⟨_, rfl⟩
          replace H : (some y133) = some r := by first | (rw [hy133]; with_reducible exact H) | (have H2_ := (Option.bind_some _ _).symm.trans H; rw [hy133]; with_reducible exact H2_) | (have H2_ := (Option.bind_some _ _).symm.trans H; with_reducible exact H2_) | with_reducible exact H | (rw [hy133]; exact H) | exact H
          have Ny133 := Aside0.mk hy133
          clear hy133
          obtain rfl := Option.some.inj H
          simp only [Option.some.injEq, Prod.mk.injEq] at H
          obtain ⟨rfl⟩ := H
          obtain ⟨Ao41, co41, eo41⟩ := Kd.R_slice HO_3.out
          subst eo41
          go_wp2_with (first | ((with_reducible refine gate_callee (f := 22) rfl ?_); refine goesL_ (some 44) rfl rfl Try.func22 (by kernel_rfl) rfl #[.slice Ao41 x3_1.length co41] rfl (by (try simp only [List.map_toArray, List.map_cons, List.map_nil]); first | done | rfl | (simp only [List.length_drop, List.length_take]; rfl) | (simp; done) | (refine qa_arr ?_; (repeat' (first | rfl | refine qa_cons ?_ ?_ | refine qa_int ?_ | refine qa_agg ?_ | refine qa_arr ?_ | omega)); done)) ?_; (with_reducible refine (tally_Sum.calls k1 _ _ x3_1 t129 _ ?side1 ?side2 A39.out).mono ?_); (case side1 => repeat (first | exact (Kd.R_reads' HO_3.out).2.2 | (with_reducible refine Kd.C_alloc ?_ _) | (with_reducible refine Kd.C_drewN ?_ _) | (with_reducible refine Kd.C_drew ?_))); (case side2 => exact (Kd.R_reads' HO_3.out).2.1); rintro e w' ⟨rfl, ⟨nd, rfl⟩⟩; refine ⟨_, rfl, ?_⟩) | ((with_reducible refine gate_dst (N := 57) rfl ?_); refine Kd.R_lit (Kd.int .u8) _ 5 ?hg (N := 57) ?hd (xs := ([(t129) % 256, (t129 / 256) % 256, (t129 / 65536) % 256, (t129 / 16777216) % 256] : List Int)) (inner := [.int .u8 ((t129) % 256), .int .u8 ((t129 / 256) % 256), .int .u8 ((t129 / 65536) % 256), .int .u8 ((t129 / 16777216) % 256)]) (ok := fun _ => True) (okp := fun _ => True) ?hr ?hp (fun _ hk => hk) trivial (Below.refl _ _) (Nat.le_refl _) (by simp) ?_; (case hd => rfl); (case hg => rfl); (case hr => first | (go_simp; done) | (go_simp; rfl)); (case hp => exact (Reps.one (show Kd.M (Kd.int .u8) _ _ _ ((t129) % 256) [.int .u8 ((t129) % 256)] from rfl) (Reps.one (show Kd.M (Kd.int .u8) _ _ _ ((t129 / 256) % 256) [.int .u8 ((t129 / 256) % 256)] from rfl) (Reps.one (show Kd.M (Kd.int .u8) _ _ _ ((t129 / 65536) % 256) [.int .u8 ((t129 / 65536) % 256)] from rfl) (Reps.one (show Kd.M (Kd.int .u8) _ _ _ ((t129 / 16777216) % 256) [.int .u8 ((t129 / 16777216) % 256)] from rfl) (Reps.none _ _)))))); intro v131 w42 ho43 hb hg_ hnew_; clear hg_ hnew_; (first | rw [← Ny130.out] at ho43 | (simp only [Int.reduceToNat] at ho43; rw [← Ny130.out] at ho43)); have n0_ := Aside0.mk (Kd.R_elder' (by (with_reducible repeat (first | apply Kd.R_alloc | apply Kd.R_drewN | apply Kd.R_drew)); exact HO_3.out) (Kd.R_base ho43) hb); have n1_ := Aside0.mk (Kd.R_lower (Kd.R_new' ho43 (Kd.R_lt (by (with_reducible repeat (first | apply Kd.R_alloc | apply Kd.R_drewN | apply Kd.R_drew)); exact HO_3.out))) (below_size (by repeat (first | (with_reducible first | exact HB.out | apply below_alloc | apply pw_below_drewN | apply below_drew1 | refine below_set ?_ GE122.out) | exact HB.out)))); have n2_ := Aside0.mk (blk_below (g := gb122) (o := .cells #[.int .i64 a0_0, .slice A0_1 l0_1.length c0_1] 34 (0, 0)) (by (with_reducible repeat (first | refine blk_drewN ?_ _ | refine blk_drew ?_ | refine blk_alloc ?_ _)); exact BK122.out) hb); have n3_ := Aside0.mk (below_step (by repeat (first | (with_reducible first | exact HB.out | apply below_alloc | apply pw_below_drewN | apply below_drew1 | refine below_set ?_ GE122.out) | exact HB.out)) hb); clear HO_3; clear BK122; clear HB; have HO_3 := n0_; have HO132 := n1_; have BK122 := n2_; have HB := n3_; clear n0_ n1_ n2_ n3_; clear hb ho43; obtain ⟨Ao45, co45, eo45⟩ := Kd.R_slice HO132.out; subst eo45) | ((with_reducible refine gate_builtin (b := .append) (xs := #[.tmp 45, .tmp 57]) rfl ?_); at_builtin; refine Kd.R_append_rows (Kd.int .u8) (w0 := w) w.heap.size rfl (.tmp 45) (.tmp 57) 30 5 (.int .u8 0) 1 rfl Try.underlying30 info5 rfl (by decide) (by omega) (.slice Ao41 x3_1.length co41) x3_1 y130 _ _ _ (fun k_ => some k_ ≠ (.slice Ao45 y130.length co45 : Value).ownBlock) (fun _ => False) rfl rfl ?aO ?aR (fun _ _ h => h) (fun _ h => h.elim) ?aF ?aB ?aS ?aL ?_; (case aR => repeat (first | exact (Kd.R_reads' HO132.out).2.2 | (with_reducible refine Kd.C_alloc ?_ _) | (with_reducible refine Kd.C_drewN ?_ _) | (with_reducible refine Kd.C_drew ?_))); (case aB => exact (by repeat (first | (with_reducible first | exact HB.out | apply below_alloc | apply pw_below_drewN | apply below_drew1 | refine below_set ?_ GE122.out) | exact HB.out))); (case aF => exact (fun k_ hk => Kd.fresh' (Kd.R_lt (by (with_reducible repeat (first | apply Kd.R_alloc | apply Kd.R_drewN | apply Kd.R_drew)); exact HO132.out)) k_ hk)); (case aO => exact (by (with_reducible repeat (first | apply Kd.R_alloc | apply Kd.R_drewN | apply Kd.R_drew)); exact Kd.R_mono HO_3.out (fun _ hk => hk.2))); (case aS => exact (below_size (by repeat (first | (with_reducible first | exact HB.out | apply below_alloc | apply pw_below_drewN | apply below_drew1 | refine below_set ?_ GE122.out) | exact HB.out)))); (case aL => have := LMc40.out; omega); intro v134 w44 ho hb hg hat; rw [← Ny133.out] at ho; have n0_ := Aside0.mk (blk_grown (g := gb122) (o := .cells #[.int .i64 a0_0, .slice A0_1 l0_1.length c0_1] 34 (0, 0)) (by (with_reducible repeat (first | refine blk_drewN ?_ _ | refine blk_drew ?_ | refine blk_alloc ?_ _)); exact BK122.out) hg (Kd.R_ne HO_3.out BK122.out (by decide))); have n1_ := Aside0.mk (Kd.R_after (ok := (fun _ => True)) (by (with_reducible repeat (first | apply Kd.R_alloc | apply Kd.R_drewN | apply Kd.R_drew)); exact HO132.out) hg hat); have n2_ := Aside0.mk (hb); have n3_ := Aside0.mk (ho); clear BK122; clear HO132; clear HB; clear HO_3; have BK122 := n0_; have HO132 := n1_; have HB := n2_; have HO135 := n3_; clear n0_ n1_ n2_ n3_; clear ho hb hg hat) | ((with_reducible refine gate_callee (f := 22) rfl ?_); refine goesL_ _ rfl rfl Try.func22 (by kernel_rfl) rfl #[.slice Ao41 x3_1.length co41] rfl (by (try simp only [List.map_toArray, List.map_cons, List.map_nil]); first | done | rfl | (simp only [List.length_drop, List.length_take]; rfl) | (simp; done) | (refine qa_arr ?_; (repeat' (first | rfl | refine qa_cons ?_ ?_ | refine qa_int ?_ | refine qa_agg ?_ | refine qa_arr ?_ | omega)); done)) ?_; (with_reducible refine (tally_Sum.calls k1 _ _ x3_1 t129 _ ?side1b ?side2b A39.out).mono ?_); (case side1b => repeat (first | exact (Kd.R_reads' HO_3.out).2.2 | (with_reducible refine Kd.C_alloc ?_ _) | (with_reducible refine Kd.C_drewN ?_ _) | (with_reducible refine Kd.C_drew ?_))); (case side2b => exact (Kd.R_reads' HO_3.out).2.1); rintro e w' ⟨rfl, ⟨nd, rfl⟩⟩; refine ⟨_, rfl, ?_⟩) | (go_at_call 22; (with_reducible refine (tally_Sum.calls k1 _ _ x3_1 t129 _ ?side1c ?side2c A39.out).mono ?_); (case side1c => repeat (first | exact (Kd.R_reads' HO_3.out).2.2 | (with_reducible refine Kd.C_alloc ?_ _) | (with_reducible refine Kd.C_drewN ?_ _) | (with_reducible refine Kd.C_drew ?_))); (case side2c => exact (Kd.R_reads' HO_3.out).2.1); rintro e w' ⟨rfl, ⟨nd, rfl⟩⟩))
          go_ret
          exact ⟨_, by first | rfl | (simp [errW_none, errW_some] <;> rfl) | (simp [*, errW_none, errW_some] <;> rfl), by (with_reducible repeat (first | apply Kd.R_alloc | apply Kd.R_drewN | apply Kd.R_drew)); exact Kd.R_mono HO135.out (fun _ hk => trivial), by repeat (first | (with_reducible first | exact HB.out | apply below_alloc | apply pw_below_drewN | apply below_drew1 | refine below_set ?_ GE122.out) | exact HB.out)⟩
        · rw [if_neg c40] at H
          exact absurd H (by simp)

/-! ### milestoneref01_bits: function 27 -/
def milestoneref01_bits.l0 : Nat → Int → Int → Option (Int)
  | 0, _, _ => none
  | k + 1, x0, x3 => if x0 > 0 then (milestoneref01_bits.l0 k (IntKind.u64.wrap (Int.tdiv x0 2)) (wrap64 (x3 + 1))) else (some x3)
def milestoneref01_bits.f (k : Nat) (a0 : Int) : Option (Int) := milestoneref01_bits.l0 k a0 0
theorem milestoneref01_bits.mono_l : ∀ k, (∀ y0 y1, LeO (milestoneref01_bits.l0 k y0 y1) (milestoneref01_bits.l0 (k + 1) y0 y1))
  | 0 => fun _ _ r h => by simp [milestoneref01_bits.l0] at h
  | k + 1 => by
    have ih0 := milestoneref01_bits.mono_l k
    · intro y0 y1
      unfold milestoneref01_bits.l0
      repeat' first
      | (with_reducible exact ih0 _ _)
      | (with_reducible exact LeO.refl _)
      | (with_reducible exact LeO.none _)
      | (with_reducible refine LeO.ite ?_ ?_)
      | (with_reducible refine LeO.bind ?_ (fun _ => ?_))
      | exact ih0 _ _
      | exact LeO.none _
      | refine LeO.ite ?_ ?_
      | refine LeO.bind ?_ (fun _ => ?_)
theorem milestoneref01_bits.mono : ∀ a0 k, LeO (milestoneref01_bits.f k a0) (milestoneref01_bits.f (k + 1) a0) := by
  intro a0 k
  have ih0 := milestoneref01_bits.mono_l k
  unfold milestoneref01_bits.f
  repeat' first
      | (with_reducible exact ih0 _ _)
      | (with_reducible exact LeO.refl _)
      | (with_reducible exact LeO.none _)
      | (with_reducible refine LeO.ite ?_ ?_)
      | (with_reducible refine LeO.bind ?_ (fun _ => ?_))
      | exact ih0 _ _
      | exact LeO.none _
      | refine LeO.ite ?_ ?_
      | refine LeO.bind ?_ (fun _ => ?_)
set_option maxHeartbeats 8000000 in
set_option maxRecDepth 100000 in
theorem milestoneref01_bits.calls (k : Nat) (a0 : Int) (r : Int) (w : World) (h : milestoneref01_bits.f k a0 = some r) :
    Calls Try.prog 27 #[.int .u64 a0] w fun e w' => e = .returned (.int .i64 r) ∧ Drawn0 w w' := by
  have H : (milestoneref01_bits.l0 k a0 0) = some r := h
  clear h
  have H' := Aside0.mk H
  clear H
  go_enter Try.func27, Try.ntmps27
  go_wp2
  go_loopg [0, 3] k (fun kq v0 v3 w' => ∃ (x0_1 : Int) (x3_1 : Int), v0 = .int .u64 x0_1 ∧ v3 = .int .i64 x3_1 ∧ Aside0 (milestoneref01_bits.l0 kq x0_1 x3_1 = some r) ∧ Aside0 (kq ≤ k) ∧ Drawn0 w w')
  case atStart => exact ⟨(a0), (0), (by first | rfl | (simp; done) | (simp [*]; done) | (refine qa_int ?_; omega) | (refine qa_int ?_; simp <;> omega)), (by first | rfl | (simp; done) | (simp [*]; done) | (refine qa_int ?_; omega) | (refine qa_int ?_; simp <;> omega)), H', ⟨Nat.le_refl _⟩, by repeat (first | exact Drawn0.refl _ | apply Drawn0.step)⟩
  case round =>
    clear H'
    obtain ⟨x0_1, x3_1, rfl, rfl, HA, HK1, ⟨m1, rfl⟩⟩ := hrel
    cases gk with
    | zero => exact absurd HA.out (by simp [milestoneref01_bits.l0])
    | succ k1 =>
      have H := HA.out
      clear HA
      simp only [milestoneref01_bits.l0] at H
      by_cases c2 : x0_1 > 0
      · rw [if_pos c2] at H
        have c2b0 : decide (0 < x0_1) = true := decide_eq_true c2
        clear c2
        have H' := Aside0.mk H
        clear H
        go_wp2
        go_roundg k1
        case measure => have := HK1.out; omega
        case rel => exact ⟨(IntKind.u64.wrap (Int.tdiv x0_1 2)), (wrap64 (x3_1 + 1)), (by first | rfl | (simp; done) | (simp [*]; done) | (refine qa_int ?_; omega) | (refine qa_int ?_; simp <;> omega)), (by first | rfl | (simp; done) | (simp [*]; done) | (refine qa_int ?_; omega) | (refine qa_int ?_; simp <;> omega)), H', ⟨by have := HK1.out; omega⟩, by repeat (first | exact Drawn0.refl _ | apply Drawn0.step)⟩
      · rw [if_neg c2] at H
        have c2b0 : decide (0 < x0_1) = false := decide_eq_false c2
        clear c2
        obtain rfl := Option.some.inj H
        simp only [Option.some.injEq, Prod.mk.injEq] at H
        obtain ⟨rfl⟩ := H
        go_wp2
        go_ret
        exact ⟨by first | rfl | (simp; done) | (simp [*]; done) | (refine qa_int ?_; omega) | (refine qa_int ?_; simp <;> omega), by repeat (first | exact Drawn0.refl _ | apply Drawn0.step)⟩

end Go.Proofs.Ytnfdgpmdakciiaa.QMessageMost
