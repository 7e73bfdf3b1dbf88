-- Lines by a program of this session, for this claim.
import Derived.Test.YtkngncckidlniaaQSourcePlaysx0
import Derived.Test.YtkngncckidlniaaQSourcePlaysx2
import Derived.Test.YtkngncckidlniaaQSourcePlaysx5
import Derived.Test.YtkngncckidlniaaQSourcePlaysx6
import Derived.Test.YtkngncckidlniaaQSourcePlaysx7
namespace Go.Proofs.Ytkngncckidlniaa.QSourcePlays
open Go.RowKit Go.Proofs.YtkngncckidlniaaW.PrintWords Go.Proofs.YtkngncckidlniaaW.PrintLast Go.Proofs.YtkngncckidlniaaW.PrintMore
attribute [local go_sem] max2_int min2_int max_two min_two max_three min_three max_four min_four   -- for this text's walks alone
set_option linter.unusedVariables false
set_option linter.unusedSimpArgs false

/-! ### milestonelaw15_SourcePlays: function 5 -/
def milestonelaw15_SourcePlays.mC (M : Nat → Int × Int) : Array Value := #[.int .u16 (M 0).1, .int .u16 (M 0).2, .int .u16 (M 1).1, .int .u16 (M 1).2, .int .u16 (M 2).1, .int .u16 (M 2).2, .int .u16 (M 3).1, .int .u16 (M 3).2, .int .u16 (M 4).1, .int .u16 (M 4).2, .int .u16 (M 5).1, .int .u16 (M 5).2, .int .u16 (M 6).1, .int .u16 (M 6).2, .int .u16 (M 7).1, .int .u16 (M 7).2, .int .u16 (M 8).1, .int .u16 (M 8).2, .int .u16 (M 9).1, .int .u16 (M 9).2, .int .u16 (M 10).1, .int .u16 (M 10).2, .int .u16 (M 11).1, .int .u16 (M 11).2, .int .u16 (M 12).1, .int .u16 (M 12).2, .int .u16 (M 13).1, .int .u16 (M 13).2, .int .u16 (M 14).1, .int .u16 (M 14).2, .int .u16 (M 15).1, .int .u16 (M 15).2, .int .u16 (M 16).1, .int .u16 (M 16).2, .int .u16 (M 17).1, .int .u16 (M 17).2]
def milestonelaw15_SourcePlays.hC (H : Nat → Bool) : Array Value := #[.bool (H 0), .bool (H 1), .bool (H 2), .bool (H 3), .bool (H 4), .bool (H 5), .bool (H 6), .bool (H 7), .bool (H 8), .bool (H 9), .bool (H 10), .bool (H 11), .bool (H 12), .bool (H 13), .bool (H 14), .bool (H 15), .bool (H 16), .bool (H 17)]
def milestonelaw15_SourcePlays.up {α : Type} (f : Nat → α) (k : Nat) (x : α) : Nat → α := fun j => if j = k then x else f j
theorem milestonelaw15_SourcePlays.m0 (M : Nat → Int × Int) : ∀ k, k < 18 → (milestonelaw15_SourcePlays.mC M)[k * 2]? = some (.int .u16 (M k).1)
  | 0, _ => rfl
  | 1, _ => rfl
  | 2, _ => rfl
  | 3, _ => rfl
  | 4, _ => rfl
  | 5, _ => rfl
  | 6, _ => rfl
  | 7, _ => rfl
  | 8, _ => rfl
  | 9, _ => rfl
  | 10, _ => rfl
  | 11, _ => rfl
  | 12, _ => rfl
  | 13, _ => rfl
  | 14, _ => rfl
  | 15, _ => rfl
  | 16, _ => rfl
  | 17, _ => rfl
  | k + 18, h => absurd h (by omega)
theorem milestonelaw15_SourcePlays.m1 (M : Nat → Int × Int) : ∀ k, k < 18 → (milestonelaw15_SourcePlays.mC M)[k * 2 + 1]? = some (.int .u16 (M k).2)
  | 0, _ => rfl
  | 1, _ => rfl
  | 2, _ => rfl
  | 3, _ => rfl
  | 4, _ => rfl
  | 5, _ => rfl
  | 6, _ => rfl
  | 7, _ => rfl
  | 8, _ => rfl
  | 9, _ => rfl
  | 10, _ => rfl
  | 11, _ => rfl
  | 12, _ => rfl
  | 13, _ => rfl
  | 14, _ => rfl
  | 15, _ => rfl
  | 16, _ => rfl
  | 17, _ => rfl
  | k + 18, h => absurd h (by omega)
theorem milestonelaw15_SourcePlays.h0 (H : Nat → Bool) : ∀ k, k < 18 → (milestonelaw15_SourcePlays.hC H)[k]? = some (.bool (H k))
  | 0, _ => rfl
  | 1, _ => rfl
  | 2, _ => rfl
  | 3, _ => rfl
  | 4, _ => rfl
  | 5, _ => rfl
  | 6, _ => rfl
  | 7, _ => rfl
  | 8, _ => rfl
  | 9, _ => rfl
  | 10, _ => rfl
  | 11, _ => rfl
  | 12, _ => rfl
  | 13, _ => rfl
  | 14, _ => rfl
  | 15, _ => rfl
  | 16, _ => rfl
  | 17, _ => rfl
  | k + 18, h => absurd h (by omega)
theorem milestonelaw15_SourcePlays.mset (M : Nat → Int × Int) (a b : Int) : ∀ k, k < 18 → ((milestonelaw15_SourcePlays.mC M).setIfInBounds (k * 2) (.int .u16 a)).setIfInBounds (k * 2 + 1) (.int .u16 b) = milestonelaw15_SourcePlays.mC (milestonelaw15_SourcePlays.up M k (a, b))
  | 0, _ => rfl
  | 1, _ => rfl
  | 2, _ => rfl
  | 3, _ => rfl
  | 4, _ => rfl
  | 5, _ => rfl
  | 6, _ => rfl
  | 7, _ => rfl
  | 8, _ => rfl
  | 9, _ => rfl
  | 10, _ => rfl
  | 11, _ => rfl
  | 12, _ => rfl
  | 13, _ => rfl
  | 14, _ => rfl
  | 15, _ => rfl
  | 16, _ => rfl
  | 17, _ => rfl
  | k + 18, h => absurd h (by omega)
theorem milestonelaw15_SourcePlays.hset (H : Nat → Bool) (b : Bool) : ∀ k, k < 18 → (milestonelaw15_SourcePlays.hC H).setIfInBounds k (.bool b) = milestonelaw15_SourcePlays.hC (milestonelaw15_SourcePlays.up H k b)
  | 0, _ => rfl
  | 1, _ => rfl
  | 2, _ => rfl
  | 3, _ => rfl
  | 4, _ => rfl
  | 5, _ => rfl
  | 6, _ => rfl
  | 7, _ => rfl
  | 8, _ => rfl
  | 9, _ => rfl
  | 10, _ => rfl
  | 11, _ => rfl
  | 12, _ => rfl
  | 13, _ => rfl
  | 14, _ => rfl
  | 15, _ => rfl
  | 16, _ => rfl
  | 17, _ => rfl
  | k + 18, h => absurd h (by omega)
theorem milestonelaw15_SourcePlays.up_at {α : Type} (f : Nat → α) (k : Nat) (x : α) : milestonelaw15_SourcePlays.up f k x k = x := if_pos rfl
def milestonelaw15_SourcePlays.Step (Inv : List S71 → (Nat → Int × Int) → (Nat → Bool) → Nat → Prop) : Prop := ∀ (T : List S71) (M : Nat → Int × Int) (H : Nat → Bool) (n : Nat) (x : S25), ((Lit.int .u8 x.f0).wf = true ∧ ((Lit.int .u8 x.f1).wf = true ∧ (Lit.int .u16 x.f2).wf = true)) → n ≤ 100 → Inv T M H n → ∃ (kk k : Nat) (pa pn qa qn r e : Int) (T' : List S71), milestoneref07_Prefix.f kk x.f0 = some (pa, pn) ∧ milestoneref07_First.f kk pa pn = some (k : Int) ∧ k < 18 ∧ milestonelaw15_mark.f x.f0 x.f1 x.f2 = some (r, x.f2) ∧ milestoneref07_Prefix.f kk (k : Int) = some (qa, qn) ∧ source_Source_Lower.f T qa qn r x.f2 = some (e, T') ∧
  (x.f2 = 65535 → e = 1 ∧ Inv T' M H n) ∧ (x.f2 ≠ 65535 → e = 0 ∧ (H k = true → ∃ b0 b1, milestoneref01_Best.f (M k).1 (M k).2 r x.f2 = some (b0, b1) ∧ Inv T' (milestonelaw15_SourcePlays.up M k (b0, b1)) (milestonelaw15_SourcePlays.up H k true) n) ∧ (H k = false → ∃ b0 b1, milestoneref01_Best.f r x.f2 r x.f2 = some (b0, b1) ∧ Inv T' (milestonelaw15_SourcePlays.up (milestonelaw15_SourcePlays.up M k (r, x.f2)) k (b0, b1)) (milestonelaw15_SourcePlays.up H k true) (n + 1)))
def milestonelaw15_SourcePlays.Look (Inv : List S71 → (Nat → Int × Int) → (Nat → Bool) → Nat → Prop) : Prop := ∀ (T : List S71) (M : Nat → Int × Int) (H : Nat → Bool) (n : Nat) (k : Nat), k < 18 → Inv T M H n → ∃ (kk : Nat) (qa qn j : Int), milestoneref07_Prefix.f kk (k : Int) = some (qa, qn) ∧ milestoneref07_First.f kk qa qn = some j ∧ (j = (k : Int) → ∃ a b c : Int, source_Source_Mark.f T qa qn = some (a, b, H k, T) ∧ source_Source_Wants.f T qa qn = some (c, H k, T) ∧ (H k = true → a = (M k).1 ∧ b = (M k).2 ∧ c = IntKind.u16.wrap ((M k).1 + 1)))
def milestonelaw15_SourcePlays.Asks (Inv : List S71 → (Nat → Int × Int) → (Nat → Bool) → Nat → Prop) : Prop := ∀ (T : List S71) (M : Nat → Int × Int) (H : Nat → Bool) (n : Nat) (x : S25), ((Lit.int .u8 x.f0).wf = true ∧ ((Lit.int .u8 x.f1).wf = true ∧ (Lit.int .u16 x.f2).wf = true)) → Inv T M H n → ∃ (kk k : Nat) (pa pn qa qn r : Int) (b : Bool), milestoneref07_Prefix.f kk x.f0 = some (pa, pn) ∧ milestoneref07_First.f kk pa pn = some (k : Int) ∧ k < 18 ∧ milestonelaw15_mark.f x.f0 x.f1 x.f2 = some (r, x.f2) ∧ milestoneref07_Prefix.f kk (k : Int) = some (qa, qn) ∧ source_Source_Feasible.f T qa qn r x.f2 = some (b, T) ∧
  (x.f2 = 65535 → b = true) ∧ (x.f2 ≠ 65535 → H k = false → b = true) ∧ (x.f2 ≠ 65535 → H k = true → milestoneref01_Nearer.f r x.f2 (M k).1 (M k).2 = some b)
def milestonelaw15_SourcePlays.Pure : Prop := milestonelaw15_awake.f = some true ∧ ∃ Inv : List S71 → (Nat → Int × Int) → (Nat → Bool) → Nat → Prop, Inv [] (fun _ => (0, 0)) (fun _ => false) 0 ∧ milestonelaw15_SourcePlays.Step Inv ∧ milestonelaw15_SourcePlays.Look Inv ∧ milestonelaw15_SourcePlays.Asks Inv ∧ ∀ T M H n, Inv T M H n → T.length = n
set_option maxHeartbeats 4000000 in
set_option maxRecDepth 100000 in
theorem milestonelaw15_SourcePlays.walk (P : milestonelaw15_SourcePlays.Pure) (a0 : Option Addr) (cap0 : Nat) (l0 : List (S25)) (a1 : Option Addr) (cap1 : Nat) (l1 : List (S25)) (w : World) (hr0 : Kd.C k25 w a0 l0.length l0) (hc0 : l0.length ≤ cap0) (hm0 : l0.length ≤ maxLen) (hw0 : (∀ x ∈ l0, ((Lit.int .u8 x.f0).wf = true ∧ ((Lit.int .u8 x.f1).wf = true ∧ (Lit.int .u16 x.f2).wf = true)))) (hr1 : Kd.C k25 w a1 l1.length l1) (hc1 : l1.length ≤ cap1) (hm1 : l1.length ≤ maxLen) (hw1 : (∀ x ∈ l1, ((Lit.int .u8 x.f0).wf = true ∧ ((Lit.int .u8 x.f1).wf = true ∧ (Lit.int .u16 x.f2).wf = true)))) :
    Calls Try.prog 5 #[.slice a0 l0.length cap0, .slice a1 l1.length cap1] w fun e w' => e = .returned (.bool true) ∧ Below w.heap.size w w' := by
  have hu25 := Try.underlying25
  have hu31 := Try.underlying31
  have hu36 := Try.underlying36
  have hu54 := Try.underlying54
  have hu55 := Try.underlying55
  obtain ⟨pa, Inv, hI0, hI1, hI2, hI3, hI4⟩ := P
  have PAW := Aside0.mk pa
  have INV0 := Aside0.mk hI0
  have STEP := Aside0.mk hI1
  have LOOK := Aside0.mk hI2
  have ASKS := Aside0.mk hI3
  have LENG := Aside0.mk hI4
  have HR0 := Aside0.mk hr0
  have HW0 := Aside0.mk hw0
  have HR1 := Aside0.mk hr1
  have HW1 := Aside0.mk hw1
  clear pa hI0 hI1 hI2 hI3 hI4 hr0 hw0 hr1 hw1 hm0 hm1
  go_enter Try.func5, Try.ntmps5
  go_wp2_with (fail)
  refine (milestonelaw15_awake.calls true _ PAW.out).mono ?_
  rintro e w5 ⟨rfl, hb⟩
  have HB := Aside0.mk hb
  clear hb
  by_cases hlen : ¬ (l0.length ≤ 60 ∧ l1.length ≤ 30)
  · have hg : ∀ b0 b1 : Bool, b0 = decide (60 < (l0.length : Int)) → b1 = decide (30 < (l1.length : Int)) → (b0 || b1) = true := fun b0 b1 e0 e1 => by
      rw [e0, e1]
      by_cases h : l0.length ≤ 60
      · rw [Bool.or_eq_true]; right; exact decide_eq_true (by omega)
      · rw [Bool.or_eq_true]; left; exact decide_eq_true (by omega)
    by_cases h6 : l0.length ≤ 60
    · have q1 : decide ((l0.length : Int) > 60) = false := decide_eq_false (by omega)
      have q2 : decide (60 < (l0.length : Int)) = false := decide_eq_false (by omega)
      have q3 : decide ((l1.length : Int) > 30) = true := decide_eq_true (by omega)
      have q4 : decide (30 < (l1.length : Int)) = true := decide_eq_true (by omega)
      clear hg hlen
      go_wp2_with (fail)
      refine (milestonelaw15_awake.calls true _ PAW.out).mono ?_
      rintro e w6 ⟨rfl, hb⟩
      have HB6 := Aside0.mk (below_step HB.out hb)
      clear hb
      go_wp2_with (fail)
      go_ret
      exact ⟨rfl, HB6.out⟩
    · have q1 : decide ((l0.length : Int) > 60) = true := decide_eq_true (by omega)
      have q2 : decide (60 < (l0.length : Int)) = true := decide_eq_true (by omega)
      clear hg hlen
      go_wp2_with (fail)
      refine (milestonelaw15_awake.calls true _ PAW.out).mono ?_
      rintro e w6 ⟨rfl, hb⟩
      have HB6 := Aside0.mk (below_step HB.out hb)
      clear hb
      go_wp2_with (fail)
      go_ret
      exact ⟨rfl, HB6.out⟩
  have hlen' := Decidable.not_not.1 hlen
  have hl60 := hlen'.1
  have hl30 := hlen'.2
  have q1 : decide ((l0.length : Int) > 60) = false := decide_eq_false (by omega)
  have q2 : decide (60 < (l0.length : Int)) = false := decide_eq_false (by omega)
  have q3 : decide ((l1.length : Int) > 30) = false := decide_eq_false (by omega)
  have q4 : decide (30 < (l1.length : Int)) = false := decide_eq_false (by omega)
  clear hlen hlen'
  go_wp2_with (fail)
  refine (source_New.calls [] w w5 HB.out rfl).mono ?_
  rintro e wn ⟨g, rfl, hi, hb, hb2⟩
  have HI := Aside0.mk hi
  have HBN := Aside0.mk hb
  clear hi hb hb2 HB
  go_wp2_with (first | ((with_reducible refine gate_dst (N := 6) rfl ?_); (try (refine gate_guard (by rfl) ?_; dsimp only)); refine box_event ?hg (N := 6) ?hd (cs := #[.int .u16 0, .int .u16 0, .int .u16 0, .int .u16 0, .int .u16 0, .int .u16 0, .int .u16 0, .int .u16 0, .int .u16 0, .int .u16 0, .int .u16 0, .int .u16 0, .int .u16 0, .int .u16 0, .int .u16 0, .int .u16 0, .int .u16 0, .int .u16 0, .int .u16 0, .int .u16 0, .int .u16 0, .int .u16 0, .int .u16 0, .int .u16 0, .int .u16 0, .int .u16 0, .int .u16 0, .int .u16 0, .int .u16 0, .int .u16 0, .int .u16 0, .int .u16 0, .int .u16 0, .int .u16 0, .int .u16 0, .int .u16 0]) (t := 54) ?hr ?_; (case hd => rfl); (case hg => rfl); (case hr => first | (go_simp; done) | (go_simp; rfl)); intro g6 hg w6 hbox hb; have BK6 := Aside0.mk (show w6.heap[g6]? = some (.cells (milestonelaw15_SourcePlays.mC (fun _ => (0, 0))) 54 (0, 0)) from hbox); have HB6 := Aside0.mk hb; have GE6 := Aside0.mk (Nat.le_of_eq hg.symm); clear hb hbox hg) | ((with_reducible refine gate_dst (N := 7) rfl ?_); (try (refine gate_guard (by rfl) ?_; dsimp only)); refine box_event ?hg (N := 7) ?hd (cs := #[.bool false, .bool false, .bool false, .bool false, .bool false, .bool false, .bool false, .bool false, .bool false, .bool false, .bool false, .bool false, .bool false, .bool false, .bool false, .bool false, .bool false, .bool false]) (t := 55) ?hr ?_; (case hd => rfl); (case hg => rfl); (case hr => first | (go_simp; done) | (go_simp; rfl)); intro g7 hg w7 hbox hb; have BK7 := Aside0.mk (show w7.heap[g7]? = some (.cells (milestonelaw15_SourcePlays.hC (fun _ => false)) 55 (0, 0)) from hbox); have BK67 := Aside0.mk (blk_below BK6.out hb); have HB7 := Aside0.mk (below_step HB6.out hb); have GE7 := Aside0.mk (show wn.heap.size ≤ g7 from by (rw [hg]; exact HB6.out.size)); clear hb hbox hg BK6 HB6))
  have HI7 := Aside0.mk (HI.out.below HB7.out)
  have HBB := Aside0.mk (below_step HBN.out HB7.out)
  have GG6 := Aside0.mk (Nat.le_trans HBN.out.size GE6.out)
  have GG7 := Aside0.mk (Nat.le_trans HBN.out.size GE7.out)
  clear HI HBN HB7 GE6 GE7
  have HNE := Aside0.mk (show g6 ≠ g7 from blk_ne BK67.out BK7.out (by decide))
  go_wp2_with (fail)
  go_loopg [8, 9] l0.length (fun kx s8 s9 wr => ∃ (j n : Nat) (T : List S71) (M : Nat → Int × Int) (H : Nat → Bool), s8 = .int .i64 n ∧ s9 = .int .i64 j ∧ j ≤ l0.length ∧ n ≤ j ∧ l0.length - j ≤ kx ∧ Aside0 (Inv T M H n) ∧ Aside0 (IsS64 w wr g T) ∧ Aside0 (wr.heap[g6]? = some (.cells (milestonelaw15_SourcePlays.mC M) 54 (0, 0))) ∧ Aside0 (wr.heap[g7]? = some (.cells (milestonelaw15_SourcePlays.hC H) 55 (0, 0))) ∧ Aside0 (Below w.heap.size w wr))
  case atStart => exact ⟨0, 0, [], _, _, rfl, rfl, Nat.zero_le _, Nat.le_refl _, Nat.le_refl _, INV0, HI7, BK67, BK7, HBB⟩
  case round =>
    clear INV0 HI7 BK67 BK7 HBB
    obtain ⟨j, n, T, M, H, rfl, rfl, hj, hnj, hgas, INV, HI, BK6, BK7, HB⟩ := hrel
    by_cases hlt : j < l0.length
    · have p1 : decide ((j : Int) < (l0.length : Int)) = true := decide_eq_true (by omega)
      have p2 : decide (0 ≤ (j : Int)) = true := decide_eq_true (by omega)
      obtain ⟨X, hX⟩ : ∃ X : S25, X = rd_T25 l0 (j : Int) := ⟨_, rfl⟩
      have hwx := HW0.out X (by
        rw [hX]
        show l0.getD (j : Int).toNat z25 ∈ l0
        rw [Int.toNat_natCast, List.getD_eq_getElem?_getD, List.getElem?_eq_getElem hlt]
        exact List.getElem_mem hlt)
      have HXX := Aside0.mk hX
      clear hX
      obtain ⟨kk, k, pa, pn, qa, qn, r, e, T', h1, h2, hk18, h4, h5, h6, h7, h8⟩ := STEP.out T M H n X hwx (by omega) INV.out
      have H1 := Aside0.mk h1
      have H2 := Aside0.mk h2
      have H4 := Aside0.mk h4
      have H5 := Aside0.mk h5
      have H6 := Aside0.mk h6
      have H7 := Aside0.mk h7
      have H8 := Aside0.mk h8
      clear h1 h2 h4 h5 h6 h7 h8 hwx INV
      obtain ⟨ad1, e0, hx0, hx1, hx2⟩ := at_T25 (Kd.C_below HR0.out HB.out) (j : Int) (by omega) (by omega)
      cases e0
      simp only [Int.toNat_natCast] at hx0 hx1 hx2
      rw [← HXX.out] at hx0 hx1 hx2
      go_wp2_with (fail)
      refine (milestoneref07_Prefix.calls kk X.f0 pa pn _ H1.out).mono ?_
      rintro e_ w1 ⟨rfl, hb⟩
      have n0_ := Aside0.mk (HI.out.below hb)
      have n1_ := Aside0.mk (blk_below BK6.out hb)
      have n2_ := Aside0.mk (blk_below BK7.out hb)
      have n3_ := Aside0.mk (below_step HB.out hb)
      clear HI BK6 BK7 HB
      have HI := n0_
      have BK6 := n1_
      have BK7 := n2_
      have HB := n3_
      clear n0_ n1_ n2_ n3_
      clear hb
      clear hx0 hx1 hx2
      go_wp2_with (fail)
      refine (milestoneref07_First.calls kk pa pn (k : Int) _ H2.out).mono ?_
      rintro e_ w2 ⟨rfl, hb⟩
      have n0_ := Aside0.mk (HI.out.below hb)
      have n1_ := Aside0.mk (blk_below BK6.out hb)
      have n2_ := Aside0.mk (blk_below BK7.out hb)
      have n3_ := Aside0.mk (below_step HB.out hb)
      clear HI BK6 BK7 HB
      have HI := n0_
      have BK6 := n1_
      have BK7 := n2_
      have HB := n3_
      clear n0_ n1_ n2_ n3_
      clear hb
      obtain ⟨ad2, e0, hx0, hx1, hx2⟩ := at_T25 (Kd.C_below HR0.out HB.out) (j : Int) (by omega) (by omega)
      cases e0
      simp only [Int.toNat_natCast] at hx0 hx1 hx2
      rw [← HXX.out] at hx0 hx1 hx2
      go_wp2_with (fail)
      refine (milestonelaw15_mark.calls X.f0 X.f1 X.f2 r X.f2 _ H4.out).mono ?_
      rintro e_ w3 ⟨rfl, hb⟩
      have n0_ := Aside0.mk (HI.out.below hb)
      have n1_ := Aside0.mk (blk_below BK6.out hb)
      have n2_ := Aside0.mk (blk_below BK7.out hb)
      have n3_ := Aside0.mk (below_step HB.out hb)
      clear HI BK6 BK7 HB
      have HI := n0_
      have BK6 := n1_
      have BK7 := n2_
      have HB := n3_
      clear n0_ n1_ n2_ n3_
      clear hb
      clear hx0 hx1 hx2
      go_upto_region 12 with (fail)
      obtain ⟨g11, hg11⟩ : ∃ x : Nat, x = w3.heap.size := ⟨_, rfl⟩
      obtain ⟨V, hV⟩ : ∃ x : World, x = w3.alloc (.cells #[.int .u16 r, .int .u16 X.f2] 36 (0, 0)) := ⟨_, rfl⟩
      rw [← hV, ← hg11]
      have BKX := Aside0.mk (show V.heap[g11]? = some (.cells #[.int .u16 r, .int .u16 X.f2] 36 (0, 0)) from by rw [hV, hg11]; exact heap_alloc_new _ _)
      have hb : Below w3.heap.size w3 V := by rw [hV]; exact below_alloc (Below.refl _ _) _
      have n0_ := Aside0.mk (HI.out.below hb)
      have n1_ := Aside0.mk (blk_below BK6.out hb)
      have n2_ := Aside0.mk (blk_below BK7.out hb)
      have n3_ := Aside0.mk (below_step HB.out hb)
      clear HI BK6 BK7 HB
      have HI := n0_
      have BK6 := n1_
      have BK7 := n2_
      have HB := n3_
      clear n0_ n1_ n2_ n3_
      clear hV hg11 hb
      have wq : IntKind.u8.wrap (k : Int) = (k : Int) := by show (_ % 256 : Int) = _; omega
      have n0_ := Aside0.mk (HI.out.drew)
      have n1_ := Aside0.mk (blk_drew BK6.out)
      have n2_ := Aside0.mk (blk_drew BK7.out)
      have n3_ := Aside0.mk (below_drew1 HB.out)
      have n4_ := Aside0.mk (blk_drew BKX.out)
      clear HI BK6 BK7 HB BKX
      have HI := n0_
      have BK6 := n1_
      have BK7 := n2_
      have HB := n3_
      have BKX := n4_
      clear n0_ n1_ n2_ n3_ n4_
      refine start_ (n := 7) (S := fun w' => w'.cell? ⟨g11, 0, none⟩ = some (.int .u16 r) ∧ w'.cell? ⟨g11, 1, none⟩ = some (.int .u16 X.f2)) (ds := []) #[false, false, false, false, false, false, false] (by kernel_rfl) rfl rfl ⟨(blk_cell BKX.out 0).trans rfl, (blk_cell BKX.out 1).trans rfl⟩ (fun hHeld => ?_)
      generalize V.drew = wd at HI BK6 BK7 HB BKX hHeld ⊢
      refine pure_ (i := 0) (N := some 53) (v := ?_) (a' := ?_) #[true, false, false, false, false, false, false] rfl rfl (by kernel_rfl) (fun _ _ _ h => h) (Or.inl ⟨by rfl, ?_⟩) ?_ ?_
      rotate_left
      · intro w'
        go_simp
        with_reducible rfl
      rotate_left
      · simp only [Act.put, List.setIfInBounds_toArray, List.set_cons_zero, List.set_cons_succ, i64_w, i32_w]
        rfl
      refine pure_ (i := 1) (N := some 54) (v := ?_) (a' := ?_) #[true, true, false, false, false, false, false] rfl rfl (by kernel_rfl) (fun _ _ _ h => h) (Or.inl ⟨by rfl, ?_⟩) ?_ ?_
      rotate_left
      · intro w'
        go_simp
        with_reducible rfl
      rotate_left
      · simp only [Act.put, List.setIfInBounds_toArray, List.set_cons_zero, List.set_cons_succ, i64_w, i32_w]
        rfl
      refine pure_ (i := 2) (N := some 55) (v := ?_) (a' := ?_) #[true, true, true, false, false, false, false] rfl rfl (by kernel_rfl) (fun _ _ _ h => h) (Or.inl ⟨by rfl, ?_⟩) ?_ ?_
      rotate_left
      · intro w'
        go_simp
        with_reducible rfl
      rotate_left
      · simp only [Act.put, List.setIfInBounds_toArray, List.set_cons_zero, List.set_cons_succ, i64_w, i32_w]
        rfl
      refine take_ (i := 4) (N := some 57) (v := ?_) (a' := ?_) #[true, true, true, false, true, false, false] rfl rfl (by kernel_rfl) (fun _ _ _ h => h) (Or.inl ⟨by rfl, ?_⟩) hHeld ?_ ?_
      rotate_left
      · rintro w' ⟨s0, s1⟩
        go_simp
        with_reducible rfl
      rotate_left
      · simp only [Act.put, List.setIfInBounds_toArray, List.set_cons_zero, List.set_cons_succ, i64_w, i32_w]
        rfl
      refine one_ (i := 3) (N := some 56) #[true, true, true, true, true, false, false] rfl rfl (by kernel_rfl) (by decide) (fun K hK => ?_)
      refine goes_ Try.func8 (by kernel_rfl) rfl #[.int .u8 (k : Int)] (by rfl) rfl rfl (by simp only [List.map_toArray, List.map_cons, List.map_nil]; rfl) ?_
      with_reducible refine (milestoneref07_Prefix.calls kk (k : Int) qa qn _ H5.out).mono ?_
      rintro e_ wp1 ⟨rfl, hb⟩
      refine ⟨_, rfl, ?_⟩
      have n0_ := Aside0.mk (HI.out.below hb)
      have n1_ := Aside0.mk (blk_below BK6.out hb)
      have n2_ := Aside0.mk (blk_below BK7.out hb)
      have n3_ := Aside0.mk (below_step HB.out hb)
      have n4_ := Aside0.mk (blk_below BKX.out hb)
      clear HI BK6 BK7 HB BKX
      have HI := n0_
      have BK6 := n1_
      have BK7 := n2_
      have HB := n3_
      have BKX := n4_
      clear n0_ n1_ n2_ n3_ n4_
      clear hb
      refine hK.out _ _ ⟨(blk_cell BKX.out 0).trans rfl, (blk_cell BKX.out 1).trans rfl⟩ (fun hHeld => ?_)
      clear hK K
      refine norm_ (a' := ?_) ?_ ?_
      rotate_left
      · show Act.put _ (some 56) _ = _
        simp only [Act.put, List.setIfInBounds_toArray, List.set_cons_zero, List.set_cons_succ, i64_w, i32_w]
        rfl
      refine one_ (i := 5) (N := some 58) #[true, true, true, true, true, true, false] rfl rfl (by kernel_rfl) (by decide) (fun K hK => ?_)
      refine goes_ Try.func9 (by kernel_rfl) rfl #[.pointer (some ⟨g, 0, none⟩), .agg #[.int .u32 qa, .int .u8 qn], .agg #[.int .u16 r, .int .u16 X.f2]] (by rfl) rfl rfl (by simp only [List.map_toArray, List.map_cons, List.map_nil]; rfl) ?_
      with_reducible refine (source_Source_Lower.calls g T qa qn r X.f2 e T' w _ HI.out HB.out H6.out).mono ?_
      rintro e_ wp2 ⟨rfl, hi, hb, hk⟩
      refine ⟨_, rfl, ?_⟩
      have n0_ := Aside0.mk (hi)
      have n1_ := Aside0.mk (hk.blk BK6.out rfl (by decide) (by decide))
      have n2_ := Aside0.mk (hk.blk BK7.out rfl (by decide) (by decide))
      have n3_ := Aside0.mk (hb)
      have n4_ := Aside0.mk (hk.blk BKX.out rfl (by decide) (by decide))
      clear HI BK6 BK7 HB BKX
      have HI := n0_
      have BK6 := n1_
      have BK7 := n2_
      have HB := n3_
      have BKX := n4_
      clear n0_ n1_ n2_ n3_ n4_
      clear hi hb hk
      refine hK.out _ _ ⟨(blk_cell BKX.out 0).trans rfl, (blk_cell BKX.out 1).trans rfl⟩ (fun hHeld => ?_)
      clear hK K
      refine norm_ (a' := ?_) ?_ ?_
      rotate_left
      · show Act.put _ (some 58) _ = _
        simp only [Act.put, List.setIfInBounds_toArray, List.set_cons_zero, List.set_cons_succ, i64_w, i32_w]
        rfl
      refine pure_ (i := 6) (N := some 12) (v := ?_) (a' := ?_) #[true, true, true, true, true, true, true] rfl rfl (by kernel_rfl) (fun _ _ _ h => h) (Or.inl ⟨by rfl, ?_⟩) ?_ ?_
      rotate_left
      · intro w'
        go_simp
        with_reducible rfl
      rotate_left
      · simp only [Act.put, List.setIfInBounds_toArray, List.set_cons_zero, List.set_cons_succ, i64_w, i32_w]
        rfl
      refine done_ (by kernel_rfl) ?_
      clear hHeld wq
      have z1 : wp2.cell? ⟨g11, 1, none⟩ = some (.int .u16 X.f2) := (blk_cell BKX.out 1).trans rfl
      by_cases hm : X.f2 = 65535
      · obtain ⟨rfl, hinv⟩ := H7.out hm
        have q0 : (X.f2 == 65535) = true := beq_iff_eq.mpr hm
        have INV := Aside0.mk hinv
        clear hinv hm
        go_wp2_with (fail)
        go_roundg (l0.length - (j + 1))
        case measure => omega
        case rel => exact ⟨j + 1, n, T', M, H, rfl, by go_num, by omega, by omega, Nat.le_refl _, INV, HI, BK6, BK7, HB⟩
      · obtain ⟨rfl, hyes, hno⟩ := H8.out hm
        have q0 : (X.f2 == 65535) = false := beq_eq_false_iff_ne.mpr hm
        clear hm
        have i1 : decide (0 ≤ (k : Int)) = true := decide_eq_true (by omega)
        have i2 : decide ((k : Int) < 18) = true := decide_eq_true (by omega)
        have i3 : decide (k < 18) = true := decide_eq_true (by omega)
        have i4 : ((k : Int) < 18) = True := eq_true (by omega)
        have i5 : (k < 18) = True := eq_true (by omega)
        by_cases hH : H k = true
        · obtain ⟨b0, b1, hbe, hinv⟩ := hyes hH
          have HBE := Aside0.mk hbe
          have INV := Aside0.mk hinv
          have MZ0 := Aside0.mk (milestonelaw15_SourcePlays.m0 M)
          have MZ1 := Aside0.mk (milestonelaw15_SourcePlays.m1 M)
          clear hyes hno hbe hinv
          have y7 := blk_frozen BK7.out k
          have z7 : wp2.cell? ⟨g7, k, none⟩ = some (.bool (H k)) := (blk_cell BK7.out k).trans (milestonelaw15_SourcePlays.h0 H k hk18)
          rw [hH] at z7
          go_upto_region 22 with (fail)
          have hW7 := Aside0.mk (blk_set BK7.out k (.bool true))
          obtain ⟨U, hU⟩ : ∃ x : World, x = wp2.setCell ⟨g7, k, none⟩ (.bool true) := ⟨_, rfl⟩
          rw [← hU]
          have n0_ := Aside0.mk (show IsS64 w U g T' from by rw [hU]; exact HI.out.far (p := ⟨g7, k, none⟩) (Oth.of_blk BK7.out (by decide) (by decide)) _)
          have n1_ := Aside0.mk (show U.heap[g6]? = some (.cells (milestonelaw15_SourcePlays.mC M) 54 (0, 0)) from by rw [hU]; exact blk_far BK6.out (p := ⟨g7, k, none⟩) HNE.out _)
          have n2_ := Aside0.mk (show U.heap[g7]? = some (.cells (milestonelaw15_SourcePlays.hC (milestonelaw15_SourcePlays.up H k true)) 55 (0, 0)) from by rw [hU]; exact blk_put BK7.out k _ (milestonelaw15_SourcePlays.hset H true k hk18))
          have n3_ := Aside0.mk (show Below w.heap.size w U from by rw [hU]; exact below_set HB.out GG7.out)
          have n4_ := Aside0.mk (show U.heap[g11]? = some (.cells #[.int .u16 r, .int .u16 X.f2] 36 (0, 0)) from by rw [hU]; exact blk_far BKX.out (p := ⟨g7, k, none⟩) (blk_ne BKX.out BK7.out (by decide)) _)
          clear HI BK6 BK7 HB BKX hU
          have HI := n0_
          have BK6 := n1_
          have BK7 := n2_
          have HB := n3_
          have BKX := n4_
          clear n0_ n1_ n2_ n3_ n4_ y7 z7 hW7
          have n0_ := Aside0.mk (HI.out.drew)
          have n1_ := Aside0.mk (blk_drew BK6.out)
          have n2_ := Aside0.mk (blk_drew BK7.out)
          have n3_ := Aside0.mk (below_drew1 HB.out)
          have n4_ := Aside0.mk (blk_drew BKX.out)
          clear HI BK6 BK7 HB BKX
          have HI := n0_
          have BK6 := n1_
          have BK7 := n2_
          have HB := n3_
          have BKX := n4_
          clear n0_ n1_ n2_ n3_ n4_
          refine start_ (n := 8) (S := fun w' => w'.cell? ⟨g6, k * 2, none⟩ = some (.int .u16 (M k).1) ∧ w'.cell? ⟨g6, k * 2 + 1, none⟩ = some (.int .u16 (M k).2) ∧ w'.cell? ⟨g11, 0, none⟩ = some (.int .u16 r) ∧ w'.cell? ⟨g11, 1, none⟩ = some (.int .u16 X.f2)) (ds := [7]) #[false, false, false, false, false, false, false, false] (by kernel_rfl) rfl rfl ⟨(blk_cell BK6.out (k * 2)).trans (MZ0.out k hk18), (blk_cell BK6.out (k * 2 + 1)).trans (MZ1.out k hk18), (blk_cell BKX.out 0).trans rfl, (blk_cell BKX.out 1).trans rfl⟩ (fun hHeld => ?_)
          generalize U.drew = wd2 at HI BK6 BK7 HB BKX hHeld ⊢
          refine pure_ (i := 0) (N := some 77) (v := ?_) (a' := ?_) #[true, false, false, false, false, false, false, false] rfl rfl (by kernel_rfl) (fun _ _ _ h => h) (Or.inl ⟨by rfl, ?_⟩) ?_ ?_
          rotate_left
          · intro w'
            go_simp
            with_reducible rfl
          rotate_left
          · simp only [Act.put, List.setIfInBounds_toArray, List.set_cons_zero, List.set_cons_succ, i64_w, i32_w]
            rfl
          refine pure_ (i := 1) (N := some 78) (v := ?_) (a' := ?_) #[true, true, false, false, false, false, false, false] rfl rfl (by kernel_rfl) (fun _ _ _ h => h) (Or.inl ⟨by rfl, ?_⟩) ?_ ?_
          rotate_left
          · intro w'
            go_simp
            with_reducible rfl
          rotate_left
          · simp only [Act.put, List.setIfInBounds_toArray, List.set_cons_zero, List.set_cons_succ, i64_w, i32_w]
            rfl
          refine pure_ (i := 2) (N := some 79) (v := ?_) (a' := ?_) #[true, true, true, false, false, false, false, false] rfl rfl (by kernel_rfl) (fun _ _ _ h => h) (Or.inl ⟨by rfl, ?_⟩) ?_ ?_
          rotate_left
          · intro w'
            go_simp
            with_reducible rfl
          rotate_left
          · simp only [Act.put, List.setIfInBounds_toArray, List.set_cons_zero, List.set_cons_succ, i64_w, i32_w]
            rfl
          refine take_ (i := 3) (N := some 80) (v := ?_) (a' := ?_) #[true, true, true, true, false, false, false, false] rfl rfl (by kernel_rfl) (fun _ _ _ h => h) (Or.inl ⟨by rfl, ?_⟩) hHeld ?_ ?_
          rotate_left
          · rintro w' ⟨s0, s1, s2, s3⟩
            go_simp
            with_reducible rfl
          rotate_left
          · simp only [Act.put, List.setIfInBounds_toArray, List.set_cons_zero, List.set_cons_succ, i64_w, i32_w]
            rfl
          refine take_ (i := 4) (N := some 81) (v := ?_) (a' := ?_) #[true, true, true, true, true, false, false, false] rfl rfl (by kernel_rfl) (fun _ _ _ h => h) (Or.inl ⟨by rfl, ?_⟩) hHeld ?_ ?_
          rotate_left
          · rintro w' ⟨s0, s1, s2, s3⟩
            go_simp
            with_reducible rfl
          rotate_left
          · simp only [Act.put, List.setIfInBounds_toArray, List.set_cons_zero, List.set_cons_succ, i64_w, i32_w]
            rfl
          refine one_ (i := 5) (N := some 82) #[true, true, true, true, true, true, false, false] rfl rfl (by kernel_rfl) (by decide) (fun K hK => ?_)
          refine goes_ Try.func18 (by kernel_rfl) rfl #[.agg #[.int .u16 (M k).1, .int .u16 (M k).2], .agg #[.int .u16 r, .int .u16 X.f2]] (by rfl) rfl rfl (by simp only [List.map_toArray, List.map_cons, List.map_nil]; rfl) ?_
          with_reducible refine (milestoneref01_Best.calls (M k).1 (M k).2 r X.f2 b0 b1 _ HBE.out).mono ?_
          rintro e_ wb ⟨rfl, hb⟩
          refine ⟨_, rfl, ?_⟩
          have n0_ := Aside0.mk (HI.out.below hb)
          have n1_ := Aside0.mk (blk_below BK6.out hb)
          have n2_ := Aside0.mk (blk_below BK7.out hb)
          have n3_ := Aside0.mk (below_step HB.out hb)
          have n4_ := Aside0.mk (blk_below BKX.out hb)
          clear HI BK6 BK7 HB BKX
          have HI := n0_
          have BK6 := n1_
          have BK7 := n2_
          have HB := n3_
          have BKX := n4_
          clear n0_ n1_ n2_ n3_ n4_
          clear hb
          refine hK.out _ _ ⟨(blk_cell BK6.out (k * 2)).trans (MZ0.out k hk18), (blk_cell BK6.out (k * 2 + 1)).trans (MZ1.out k hk18), (blk_cell BKX.out 0).trans rfl, (blk_cell BKX.out 1).trans rfl⟩ (fun hHeld => ?_)
          clear hK K
          refine norm_ (a' := ?_) ?_ ?_
          rotate_left
          · show Act.put _ (some 82) _ = _
            simp only [Act.put, List.setIfInBounds_toArray, List.set_cons_zero, List.set_cons_succ, i64_w, i32_w]
            rfl
          refine pure_ (i := 6) (N := some 83) (v := ?_) (a' := ?_) #[true, true, true, true, true, true, true, false] rfl rfl (by kernel_rfl) (fun _ _ _ h => h) (Or.inl ⟨by rfl, ?_⟩) ?_ ?_
          rotate_left
          · intro w'
            go_simp
            with_reducible rfl
          rotate_left
          · simp only [Act.put, List.setIfInBounds_toArray, List.set_cons_zero, List.set_cons_succ, i64_w, i32_w]
            rfl
          refine last_ (i := 7) (N := none) #[true, true, true, true, true, true, true, true] rfl rfl (by kernel_rfl) (by decide) (fun K hK => ?_)
          have y0 := blk_frozen BK6.out (k * 2)
          have y1 := blk_frozen BK6.out (k * 2 + 1)
          have c0 : wb.cell? ⟨g6, k * 2, none⟩ = some (.int .u16 (M k).1) := (blk_cell BK6.out (k * 2)).trans (MZ0.out k hk18)
          have c1 : wb.cell? ⟨g6, k * 2 + 1, none⟩ = some (.int .u16 (M k).2) := (blk_cell BK6.out (k * 2 + 1)).trans (MZ1.out k hk18)
          refine skip_ (w1 := ?_) (by rfl) rfl ?_ ?_
          rotate_left
          · go_simp
            rfl
          clear y0 y1 c0 c1
          refine hK.out _ _ ?_
          clear hK K
          refine done_ (by kernel_rfl) ?_
          have n0_ := Aside0.mk (HI.out.far (p := ⟨g6, k * 2, none⟩) (Oth.of_blk BK6.out (by decide) (by decide)) (.int .u16 b0))
          have n0b_ := Aside0.mk (n0_.out.far (p := ⟨g6, k * 2 + 1, none⟩) (Oth.of_blk BK6.out (by decide) (by decide)).set (.int .u16 b1))
          have n1_ := Aside0.mk (blk_put (blk_set BK6.out (k * 2) (.int .u16 b0)) (k * 2 + 1) (.int .u16 b1) (milestonelaw15_SourcePlays.mset M b0 b1 k hk18))
          have n2_ := Aside0.mk (blk_far (blk_far BK7.out (p := ⟨g6, k * 2, none⟩) (fun h => HNE.out (Eq.symm h)) (.int .u16 b0)) (p := ⟨g6, k * 2 + 1, none⟩) (fun h => HNE.out (Eq.symm h)) (.int .u16 b1))
          have n3_ := Aside0.mk (below_set (j := k * 2 + 1) (v := .int .u16 b1) (below_set (j := k * 2) (v := .int .u16 b0) HB.out GG6.out) GG6.out)
          clear hHeld
          go_wp2_with (fail)
          go_roundg (l0.length - (j + 1))
          case measure => omega
          case rel => exact ⟨j + 1, n, T', _, _, rfl, by go_num, by omega, by omega, Nat.le_refl _, INV, n0b_, n1_, n2_, n3_⟩
        · have hH' : H k = false := by simpa using hH
          obtain ⟨b0, b1, hbe, hinv⟩ := hno hH'
          have HBE := Aside0.mk hbe
          have INV := Aside0.mk hinv
          have MZ0_ : ∀ q, q < 18 → q = k → (milestonelaw15_SourcePlays.mC (milestonelaw15_SourcePlays.up M k (r, X.f2)))[q * 2]? = some (.int .u16 r) := fun q hq he => by
            rw [milestonelaw15_SourcePlays.m0 _ q hq, he, milestonelaw15_SourcePlays.up_at]
          have MZ1_ : ∀ q, q < 18 → q = k → (milestonelaw15_SourcePlays.mC (milestonelaw15_SourcePlays.up M k (r, X.f2)))[q * 2 + 1]? = some (.int .u16 X.f2) := fun q hq he => by
            rw [milestonelaw15_SourcePlays.m1 _ q hq, he, milestonelaw15_SourcePlays.up_at]
          have MZ0 := Aside0.mk MZ0_
          have MZ1 := Aside0.mk MZ1_
          clear MZ0_ MZ1_
          clear hyes hno hbe hinv hH
          have hH := hH'
          clear hH'
          have y7 := blk_frozen BK7.out k
          have z7 : wp2.cell? ⟨g7, k, none⟩ = some (.bool (H k)) := (blk_cell BK7.out k).trans (milestonelaw15_SourcePlays.h0 H k hk18)
          rw [hH] at z7
          have y6 := blk_frozen BK6.out (k * 2)
          have y6' := blk_frozen BK6.out (k * 2 + 1)
          have z6 : wp2.cell? ⟨g6, k * 2, none⟩ = some (.int .u16 (M k).1) := (blk_cell BK6.out (k * 2)).trans (milestonelaw15_SourcePlays.m0 M k hk18)
          have z6' : wp2.cell? ⟨g6, k * 2 + 1, none⟩ = some (.int .u16 (M k).2) := (blk_cell BK6.out (k * 2 + 1)).trans (milestonelaw15_SourcePlays.m1 M k hk18)
          have x0 : wp2.cell? ⟨g11, 0, none⟩ = some (.int .u16 r) := (blk_cell BKX.out 0).trans rfl
          have x1 : wp2.cell? ⟨g11, 1, none⟩ = some (.int .u16 X.f2) := (blk_cell BKX.out 1).trans rfl
          have hne7 := HNE.out
          have hne7' := fun h => HNE.out (Eq.symm h)
          have s7 : ∀ u v : Value, ((wp2.setCell ⟨g6, k * 2, none⟩ u).setCell ⟨g6, k * 2 + 1, none⟩ v).cell? ⟨g7, k, none⟩ = some (.bool (H k)) := fun u v => (blk_cell (blk_far (blk_far BK7.out (p := ⟨g6, k * 2, none⟩) hne7' u) (p := ⟨g6, k * 2 + 1, none⟩) hne7' v) k).trans (milestonelaw15_SourcePlays.h0 H k hk18)
          go_upto_region 22 with (fail)
          obtain ⟨U, hU⟩ : ∃ x : World, x = ((wp2.setCell ⟨g6, k * 2, none⟩ (.int .u16 r)).setCell ⟨g6, k * 2 + 1, none⟩ (.int .u16 X.f2)).setCell ⟨g7, k, none⟩ (.bool true) := ⟨_, rfl⟩
          rw [← hU]
          have n0_ := Aside0.mk (show IsS64 w U g T' from by rw [hU]; exact ((HI.out.far (p := ⟨g6, k * 2, none⟩) (Oth.of_blk BK6.out (by decide) (by decide)) _).far (p := ⟨g6, k * 2 + 1, none⟩) (Oth.of_blk BK6.out (by decide) (by decide)).set _).far (p := ⟨g7, k, none⟩) (Oth.of_blk BK7.out (by decide) (by decide)).set.set _)
          have n1_ := Aside0.mk (show U.heap[g6]? = some (.cells (milestonelaw15_SourcePlays.mC (milestonelaw15_SourcePlays.up M k (r, X.f2))) 54 (0, 0)) from by rw [hU]; exact blk_far (blk_put (blk_set BK6.out (k * 2) _) (k * 2 + 1) _ (milestonelaw15_SourcePlays.mset M r X.f2 k hk18)) (p := ⟨g7, k, none⟩) HNE.out _)
          have n2_ := Aside0.mk (show U.heap[g7]? = some (.cells (milestonelaw15_SourcePlays.hC (milestonelaw15_SourcePlays.up H k true)) 55 (0, 0)) from by rw [hU]; exact blk_put (blk_far (blk_far BK7.out (p := ⟨g6, k * 2, none⟩) hne7' _) (p := ⟨g6, k * 2 + 1, none⟩) hne7' _) k _ (milestonelaw15_SourcePlays.hset H true k hk18))
          have n3_ := Aside0.mk (show Below w.heap.size w U from by rw [hU]; exact below_set (below_set (below_set HB.out GG6.out) GG6.out) GG7.out)
          have n4_ := Aside0.mk (show U.heap[g11]? = some (.cells #[.int .u16 r, .int .u16 X.f2] 36 (0, 0)) from by rw [hU]; exact blk_far (blk_far (blk_far BKX.out (p := ⟨g6, k * 2, none⟩) (blk_ne BKX.out BK6.out (by decide)) _) (p := ⟨g6, k * 2 + 1, none⟩) (blk_ne BKX.out BK6.out (by decide)) _) (p := ⟨g7, k, none⟩) (blk_ne BKX.out BK7.out (by decide)) _)
          clear HI BK6 BK7 HB BKX hU
          have HI := n0_
          have BK6 := n1_
          have BK7 := n2_
          have HB := n3_
          have BKX := n4_
          clear n0_ n1_ n2_ n3_ n4_ y7 z7 y6 y6' z6 z6' x0 x1 hne7 hne7' s7
          have n0_ := Aside0.mk (HI.out.drew)
          have n1_ := Aside0.mk (blk_drew BK6.out)
          have n2_ := Aside0.mk (blk_drew BK7.out)
          have n3_ := Aside0.mk (below_drew1 HB.out)
          have n4_ := Aside0.mk (blk_drew BKX.out)
          clear HI BK6 BK7 HB BKX
          have HI := n0_
          have BK6 := n1_
          have BK7 := n2_
          have HB := n3_
          have BKX := n4_
          clear n0_ n1_ n2_ n3_ n4_
          refine start_ (n := 8) (S := fun w' => w'.cell? ⟨g6, k * 2, none⟩ = some (.int .u16 r) ∧ w'.cell? ⟨g6, k * 2 + 1, none⟩ = some (.int .u16 X.f2) ∧ w'.cell? ⟨g11, 0, none⟩ = some (.int .u16 r) ∧ w'.cell? ⟨g11, 1, none⟩ = some (.int .u16 X.f2)) (ds := [7]) #[false, false, false, false, false, false, false, false] (by kernel_rfl) rfl rfl ⟨(blk_cell BK6.out (k * 2)).trans (MZ0.out k hk18 rfl), (blk_cell BK6.out (k * 2 + 1)).trans (MZ1.out k hk18 rfl), (blk_cell BKX.out 0).trans rfl, (blk_cell BKX.out 1).trans rfl⟩ (fun hHeld => ?_)
          generalize U.drew = wd2 at HI BK6 BK7 HB BKX hHeld ⊢
          refine pure_ (i := 0) (N := some 77) (v := ?_) (a' := ?_) #[true, false, false, false, false, false, false, false] rfl rfl (by kernel_rfl) (fun _ _ _ h => h) (Or.inl ⟨by rfl, ?_⟩) ?_ ?_
          rotate_left
          · intro w'
            go_simp
            with_reducible rfl
          rotate_left
          · simp only [Act.put, List.setIfInBounds_toArray, List.set_cons_zero, List.set_cons_succ, i64_w, i32_w]
            rfl
          refine pure_ (i := 1) (N := some 78) (v := ?_) (a' := ?_) #[true, true, false, false, false, false, false, false] rfl rfl (by kernel_rfl) (fun _ _ _ h => h) (Or.inl ⟨by rfl, ?_⟩) ?_ ?_
          rotate_left
          · intro w'
            go_simp
            with_reducible rfl
          rotate_left
          · simp only [Act.put, List.setIfInBounds_toArray, List.set_cons_zero, List.set_cons_succ, i64_w, i32_w]
            rfl
          refine pure_ (i := 2) (N := some 79) (v := ?_) (a' := ?_) #[true, true, true, false, false, false, false, false] rfl rfl (by kernel_rfl) (fun _ _ _ h => h) (Or.inl ⟨by rfl, ?_⟩) ?_ ?_
          rotate_left
          · intro w'
            go_simp
            with_reducible rfl
          rotate_left
          · simp only [Act.put, List.setIfInBounds_toArray, List.set_cons_zero, List.set_cons_succ, i64_w, i32_w]
            rfl
          refine take_ (i := 3) (N := some 80) (v := ?_) (a' := ?_) #[true, true, true, true, false, false, false, false] rfl rfl (by kernel_rfl) (fun _ _ _ h => h) (Or.inl ⟨by rfl, ?_⟩) hHeld ?_ ?_
          rotate_left
          · rintro w' ⟨s0, s1, s2, s3⟩
            go_simp
            with_reducible rfl
          rotate_left
          · simp only [Act.put, List.setIfInBounds_toArray, List.set_cons_zero, List.set_cons_succ, i64_w, i32_w]
            rfl
          refine take_ (i := 4) (N := some 81) (v := ?_) (a' := ?_) #[true, true, true, true, true, false, false, false] rfl rfl (by kernel_rfl) (fun _ _ _ h => h) (Or.inl ⟨by rfl, ?_⟩) hHeld ?_ ?_
          rotate_left
          · rintro w' ⟨s0, s1, s2, s3⟩
            go_simp
            with_reducible rfl
          rotate_left
          · simp only [Act.put, List.setIfInBounds_toArray, List.set_cons_zero, List.set_cons_succ, i64_w, i32_w]
            rfl
          refine one_ (i := 5) (N := some 82) #[true, true, true, true, true, true, false, false] rfl rfl (by kernel_rfl) (by decide) (fun K hK => ?_)
          refine goes_ Try.func18 (by kernel_rfl) rfl #[.agg #[.int .u16 r, .int .u16 X.f2], .agg #[.int .u16 r, .int .u16 X.f2]] (by rfl) rfl rfl (by simp only [List.map_toArray, List.map_cons, List.map_nil]; rfl) ?_
          with_reducible refine (milestoneref01_Best.calls r X.f2 r X.f2 b0 b1 _ HBE.out).mono ?_
          rintro e_ wb ⟨rfl, hb⟩
          refine ⟨_, rfl, ?_⟩
          have n0_ := Aside0.mk (HI.out.below hb)
          have n1_ := Aside0.mk (blk_below BK6.out hb)
          have n2_ := Aside0.mk (blk_below BK7.out hb)
          have n3_ := Aside0.mk (below_step HB.out hb)
          have n4_ := Aside0.mk (blk_below BKX.out hb)
          clear HI BK6 BK7 HB BKX
          have HI := n0_
          have BK6 := n1_
          have BK7 := n2_
          have HB := n3_
          have BKX := n4_
          clear n0_ n1_ n2_ n3_ n4_
          clear hb
          refine hK.out _ _ ⟨(blk_cell BK6.out (k * 2)).trans (MZ0.out k hk18 rfl), (blk_cell BK6.out (k * 2 + 1)).trans (MZ1.out k hk18 rfl), (blk_cell BKX.out 0).trans rfl, (blk_cell BKX.out 1).trans rfl⟩ (fun hHeld => ?_)
          clear hK K
          refine norm_ (a' := ?_) ?_ ?_
          rotate_left
          · show Act.put _ (some 82) _ = _
            simp only [Act.put, List.setIfInBounds_toArray, List.set_cons_zero, List.set_cons_succ, i64_w, i32_w]
            rfl
          refine pure_ (i := 6) (N := some 83) (v := ?_) (a' := ?_) #[true, true, true, true, true, true, true, false] rfl rfl (by kernel_rfl) (fun _ _ _ h => h) (Or.inl ⟨by rfl, ?_⟩) ?_ ?_
          rotate_left
          · intro w'
            go_simp
            with_reducible rfl
          rotate_left
          · simp only [Act.put, List.setIfInBounds_toArray, List.set_cons_zero, List.set_cons_succ, i64_w, i32_w]
            rfl
          refine last_ (i := 7) (N := none) #[true, true, true, true, true, true, true, true] rfl rfl (by kernel_rfl) (by decide) (fun K hK => ?_)
          have y0 := blk_frozen BK6.out (k * 2)
          have y1 := blk_frozen BK6.out (k * 2 + 1)
          have c0 : wb.cell? ⟨g6, k * 2, none⟩ = some (.int .u16 r) := (blk_cell BK6.out (k * 2)).trans (MZ0.out k hk18 rfl)
          have c1 : wb.cell? ⟨g6, k * 2 + 1, none⟩ = some (.int .u16 X.f2) := (blk_cell BK6.out (k * 2 + 1)).trans (MZ1.out k hk18 rfl)
          refine skip_ (w1 := ?_) (by rfl) rfl ?_ ?_
          rotate_left
          · go_simp
            rfl
          clear y0 y1 c0 c1
          refine hK.out _ _ ?_
          clear hK K
          refine done_ (by kernel_rfl) ?_
          have n0_ := Aside0.mk (HI.out.far (p := ⟨g6, k * 2, none⟩) (Oth.of_blk BK6.out (by decide) (by decide)) (.int .u16 b0))
          have n0b_ := Aside0.mk (n0_.out.far (p := ⟨g6, k * 2 + 1, none⟩) (Oth.of_blk BK6.out (by decide) (by decide)).set (.int .u16 b1))
          have n1_ := Aside0.mk (blk_put (blk_set BK6.out (k * 2) (.int .u16 b0)) (k * 2 + 1) (.int .u16 b1) (milestonelaw15_SourcePlays.mset (milestonelaw15_SourcePlays.up M k (r, X.f2)) b0 b1 k hk18))
          have n2_ := Aside0.mk (blk_far (blk_far BK7.out (p := ⟨g6, k * 2, none⟩) (fun h => HNE.out (Eq.symm h)) (.int .u16 b0)) (p := ⟨g6, k * 2 + 1, none⟩) (fun h => HNE.out (Eq.symm h)) (.int .u16 b1))
          have n3_ := Aside0.mk (below_set (j := k * 2 + 1) (v := .int .u16 b1) (below_set (j := k * 2) (v := .int .u16 b0) HB.out GG6.out) GG6.out)
          clear hHeld
          go_wp2_with (fail)
          go_roundg (l0.length - (j + 1))
          case measure => omega
          case rel => exact ⟨j + 1, n + 1, T', _, _, by go_num, by go_num, by omega, by omega, Nat.le_refl _, INV, n0b_, n1_, n2_, n3_⟩
    · have p1 : decide ((j : Int) < (l0.length : Int)) = false := decide_eq_false (by omega)
      go_wp2_with (fail)
      go_loopg [13] 18 (fun kx s13 wr => ∃ (k : Nat), s13 = .int .i64 k ∧ k ≤ 18 ∧ 18 - k ≤ kx ∧ Aside0 (IsS64 w wr g T) ∧ Aside0 (wr.heap[g6]? = some (.cells (milestonelaw15_SourcePlays.mC M) 54 (0, 0))) ∧ Aside0 (wr.heap[g7]? = some (.cells (milestonelaw15_SourcePlays.hC H) 55 (0, 0))) ∧ Aside0 (Below w.heap.size w wr))
      case atStart => exact ⟨0, rfl, Nat.zero_le _, Nat.le_refl _, HI, BK6, BK7, HB⟩
      case round =>
        clear HI BK6 BK7 HB
        obtain ⟨k, rfl, hk, hgas2, HI, BK6, BK7, HB⟩ := hrel
        by_cases hk18 : k < 18
        · obtain ⟨kk, qa, qn, jj, h1, h2, h3⟩ := LOOK.out T M H n k hk18 INV.out
          have H1 := Aside0.mk h1
          have H2 := Aside0.mk h2
          have H3 := Aside0.mk h3
          clear h1 h2 h3
          have p1 : decide ((k : Int) < 18) = true := decide_eq_true (by omega)
          have i1 : decide (0 ≤ (k : Int)) = true := decide_eq_true (by omega)
          have i2 : decide ((k : Int) < 18) = true := decide_eq_true (by omega)
          have i3 : decide (k < 18) = true := decide_eq_true (by omega)
          have i4 : ((k : Int) < 18) = True := eq_true (by omega)
          have i5 : (k < 18) = True := eq_true (by omega)
          go_wp2_with (fail)
          refine (milestoneref07_Prefix.calls kk (k : Int) qa qn _ H1.out).mono ?_
          rintro e_ u1 ⟨rfl, hb⟩
          have n0_ := Aside0.mk (HI.out.below hb)
          have n1_ := Aside0.mk (blk_below BK6.out hb)
          have n2_ := Aside0.mk (blk_below BK7.out hb)
          have n3_ := Aside0.mk (below_step HB.out hb)
          clear HI BK6 BK7 HB
          have HI := n0_
          have BK6 := n1_
          have BK7 := n2_
          have HB := n3_
          clear n0_ n1_ n2_ n3_
          clear hb
          go_wp2_with (fail)
          refine (milestoneref07_First.calls kk qa qn jj _ H2.out).mono ?_
          rintro e_ u2 ⟨rfl, hb⟩
          have n0_ := Aside0.mk (HI.out.below hb)
          have n1_ := Aside0.mk (blk_below BK6.out hb)
          have n2_ := Aside0.mk (blk_below BK7.out hb)
          have n3_ := Aside0.mk (below_step HB.out hb)
          clear HI BK6 BK7 HB
          have HI := n0_
          have BK6 := n1_
          have BK7 := n2_
          have HB := n3_
          clear n0_ n1_ n2_ n3_
          clear hb
          by_cases hjk : jj = (k : Int)
          · obtain ⟨ma, mb, mc, hma, hwa, hmm⟩ := H3.out hjk
            have HMA := Aside0.mk hma
            have HWA := Aside0.mk hwa
            have HMM := Aside0.mk hmm
            clear hma hwa hmm
            have q0 : (jj != (k : Int)) = false := bne_eq_false_iff_eq.mpr hjk
            clear hjk
            go_wp2_with (fail)
            refine (milestoneref07_Prefix.calls kk (k : Int) qa qn _ H1.out).mono ?_
            rintro e_ u3 ⟨rfl, hb⟩
            have n0_ := Aside0.mk (HI.out.below hb)
            have n1_ := Aside0.mk (blk_below BK6.out hb)
            have n2_ := Aside0.mk (blk_below BK7.out hb)
            have n3_ := Aside0.mk (below_step HB.out hb)
            clear HI BK6 BK7 HB
            have HI := n0_
            have BK6 := n1_
            have BK7 := n2_
            have HB := n3_
            clear n0_ n1_ n2_ n3_
            clear hb
            go_wp2_with (fail)
            refine (source_Source_Mark.calls g T qa qn ma mb (H k) T w _ HI.out HB.out HMA.out).mono ?_
            rintro e_ u4 ⟨rfl, hi, hb, hk⟩
            have n0_ := Aside0.mk (hi)
            have n1_ := Aside0.mk (hk.blk BK6.out rfl (by decide) (by decide))
            have n2_ := Aside0.mk (hk.blk BK7.out rfl (by decide) (by decide))
            have n3_ := Aside0.mk (hb)
            clear HI BK6 BK7 HB
            have HI := n0_
            have BK6 := n1_
            have BK7 := n2_
            have HB := n3_
            clear n0_ n1_ n2_ n3_
            clear hi hb hk
            go_upto_region 28 with (fail)
            obtain ⟨g14, hg14⟩ : ∃ x : Nat, x = u4.heap.size := ⟨_, rfl⟩
            obtain ⟨V, hV⟩ : ∃ x : World, x = u4.alloc (.cells #[.int .u16 ma, .int .u16 mb] 36 (0, 0)) := ⟨_, rfl⟩
            rw [← hV, ← hg14]
            have BKX := Aside0.mk (show V.heap[g14]? = some (.cells #[.int .u16 ma, .int .u16 mb] 36 (0, 0)) from by rw [hV, hg14]; exact heap_alloc_new _ _)
            have hb : Below u4.heap.size u4 V := by rw [hV]; exact below_alloc (Below.refl _ _) _
            have n0_ := Aside0.mk (HI.out.below hb)
            have n1_ := Aside0.mk (blk_below BK6.out hb)
            have n2_ := Aside0.mk (blk_below BK7.out hb)
            have n3_ := Aside0.mk (below_step HB.out hb)
            clear HI BK6 BK7 HB
            have HI := n0_
            have BK6 := n1_
            have BK7 := n2_
            have HB := n3_
            clear n0_ n1_ n2_ n3_
            clear hV hg14 hb
            go_wp2_with (fail)
            refine (milestoneref07_Prefix.calls kk (k : Int) qa qn _ H1.out).mono ?_
            rintro e_ u5 ⟨rfl, hb⟩
            have n0_ := Aside0.mk (HI.out.below hb)
            have n1_ := Aside0.mk (blk_below BK6.out hb)
            have n2_ := Aside0.mk (blk_below BK7.out hb)
            have n3_ := Aside0.mk (below_step HB.out hb)
            have n4_ := Aside0.mk (blk_below BKX.out hb)
            clear HI BK6 BK7 HB BKX
            have HI := n0_
            have BK6 := n1_
            have BK7 := n2_
            have HB := n3_
            have BKX := n4_
            clear n0_ n1_ n2_ n3_ n4_
            clear hb
            go_wp2_with (fail)
            refine (source_Source_Wants.calls g T qa qn mc (H k) T w _ HI.out HB.out HWA.out).mono ?_
            rintro e_ u6 ⟨rfl, hi, hb, hk⟩
            have n0_ := Aside0.mk (hi)
            have n1_ := Aside0.mk (hk.blk BK6.out rfl (by decide) (by decide))
            have n2_ := Aside0.mk (hk.blk BK7.out rfl (by decide) (by decide))
            have n3_ := Aside0.mk (hb)
            have n4_ := Aside0.mk (hk.blk BKX.out rfl (by decide) (by decide))
            clear HI BK6 BK7 HB BKX
            have HI := n0_
            have BK6 := n1_
            have BK7 := n2_
            have HB := n3_
            have BKX := n4_
            clear n0_ n1_ n2_ n3_ n4_
            clear hi hb hk
            have MZ0 := Aside0.mk (milestonelaw15_SourcePlays.m0 M k hk18)
            have MZ1 := Aside0.mk (milestonelaw15_SourcePlays.m1 M k hk18)
            have HZ0 := Aside0.mk (milestonelaw15_SourcePlays.h0 H k hk18)
            have z7 : u6.cell? ⟨g7, k, none⟩ = some (.bool (H k)) := (blk_cell BK7.out k).trans HZ0.out
            cases hH : H k
            · rw [hH] at z7
              clear HMM HMA HWA hH
              go_wp2_with (fail)
              repeat (go_quiet (fail))
              clear z7
              go_wp2_with (fail)
              go_roundg (18 - (k + 1))
              case measure => omega
              case rel => exact ⟨k + 1, by go_num, by omega, Nat.le_refl _, ⟨HI.out.drewN _⟩, ⟨blk_drewN BK6.out _⟩, ⟨blk_drewN BK7.out _⟩, ⟨pw_below_drewN HB.out _⟩⟩
            · rw [hH] at z7
              obtain ⟨rfl, rfl, hc⟩ := HMM.out hH
              have hw : IntKind.u16.wrap ((M k).1 + 1) = mc := hc.symm
              have z60 : u6.cell? ⟨g6, k * 2, none⟩ = some (.int .u16 (M k).1) := (blk_cell BK6.out (k * 2)).trans MZ0.out
              have z61 : u6.cell? ⟨g6, k * 2 + 1, none⟩ = some (.int .u16 (M k).2) := (blk_cell BK6.out (k * 2 + 1)).trans MZ1.out
              have zx0 : u6.cell? ⟨g14, 0, none⟩ = some (.int .u16 (M k).1) := (blk_cell BKX.out 0).trans rfl
              have zx1 : u6.cell? ⟨g14, 1, none⟩ = some (.int .u16 (M k).2) := (blk_cell BKX.out 1).trans rfl
              clear HMM HMA HWA hH hc
              generalize (M k).1 = y1 at *
              generalize (M k).2 = y2 at *
              go_wp2_with (fail)
              repeat (go_quiet (fail))
              clear z7 z60 z61 zx0 zx1 hw
              go_wp2_with (fail)
              go_roundg (18 - (k + 1))
              case measure => omega
              case rel => exact ⟨k + 1, by go_num, by omega, Nat.le_refl _, ⟨HI.out.drewN _⟩, ⟨blk_drewN BK6.out _⟩, ⟨blk_drewN BK7.out _⟩, ⟨pw_below_drewN HB.out _⟩⟩
          · have q0 : (jj != (k : Int)) = true := bne_iff_ne.mpr hjk
            clear hjk H3
            go_wp2_with (fail)
            go_roundg (18 - (k + 1))
            case measure => omega
            case rel => exact ⟨k + 1, by go_num, by omega, Nat.le_refl _, HI, BK6, BK7, HB⟩
        · have p1 : decide ((k : Int) < 18) = false := decide_eq_false (by omega)
          go_wp2_with (fail)
          go_loopg [18] l1.length (fun kx s18 wr => ∃ (j : Nat), s18 = .int .i64 j ∧ j ≤ l1.length ∧ l1.length - j ≤ kx ∧ Aside0 (IsS64 w wr g T) ∧ Aside0 (wr.heap[g6]? = some (.cells (milestonelaw15_SourcePlays.mC M) 54 (0, 0))) ∧ Aside0 (wr.heap[g7]? = some (.cells (milestonelaw15_SourcePlays.hC H) 55 (0, 0))) ∧ Aside0 (Below w.heap.size w wr))
          case atStart => exact ⟨0, rfl, Nat.zero_le _, Nat.le_refl _, HI, BK6, BK7, HB⟩
          case round =>
            clear HI BK6 BK7 HB
            obtain ⟨j, rfl, hj3, hgas3, HI, BK6, BK7, HB⟩ := hrel
            by_cases hlt : j < l1.length
            · have p1 : decide ((j : Int) < (l1.length : Int)) = true := decide_eq_true (by omega)
              have p2 : decide (0 ≤ (j : Int)) = true := decide_eq_true (by omega)
              obtain ⟨X, hX⟩ : ∃ X : S25, X = rd_T25 l1 (j : Int) := ⟨_, rfl⟩
              have hwx := HW1.out X (by
                rw [hX]
                show l1.getD (j : Int).toNat z25 ∈ l1
                rw [Int.toNat_natCast, List.getD_eq_getElem?_getD, List.getElem?_eq_getElem hlt]
                exact List.getElem_mem hlt)
              have HXX := Aside0.mk hX
              clear hX
              obtain ⟨kk, k, pa, pn, qa, qn, r, b, h1, h2, hk18, h4, h5, h6, h7, h8, h9⟩ := ASKS.out T M H n X hwx INV.out
              have H1 := Aside0.mk h1
              have H2 := Aside0.mk h2
              have H4 := Aside0.mk h4
              have H5 := Aside0.mk h5
              have H6 := Aside0.mk h6
              have H7 := Aside0.mk h7
              have H8 := Aside0.mk h8
              have H9 := Aside0.mk h9
              clear h1 h2 h4 h5 h6 h7 h8 h9 hwx
              obtain ⟨ad1, e0, hx0, hx1, hx2⟩ := at_T25 (Kd.C_below HR1.out HB.out) (j : Int) (by omega) (by omega)
              cases e0
              simp only [Int.toNat_natCast] at hx0 hx1 hx2
              rw [← HXX.out] at hx0 hx1 hx2
              go_wp2_with (fail)
              refine (milestoneref07_Prefix.calls kk X.f0 pa pn _ H1.out).mono ?_
              rintro e_ w1 ⟨rfl, hb⟩
              have n0_ := Aside0.mk (HI.out.below hb)
              have n1_ := Aside0.mk (blk_below BK6.out hb)
              have n2_ := Aside0.mk (blk_below BK7.out hb)
              have n3_ := Aside0.mk (below_step HB.out hb)
              clear HI BK6 BK7 HB
              have HI := n0_
              have BK6 := n1_
              have BK7 := n2_
              have HB := n3_
              clear n0_ n1_ n2_ n3_
              clear hb
              clear hx0 hx1 hx2
              go_wp2_with (fail)
              refine (milestoneref07_First.calls kk pa pn (k : Int) _ H2.out).mono ?_
              rintro e_ w2 ⟨rfl, hb⟩
              have n0_ := Aside0.mk (HI.out.below hb)
              have n1_ := Aside0.mk (blk_below BK6.out hb)
              have n2_ := Aside0.mk (blk_below BK7.out hb)
              have n3_ := Aside0.mk (below_step HB.out hb)
              clear HI BK6 BK7 HB
              have HI := n0_
              have BK6 := n1_
              have BK7 := n2_
              have HB := n3_
              clear n0_ n1_ n2_ n3_
              clear hb
              obtain ⟨ad2, e0, hx0, hx1, hx2⟩ := at_T25 (Kd.C_below HR1.out HB.out) (j : Int) (by omega) (by omega)
              cases e0
              simp only [Int.toNat_natCast] at hx0 hx1 hx2
              rw [← HXX.out] at hx0 hx1 hx2
              go_wp2_with (fail)
              refine (milestonelaw15_mark.calls X.f0 X.f1 X.f2 r X.f2 _ H4.out).mono ?_
              rintro e_ w3 ⟨rfl, hb⟩
              have n0_ := Aside0.mk (HI.out.below hb)
              have n1_ := Aside0.mk (blk_below BK6.out hb)
              have n2_ := Aside0.mk (blk_below BK7.out hb)
              have n3_ := Aside0.mk (below_step HB.out hb)
              clear HI BK6 BK7 HB
              have HI := n0_
              have BK6 := n1_
              have BK7 := n2_
              have HB := n3_
              clear n0_ n1_ n2_ n3_
              clear hb
              clear hx0 hx1 hx2
              go_upto_region 36 with (fail)
              obtain ⟨g11, hg11⟩ : ∃ x : Nat, x = w3.heap.size := ⟨_, rfl⟩
              obtain ⟨V, hV⟩ : ∃ x : World, x = w3.alloc (.cells #[.int .u16 r, .int .u16 X.f2] 36 (0, 0)) := ⟨_, rfl⟩
              rw [← hV, ← hg11]
              have BKX := Aside0.mk (show V.heap[g11]? = some (.cells #[.int .u16 r, .int .u16 X.f2] 36 (0, 0)) from by rw [hV, hg11]; exact heap_alloc_new _ _)
              have hb : Below w3.heap.size w3 V := by rw [hV]; exact below_alloc (Below.refl _ _) _
              have n0_ := Aside0.mk (HI.out.below hb)
              have n1_ := Aside0.mk (blk_below BK6.out hb)
              have n2_ := Aside0.mk (blk_below BK7.out hb)
              have n3_ := Aside0.mk (below_step HB.out hb)
              clear HI BK6 BK7 HB
              have HI := n0_
              have BK6 := n1_
              have BK7 := n2_
              have HB := n3_
              clear n0_ n1_ n2_ n3_
              clear hV hg11 hb
              have wq : IntKind.u8.wrap (k : Int) = (k : Int) := by show (_ % 256 : Int) = _; omega
              have i1 : decide (0 ≤ (k : Int)) = true := decide_eq_true (by omega)
              have i2 : decide ((k : Int) < 18) = true := decide_eq_true (by omega)
              have i3 : decide (k < 18) = true := decide_eq_true (by omega)
              have i4 : ((k : Int) < 18) = True := eq_true (by omega)
              have i5 : (k < 18) = True := eq_true (by omega)
              have MZ0 := Aside0.mk (milestonelaw15_SourcePlays.m0 M k hk18)
              have MZ1 := Aside0.mk (milestonelaw15_SourcePlays.m1 M k hk18)
              have HZ0 := Aside0.mk (milestonelaw15_SourcePlays.h0 H k hk18)
              have n0_ := Aside0.mk (HI.out.drew)
              have n1_ := Aside0.mk (blk_drew BK6.out)
              have n2_ := Aside0.mk (blk_drew BK7.out)
              have n3_ := Aside0.mk (below_drew1 HB.out)
              have n4_ := Aside0.mk (blk_drew BKX.out)
              clear HI BK6 BK7 HB BKX
              have HI := n0_
              have BK6 := n1_
              have BK7 := n2_
              have HB := n3_
              have BKX := n4_
              clear n0_ n1_ n2_ n3_ n4_
              by_cases hm : X.f2 = 65535
              · have q0 : (X.f2 == 65535) = true := beq_iff_eq.mpr hm
                obtain rfl : b = true := H7.out hm
                clear hm H7 H8 H9
                refine start_ (n := 23) (S := fun w' => w'.cell? ⟨g11, 0, none⟩ = some (.int .u16 r) ∧ w'.cell? ⟨g11, 1, none⟩ = some (.int .u16 X.f2)) (ds := []) #[false, false, false, false, false, false, false, false, false, false, false, false, false, false, false, false, false, false, false, false, false, false, false] (by kernel_rfl) rfl rfl ⟨(blk_cell BKX.out 0).trans rfl, (blk_cell BKX.out 1).trans rfl⟩ (fun hHeld => ?_)
                generalize V.drew = wd at HI BK6 BK7 HB BKX hHeld ⊢
                refine pure_ (i := 0) (N := some 159) (v := ?_) (a' := ?_) #[true, false, false, false, false, false, false, false, false, false, false, false, false, false, false, false, false, false, false, false, false, false, false] rfl rfl (by kernel_rfl) (fun _ _ _ h => h) (Or.inl ⟨by rfl, ?_⟩) ?_ ?_
                rotate_left
                · intro w'
                  go_simp
                  with_reducible rfl
                rotate_left
                · simp only [Act.put, List.setIfInBounds_toArray, List.set_cons_zero, List.set_cons_succ, i64_w, i32_w]
                  rfl
                refine pure_ (i := 1) (N := some 160) (v := ?_) (a' := ?_) #[true, true, false, false, false, false, false, false, false, false, false, false, false, false, false, false, false, false, false, false, false, false, false] rfl rfl (by kernel_rfl) (fun _ _ _ h => h) (Or.inl ⟨by rfl, ?_⟩) ?_ ?_
                rotate_left
                · intro w'
                  go_simp
                  with_reducible rfl
                rotate_left
                · simp only [Act.put, List.setIfInBounds_toArray, List.set_cons_zero, List.set_cons_succ, i64_w, i32_w]
                  rfl
                refine pure_ (i := 2) (N := some 161) (v := ?_) (a' := ?_) #[true, true, true, false, false, false, false, false, false, false, false, false, false, false, false, false, false, false, false, false, false, false, false] rfl rfl (by kernel_rfl) (fun _ _ _ h => h) (Or.inl ⟨by rfl, ?_⟩) ?_ ?_
                rotate_left
                · intro w'
                  go_simp
                  with_reducible rfl
                rotate_left
                · simp only [Act.put, List.setIfInBounds_toArray, List.set_cons_zero, List.set_cons_succ, i64_w, i32_w]
                  rfl
                refine pure_ (i := 6) (N := some 165) (v := ?_) (a' := ?_) #[true, true, true, false, false, false, true, false, false, false, false, false, false, false, false, false, false, false, false, false, false, false, false] rfl rfl (by kernel_rfl) (fun _ _ _ h => h) (Or.inl ⟨by rfl, ?_⟩) ?_ ?_
                rotate_left
                · intro w'
                  go_simp
                  with_reducible rfl
                rotate_left
                · simp only [Act.put, List.setIfInBounds_toArray, List.set_cons_zero, List.set_cons_succ, i64_w, i32_w]
                  rfl
                refine take_ (i := 4) (N := some 163) (v := ?_) (a' := ?_) #[true, true, true, false, true, false, true, false, false, false, false, false, false, false, false, false, false, false, false, false, false, false, false] rfl rfl (by kernel_rfl) (fun _ _ _ h => h) (Or.inl ⟨by rfl, ?_⟩) hHeld ?_ ?_
                rotate_left
                · rintro w' ⟨s0, s1⟩
                  go_simp
                  with_reducible rfl
                rotate_left
                · simp only [Act.put, List.setIfInBounds_toArray, List.set_cons_zero, List.set_cons_succ, i64_w, i32_w]
                  rfl
                refine take_ (i := 7) (N := some 166) (v := ?_) (a' := ?_) #[true, true, true, false, true, false, true, true, false, false, false, false, false, false, false, false, false, false, false, false, false, false, false] rfl rfl (by kernel_rfl) (fun _ _ _ h => h) (Or.inl ⟨by rfl, ?_⟩) hHeld ?_ ?_
                rotate_left
                · rintro w' ⟨s0, s1⟩
                  go_simp
                  with_reducible rfl
                rotate_left
                · simp only [Act.put, List.setIfInBounds_toArray, List.set_cons_zero, List.set_cons_succ, i64_w, i32_w]
                  rfl
                refine pure_ (i := 8) (N := some 167) (v := ?_) (a' := ?_) #[true, true, true, false, true, false, true, true, true, false, false, false, false, false, false, false, false, false, false, false, false, false, false] rfl rfl (by kernel_rfl) (fun _ _ _ h => h) (Or.inl ⟨by rfl, ?_⟩) ?_ ?_
                rotate_left
                · intro w'
                  go_simp
                  with_reducible rfl
                rotate_left
                · simp only [Act.put, List.setIfInBounds_toArray, List.set_cons_zero, List.set_cons_succ, i64_w, i32_w]
                  rfl
                refine one_ (i := 3) (N := some 162) #[true, true, true, true, true, false, true, true, true, false, false, false, false, false, false, false, false, false, false, false, false, false, false] rfl rfl (by kernel_rfl) (by decide) (fun K hK => ?_)
                refine goes_ Try.func8 (by kernel_rfl) rfl #[.int .u8 (k : Int)] (by rfl) rfl rfl (by simp only [List.map_toArray, List.map_cons, List.map_nil]; rfl) ?_
                with_reducible refine (milestoneref07_Prefix.calls kk (k : Int) qa qn _ H5.out).mono ?_
                rintro e_ wp1 ⟨rfl, hb⟩
                refine ⟨_, rfl, ?_⟩
                have n0_ := Aside0.mk (HI.out.below hb)
                have n1_ := Aside0.mk (blk_below BK6.out hb)
                have n2_ := Aside0.mk (blk_below BK7.out hb)
                have n3_ := Aside0.mk (below_step HB.out hb)
                have n4_ := Aside0.mk (blk_below BKX.out hb)
                clear HI BK6 BK7 HB BKX
                have HI := n0_
                have BK6 := n1_
                have BK7 := n2_
                have HB := n3_
                have BKX := n4_
                clear n0_ n1_ n2_ n3_ n4_
                clear hb
                refine hK.out _ _ ⟨(blk_cell BKX.out 0).trans rfl, (blk_cell BKX.out 1).trans rfl⟩ (fun hHeld => ?_)
                clear hK K
                refine norm_ (a' := ?_) ?_ ?_
                rotate_left
                · show Act.put _ (some 162) _ = _
                  simp only [Act.put, List.setIfInBounds_toArray, List.set_cons_zero, List.set_cons_succ, i64_w, i32_w]
                  rfl
                refine one_ (i := 5) (N := some 164) #[true, true, true, true, true, true, true, true, true, false, false, false, false, false, false, false, false, false, false, false, false, false, false] rfl rfl (by kernel_rfl) (by decide) (fun K hK => ?_)
                refine goes_ Try.func11 (by kernel_rfl) rfl #[.pointer (some ⟨g, 0, none⟩), .agg #[.int .u32 qa, .int .u8 qn], .agg #[.int .u16 r, .int .u16 X.f2]] (by rfl) rfl rfl (by simp only [List.map_toArray, List.map_cons, List.map_nil]; rfl) ?_
                with_reducible refine (source_Source_Feasible.calls g T qa qn r X.f2 true T w _ HI.out HB.out H6.out).mono ?_
                rintro e_ wp2 ⟨rfl, hi, hb, hk⟩
                refine ⟨_, rfl, ?_⟩
                have n0_ := Aside0.mk (hi)
                have n1_ := Aside0.mk (hk.blk BK6.out rfl (by decide) (by decide))
                have n2_ := Aside0.mk (hk.blk BK7.out rfl (by decide) (by decide))
                have n3_ := Aside0.mk (hb)
                have n4_ := Aside0.mk (hk.blk BKX.out rfl (by decide) (by decide))
                clear HI BK6 BK7 HB BKX
                have HI := n0_
                have BK6 := n1_
                have BK7 := n2_
                have HB := n3_
                have BKX := n4_
                clear n0_ n1_ n2_ n3_ n4_
                clear hi hb hk
                refine hK.out _ _ ⟨(blk_cell BKX.out 0).trans rfl, (blk_cell BKX.out 1).trans rfl⟩ (fun hHeld => ?_)
                clear hK K
                refine norm_ (a' := ?_) ?_ ?_
                rotate_left
                · show Act.put _ (some 164) _ = _
                  simp only [Act.put, List.setIfInBounds_toArray, List.set_cons_zero, List.set_cons_succ, i64_w, i32_w]
                  rfl
                refine pure_ (i := 9) (N := some 168) (v := ?_) (a' := ?_) #[true, true, true, true, true, true, true, true, true, true, false, false, false, false, false, false, false, false, false, false, false, false, false] rfl rfl (by kernel_rfl) (fun _ _ _ h => h) (Or.inl ⟨by rfl, ?_⟩) ?_ ?_
                rotate_left
                · intro w'
                  go_simp
                  with_reducible rfl
                rotate_left
                · simp only [Act.put, List.setIfInBounds_toArray, List.set_cons_zero, List.set_cons_succ, i64_w, i32_w]
                  rfl
                refine pure_ (i := 10) (N := some 169) (v := undef) (a' := ?_) #[true, true, true, true, true, true, true, true, true, true, true, false, false, false, false, false, false, false, false, false, false, false, false] rfl rfl (by kernel_rfl) (fun _ _ _ h => h) (Or.inr ⟨by rfl, rfl⟩) ?_ ?_
                rotate_left
                · simp only [Act.put, List.setIfInBounds_toArray, List.set_cons_zero, List.set_cons_succ, i64_w, i32_w]
                  rfl
                refine pure_ (i := 11) (N := some 170) (v := undef) (a' := ?_) #[true, true, true, true, true, true, true, true, true, true, true, true, false, false, false, false, false, false, false, false, false, false, false] rfl rfl (by kernel_rfl) (fun _ _ _ h => h) (Or.inr ⟨by rfl, rfl⟩) ?_ ?_
                rotate_left
                · simp only [Act.put, List.setIfInBounds_toArray, List.set_cons_zero, List.set_cons_succ, i64_w, i32_w]
                  rfl
                refine pure_ (i := 12) (N := some 171) (v := undef) (a' := ?_) #[true, true, true, true, true, true, true, true, true, true, true, true, true, false, false, false, false, false, false, false, false, false, false] rfl rfl (by kernel_rfl) (fun _ _ _ h => h) (Or.inr ⟨by rfl, rfl⟩) ?_ ?_
                rotate_left
                · simp only [Act.put, List.setIfInBounds_toArray, List.set_cons_zero, List.set_cons_succ, i64_w, i32_w]
                  rfl
                refine pure_ (i := 13) (N := some 172) (v := undef) (a' := ?_) #[true, true, true, true, true, true, true, true, true, true, true, true, true, true, false, false, false, false, false, false, false, false, false] rfl rfl (by kernel_rfl) (fun _ _ _ h => h) (Or.inr ⟨by rfl, rfl⟩) ?_ ?_
                rotate_left
                · simp only [Act.put, List.setIfInBounds_toArray, List.set_cons_zero, List.set_cons_succ, i64_w, i32_w]
                  rfl
                refine pure_ (i := 14) (N := some 173) (v := ?_) (a' := ?_) #[true, true, true, true, true, true, true, true, true, true, true, true, true, true, true, false, false, false, false, false, false, false, false] rfl rfl (by kernel_rfl) (fun _ _ _ h => h) (Or.inl ⟨by rfl, ?_⟩) ?_ ?_
                rotate_left
                · intro w'
                  go_simp
                  with_reducible rfl
                rotate_left
                · simp only [Act.put, List.setIfInBounds_toArray, List.set_cons_zero, List.set_cons_succ, i64_w, i32_w]
                  rfl
                refine pure_ (i := 15) (N := some 174) (v := ?_) (a' := ?_) #[true, true, true, true, true, true, true, true, true, true, true, true, true, true, true, true, false, false, false, false, false, false, false] rfl rfl (by kernel_rfl) (fun _ _ _ h => h) (Or.inl ⟨by rfl, ?_⟩) ?_ ?_
                rotate_left
                · intro w'
                  go_simp
                  with_reducible rfl
                rotate_left
                · simp only [Act.put, List.setIfInBounds_toArray, List.set_cons_zero, List.set_cons_succ, i64_w, i32_w]
                  rfl
                refine pure_ (i := 16) (N := some 175) (v := undef) (a' := ?_) #[true, true, true, true, true, true, true, true, true, true, true, true, true, true, true, true, true, false, false, false, false, false, false] rfl rfl (by kernel_rfl) (fun _ _ _ h => h) (Or.inr ⟨by rfl, rfl⟩) ?_ ?_
                rotate_left
                · simp only [Act.put, List.setIfInBounds_toArray, List.set_cons_zero, List.set_cons_succ, i64_w, i32_w]
                  rfl
                refine pure_ (i := 17) (N := some 176) (v := undef) (a' := ?_) #[true, true, true, true, true, true, true, true, true, true, true, true, true, true, true, true, true, true, false, false, false, false, false] rfl rfl (by kernel_rfl) (fun _ _ _ h => h) (Or.inr ⟨by rfl, rfl⟩) ?_ ?_
                rotate_left
                · simp only [Act.put, List.setIfInBounds_toArray, List.set_cons_zero, List.set_cons_succ, i64_w, i32_w]
                  rfl
                refine pure_ (i := 18) (N := some 177) (v := undef) (a' := ?_) #[true, true, true, true, true, true, true, true, true, true, true, true, true, true, true, true, true, true, true, false, false, false, false] rfl rfl (by kernel_rfl) (fun _ _ _ h => h) (Or.inr ⟨by rfl, rfl⟩) ?_ ?_
                rotate_left
                · simp only [Act.put, List.setIfInBounds_toArray, List.set_cons_zero, List.set_cons_succ, i64_w, i32_w]
                  rfl
                refine pure_ (i := 19) (N := some 178) (v := undef) (a' := ?_) #[true, true, true, true, true, true, true, true, true, true, true, true, true, true, true, true, true, true, true, true, false, false, false] rfl rfl (by kernel_rfl) (fun _ _ _ h => h) (Or.inr ⟨by rfl, rfl⟩) ?_ ?_
                rotate_left
                · simp only [Act.put, List.setIfInBounds_toArray, List.set_cons_zero, List.set_cons_succ, i64_w, i32_w]
                  rfl
                refine pure_ (i := 20) (N := some 179) (v := undef) (a' := ?_) #[true, true, true, true, true, true, true, true, true, true, true, true, true, true, true, true, true, true, true, true, true, false, false] rfl rfl (by kernel_rfl) (fun _ _ _ h => h) (Or.inr ⟨by rfl, rfl⟩) ?_ ?_
                rotate_left
                · simp only [Act.put, List.setIfInBounds_toArray, List.set_cons_zero, List.set_cons_succ, i64_w, i32_w]
                  rfl
                refine pure_ (i := 21) (N := some 180) (v := ?_) (a' := ?_) #[true, true, true, true, true, true, true, true, true, true, true, true, true, true, true, true, true, true, true, true, true, true, false] rfl rfl (by kernel_rfl) (fun _ _ _ h => h) (Or.inl ⟨by rfl, ?_⟩) ?_ ?_
                rotate_left
                · intro w'
                  go_simp
                  with_reducible rfl
                rotate_left
                · simp only [Act.put, List.setIfInBounds_toArray, List.set_cons_zero, List.set_cons_succ, i64_w, i32_w]
                  rfl
                refine pure_ (i := 22) (N := some 181) (v := ?_) (a' := ?_) #[true, true, true, true, true, true, true, true, true, true, true, true, true, true, true, true, true, true, true, true, true, true, true] rfl rfl (by kernel_rfl) (fun _ _ _ h => h) (Or.inl ⟨by rfl, ?_⟩) ?_ ?_
                rotate_left
                · intro w'
                  go_simp
                  with_reducible rfl
                rotate_left
                · simp only [Act.put, List.setIfInBounds_toArray, List.set_cons_zero, List.set_cons_succ, i64_w, i32_w]
                  rfl
                refine done_ (by kernel_rfl) ?_
                clear hHeld
                go_wp2_with (fail)
                go_roundg (l1.length - (j + 1))
                case measure => omega
                case rel => exact ⟨j + 1, by go_num, by omega, Nat.le_refl _, HI, BK6, BK7, HB⟩
              · have q0 : (X.f2 == 65535) = false := beq_eq_false_iff_ne.mpr hm
                cases hH : H k
                · rw [hH] at HZ0
                  obtain rfl : b = true := H8.out hm hH
                  clear hm hH H7 H8 H9
                  refine start_ (n := 23) (S := fun w' => w'.cell? ⟨g11, 0, none⟩ = some (.int .u16 r) ∧ w'.cell? ⟨g11, 1, none⟩ = some (.int .u16 X.f2) ∧ w'.cell? ⟨g7, k, none⟩ = some (.bool false)) (ds := []) #[false, false, false, false, false, false, false, false, false, false, false, false, false, false, false, false, false, false, false, false, false, false, false] (by kernel_rfl) rfl rfl ⟨(blk_cell BKX.out 0).trans rfl, (blk_cell BKX.out 1).trans rfl, (blk_cell BK7.out k).trans HZ0.out⟩ (fun hHeld => ?_)
                  generalize V.drew = wd at HI BK6 BK7 HB BKX hHeld ⊢
                  refine pure_ (i := 0) (N := some 159) (v := ?_) (a' := ?_) #[true, false, false, false, false, false, false, false, false, false, false, false, false, false, false, false, false, false, false, false, false, false, false] rfl rfl (by kernel_rfl) (fun _ _ _ h => h) (Or.inl ⟨by rfl, ?_⟩) ?_ ?_
                  rotate_left
                  · intro w'
                    go_simp
                    with_reducible rfl
                  rotate_left
                  · simp only [Act.put, List.setIfInBounds_toArray, List.set_cons_zero, List.set_cons_succ, i64_w, i32_w]
                    rfl
                  refine pure_ (i := 1) (N := some 160) (v := ?_) (a' := ?_) #[true, true, false, false, false, false, false, false, false, false, false, false, false, false, false, false, false, false, false, false, false, false, false] rfl rfl (by kernel_rfl) (fun _ _ _ h => h) (Or.inl ⟨by rfl, ?_⟩) ?_ ?_
                  rotate_left
                  · intro w'
                    go_simp
                    with_reducible rfl
                  rotate_left
                  · simp only [Act.put, List.setIfInBounds_toArray, List.set_cons_zero, List.set_cons_succ, i64_w, i32_w]
                    rfl
                  refine pure_ (i := 2) (N := some 161) (v := ?_) (a' := ?_) #[true, true, true, false, false, false, false, false, false, false, false, false, false, false, false, false, false, false, false, false, false, false, false] rfl rfl (by kernel_rfl) (fun _ _ _ h => h) (Or.inl ⟨by rfl, ?_⟩) ?_ ?_
                  rotate_left
                  · intro w'
                    go_simp
                    with_reducible rfl
                  rotate_left
                  · simp only [Act.put, List.setIfInBounds_toArray, List.set_cons_zero, List.set_cons_succ, i64_w, i32_w]
                    rfl
                  refine pure_ (i := 6) (N := some 165) (v := ?_) (a' := ?_) #[true, true, true, false, false, false, true, false, false, false, false, false, false, false, false, false, false, false, false, false, false, false, false] rfl rfl (by kernel_rfl) (fun _ _ _ h => h) (Or.inl ⟨by rfl, ?_⟩) ?_ ?_
                  rotate_left
                  · intro w'
                    go_simp
                    with_reducible rfl
                  rotate_left
                  · simp only [Act.put, List.setIfInBounds_toArray, List.set_cons_zero, List.set_cons_succ, i64_w, i32_w]
                    rfl
                  refine take_ (i := 4) (N := some 163) (v := ?_) (a' := ?_) #[true, true, true, false, true, false, true, false, false, false, false, false, false, false, false, false, false, false, false, false, false, false, false] rfl rfl (by kernel_rfl) (fun _ _ _ h => h) (Or.inl ⟨by rfl, ?_⟩) hHeld ?_ ?_
                  rotate_left
                  · rintro w' ⟨s0, s1, s2⟩
                    go_simp
                    with_reducible rfl
                  rotate_left
                  · simp only [Act.put, List.setIfInBounds_toArray, List.set_cons_zero, List.set_cons_succ, i64_w, i32_w]
                    rfl
                  refine take_ (i := 7) (N := some 166) (v := ?_) (a' := ?_) #[true, true, true, false, true, false, true, true, false, false, false, false, false, false, false, false, false, false, false, false, false, false, false] rfl rfl (by kernel_rfl) (fun _ _ _ h => h) (Or.inl ⟨by rfl, ?_⟩) hHeld ?_ ?_
                  rotate_left
                  · rintro w' ⟨s0, s1, s2⟩
                    go_simp
                    with_reducible rfl
                  rotate_left
                  · simp only [Act.put, List.setIfInBounds_toArray, List.set_cons_zero, List.set_cons_succ, i64_w, i32_w]
                    rfl
                  refine pure_ (i := 8) (N := some 167) (v := ?_) (a' := ?_) #[true, true, true, false, true, false, true, true, true, false, false, false, false, false, false, false, false, false, false, false, false, false, false] rfl rfl (by kernel_rfl) (fun _ _ _ h => h) (Or.inl ⟨by rfl, ?_⟩) ?_ ?_
                  rotate_left
                  · intro w'
                    go_simp
                    with_reducible rfl
                  rotate_left
                  · simp only [Act.put, List.setIfInBounds_toArray, List.set_cons_zero, List.set_cons_succ, i64_w, i32_w]
                    rfl
                  refine one_ (i := 3) (N := some 162) #[true, true, true, true, true, false, true, true, true, false, false, false, false, false, false, false, false, false, false, false, false, false, false] rfl rfl (by kernel_rfl) (by decide) (fun K hK => ?_)
                  refine goes_ Try.func8 (by kernel_rfl) rfl #[.int .u8 (k : Int)] (by rfl) rfl rfl (by simp only [List.map_toArray, List.map_cons, List.map_nil]; rfl) ?_
                  with_reducible refine (milestoneref07_Prefix.calls kk (k : Int) qa qn _ H5.out).mono ?_
                  rintro e_ wp1 ⟨rfl, hb⟩
                  refine ⟨_, rfl, ?_⟩
                  have n0_ := Aside0.mk (HI.out.below hb)
                  have n1_ := Aside0.mk (blk_below BK6.out hb)
                  have n2_ := Aside0.mk (blk_below BK7.out hb)
                  have n3_ := Aside0.mk (below_step HB.out hb)
                  have n4_ := Aside0.mk (blk_below BKX.out hb)
                  clear HI BK6 BK7 HB BKX
                  have HI := n0_
                  have BK6 := n1_
                  have BK7 := n2_
                  have HB := n3_
                  have BKX := n4_
                  clear n0_ n1_ n2_ n3_ n4_
                  clear hb
                  refine hK.out _ _ ⟨(blk_cell BKX.out 0).trans rfl, (blk_cell BKX.out 1).trans rfl, (blk_cell BK7.out k).trans HZ0.out⟩ (fun hHeld => ?_)
                  clear hK K
                  refine norm_ (a' := ?_) ?_ ?_
                  rotate_left
                  · show Act.put _ (some 162) _ = _
                    simp only [Act.put, List.setIfInBounds_toArray, List.set_cons_zero, List.set_cons_succ, i64_w, i32_w]
                    rfl
                  refine one_ (i := 5) (N := some 164) #[true, true, true, true, true, true, true, true, true, false, false, false, false, false, false, false, false, false, false, false, false, false, false] rfl rfl (by kernel_rfl) (by decide) (fun K hK => ?_)
                  refine goes_ Try.func11 (by kernel_rfl) rfl #[.pointer (some ⟨g, 0, none⟩), .agg #[.int .u32 qa, .int .u8 qn], .agg #[.int .u16 r, .int .u16 X.f2]] (by rfl) rfl rfl (by simp only [List.map_toArray, List.map_cons, List.map_nil]; rfl) ?_
                  with_reducible refine (source_Source_Feasible.calls g T qa qn r X.f2 true T w _ HI.out HB.out H6.out).mono ?_
                  rintro e_ wp2 ⟨rfl, hi, hb, hk⟩
                  refine ⟨_, rfl, ?_⟩
                  have n0_ := Aside0.mk (hi)
                  have n1_ := Aside0.mk (hk.blk BK6.out rfl (by decide) (by decide))
                  have n2_ := Aside0.mk (hk.blk BK7.out rfl (by decide) (by decide))
                  have n3_ := Aside0.mk (hb)
                  have n4_ := Aside0.mk (hk.blk BKX.out rfl (by decide) (by decide))
                  clear HI BK6 BK7 HB BKX
                  have HI := n0_
                  have BK6 := n1_
                  have BK7 := n2_
                  have HB := n3_
                  have BKX := n4_
                  clear n0_ n1_ n2_ n3_ n4_
                  clear hi hb hk
                  refine hK.out _ _ ⟨(blk_cell BKX.out 0).trans rfl, (blk_cell BKX.out 1).trans rfl, (blk_cell BK7.out k).trans HZ0.out⟩ (fun hHeld => ?_)
                  clear hK K
                  refine norm_ (a' := ?_) ?_ ?_
                  rotate_left
                  · show Act.put _ (some 164) _ = _
                    simp only [Act.put, List.setIfInBounds_toArray, List.set_cons_zero, List.set_cons_succ, i64_w, i32_w]
                    rfl
                  refine pure_ (i := 9) (N := some 168) (v := ?_) (a' := ?_) #[true, true, true, true, true, true, true, true, true, true, false, false, false, false, false, false, false, false, false, false, false, false, false] rfl rfl (by kernel_rfl) (fun _ _ _ h => h) (Or.inl ⟨by rfl, ?_⟩) ?_ ?_
                  rotate_left
                  · intro w'
                    go_simp
                    with_reducible rfl
                  rotate_left
                  · simp only [Act.put, List.setIfInBounds_toArray, List.set_cons_zero, List.set_cons_succ, i64_w, i32_w]
                    rfl
                  refine pure_ (i := 10) (N := some 169) (v := ?_) (a' := ?_) #[true, true, true, true, true, true, true, true, true, true, true, false, false, false, false, false, false, false, false, false, false, false, false] rfl rfl (by kernel_rfl) (fun _ _ _ h => h) (Or.inl ⟨by rfl, ?_⟩) ?_ ?_
                  rotate_left
                  · intro w'
                    go_simp
                    with_reducible rfl
                  rotate_left
                  · simp only [Act.put, List.setIfInBounds_toArray, List.set_cons_zero, List.set_cons_succ, i64_w, i32_w]
                    rfl
                  refine pure_ (i := 11) (N := some 170) (v := ?_) (a' := ?_) #[true, true, true, true, true, true, true, true, true, true, true, true, false, false, false, false, false, false, false, false, false, false, false] rfl rfl (by kernel_rfl) (fun _ _ _ h => h) (Or.inl ⟨by rfl, ?_⟩) ?_ ?_
                  rotate_left
                  · intro w'
                    go_simp
                    with_reducible rfl
                  rotate_left
                  · simp only [Act.put, List.setIfInBounds_toArray, List.set_cons_zero, List.set_cons_succ, i64_w, i32_w]
                    rfl
                  refine take_ (i := 12) (N := some 171) (v := ?_) (a' := ?_) #[true, true, true, true, true, true, true, true, true, true, true, true, true, false, false, false, false, false, false, false, false, false, false] rfl rfl (by kernel_rfl) (fun _ _ _ h => h) (Or.inl ⟨by rfl, ?_⟩) hHeld ?_ ?_
                  rotate_left
                  · rintro w' ⟨s0, s1, s2⟩
                    go_simp
                    with_reducible rfl
                  rotate_left
                  · simp only [Act.put, List.setIfInBounds_toArray, List.set_cons_zero, List.set_cons_succ, i64_w, i32_w]
                    rfl
                  refine pure_ (i := 13) (N := some 172) (v := ?_) (a' := ?_) #[true, true, true, true, true, true, true, true, true, true, true, true, true, true, false, false, false, false, false, false, false, false, false] rfl rfl (by kernel_rfl) (fun _ _ _ h => h) (Or.inl ⟨by rfl, ?_⟩) ?_ ?_
                  rotate_left
                  · intro w'
                    go_simp
                    with_reducible rfl
                  rotate_left
                  · simp only [Act.put, List.setIfInBounds_toArray, List.set_cons_zero, List.set_cons_succ, i64_w, i32_w]
                    rfl
                  refine pure_ (i := 14) (N := some 173) (v := ?_) (a' := ?_) #[true, true, true, true, true, true, true, true, true, true, true, true, true, true, true, false, false, false, false, false, false, false, false] rfl rfl (by kernel_rfl) (fun _ _ _ h => h) (Or.inl ⟨by rfl, ?_⟩) ?_ ?_
                  rotate_left
                  · intro w'
                    go_simp
                    with_reducible rfl
                  rotate_left
                  · simp only [Act.put, List.setIfInBounds_toArray, List.set_cons_zero, List.set_cons_succ, i64_w, i32_w]
                    rfl
                  refine pure_ (i := 15) (N := some 174) (v := ?_) (a' := ?_) #[true, true, true, true, true, true, true, true, true, true, true, true, true, true, true, true, false, false, false, false, false, false, false] rfl rfl (by kernel_rfl) (fun _ _ _ h => h) (Or.inl ⟨by rfl, ?_⟩) ?_ ?_
                  rotate_left
                  · intro w'
                    go_simp
                    with_reducible rfl
                  rotate_left
                  · simp only [Act.put, List.setIfInBounds_toArray, List.set_cons_zero, List.set_cons_succ, i64_w, i32_w]
                    rfl
                  refine pure_ (i := 16) (N := some 175) (v := undef) (a' := ?_) #[true, true, true, true, true, true, true, true, true, true, true, true, true, true, true, true, true, false, false, false, false, false, false] rfl rfl (by kernel_rfl) (fun _ _ _ h => h) (Or.inr ⟨by rfl, rfl⟩) ?_ ?_
                  rotate_left
                  · simp only [Act.put, List.setIfInBounds_toArray, List.set_cons_zero, List.set_cons_succ, i64_w, i32_w]
                    rfl
                  refine pure_ (i := 17) (N := some 176) (v := undef) (a' := ?_) #[true, true, true, true, true, true, true, true, true, true, true, true, true, true, true, true, true, true, false, false, false, false, false] rfl rfl (by kernel_rfl) (fun _ _ _ h => h) (Or.inr ⟨by rfl, rfl⟩) ?_ ?_
                  rotate_left
                  · simp only [Act.put, List.setIfInBounds_toArray, List.set_cons_zero, List.set_cons_succ, i64_w, i32_w]
                    rfl
                  refine pure_ (i := 18) (N := some 177) (v := undef) (a' := ?_) #[true, true, true, true, true, true, true, true, true, true, true, true, true, true, true, true, true, true, true, false, false, false, false] rfl rfl (by kernel_rfl) (fun _ _ _ h => h) (Or.inr ⟨by rfl, rfl⟩) ?_ ?_
                  rotate_left
                  · simp only [Act.put, List.setIfInBounds_toArray, List.set_cons_zero, List.set_cons_succ, i64_w, i32_w]
                    rfl
                  refine pure_ (i := 19) (N := some 178) (v := undef) (a' := ?_) #[true, true, true, true, true, true, true, true, true, true, true, true, true, true, true, true, true, true, true, true, false, false, false] rfl rfl (by kernel_rfl) (fun _ _ _ h => h) (Or.inr ⟨by rfl, rfl⟩) ?_ ?_
                  rotate_left
                  · simp only [Act.put, List.setIfInBounds_toArray, List.set_cons_zero, List.set_cons_succ, i64_w, i32_w]
                    rfl
                  refine pure_ (i := 20) (N := some 179) (v := undef) (a' := ?_) #[true, true, true, true, true, true, true, true, true, true, true, true, true, true, true, true, true, true, true, true, true, false, false] rfl rfl (by kernel_rfl) (fun _ _ _ h => h) (Or.inr ⟨by rfl, rfl⟩) ?_ ?_
                  rotate_left
                  · simp only [Act.put, List.setIfInBounds_toArray, List.set_cons_zero, List.set_cons_succ, i64_w, i32_w]
                    rfl
                  refine pure_ (i := 21) (N := some 180) (v := ?_) (a' := ?_) #[true, true, true, true, true, true, true, true, true, true, true, true, true, true, true, true, true, true, true, true, true, true, false] rfl rfl (by kernel_rfl) (fun _ _ _ h => h) (Or.inl ⟨by rfl, ?_⟩) ?_ ?_
                  rotate_left
                  · intro w'
                    go_simp
                    with_reducible rfl
                  rotate_left
                  · simp only [Act.put, List.setIfInBounds_toArray, List.set_cons_zero, List.set_cons_succ, i64_w, i32_w]
                    rfl
                  refine pure_ (i := 22) (N := some 181) (v := ?_) (a' := ?_) #[true, true, true, true, true, true, true, true, true, true, true, true, true, true, true, true, true, true, true, true, true, true, true] rfl rfl (by kernel_rfl) (fun _ _ _ h => h) (Or.inl ⟨by rfl, ?_⟩) ?_ ?_
                  rotate_left
                  · intro w'
                    go_simp
                    with_reducible rfl
                  rotate_left
                  · simp only [Act.put, List.setIfInBounds_toArray, List.set_cons_zero, List.set_cons_succ, i64_w, i32_w]
                    rfl
                  refine done_ (by kernel_rfl) ?_
                  clear hHeld
                  go_wp2_with (fail)
                  go_roundg (l1.length - (j + 1))
                  case measure => omega
                  case rel => exact ⟨j + 1, by go_num, by omega, Nat.le_refl _, HI, BK6, BK7, HB⟩
                · rw [hH] at HZ0
                  have HNR := Aside0.mk (H9.out hm hH)
                  clear hm hH H7 H8 H9
                  refine start_ (n := 23) (S := fun w' => w'.cell? ⟨g11, 0, none⟩ = some (.int .u16 r) ∧ w'.cell? ⟨g11, 1, none⟩ = some (.int .u16 X.f2) ∧ w'.cell? ⟨g7, k, none⟩ = some (.bool true) ∧ w'.cell? ⟨g6, k * 2, none⟩ = some (.int .u16 (M k).1) ∧ w'.cell? ⟨g6, k * 2 + 1, none⟩ = some (.int .u16 (M k).2)) (ds := []) #[false, false, false, false, false, false, false, false, false, false, false, false, false, false, false, false, false, false, false, false, false, false, false] (by kernel_rfl) rfl rfl ⟨(blk_cell BKX.out 0).trans rfl, (blk_cell BKX.out 1).trans rfl, (blk_cell BK7.out k).trans HZ0.out, (blk_cell BK6.out (k * 2)).trans MZ0.out, (blk_cell BK6.out (k * 2 + 1)).trans MZ1.out⟩ (fun hHeld => ?_)
                  generalize V.drew = wd at HI BK6 BK7 HB BKX hHeld ⊢
                  refine pure_ (i := 0) (N := some 159) (v := ?_) (a' := ?_) #[true, false, false, false, false, false, false, false, false, false, false, false, false, false, false, false, false, false, false, false, false, false, false] rfl rfl (by kernel_rfl) (fun _ _ _ h => h) (Or.inl ⟨by rfl, ?_⟩) ?_ ?_
                  rotate_left
                  · intro w'
                    go_simp
                    with_reducible rfl
                  rotate_left
                  · simp only [Act.put, List.setIfInBounds_toArray, List.set_cons_zero, List.set_cons_succ, i64_w, i32_w]
                    rfl
                  refine pure_ (i := 1) (N := some 160) (v := ?_) (a' := ?_) #[true, true, false, false, false, false, false, false, false, false, false, false, false, false, false, false, false, false, false, false, false, false, false] rfl rfl (by kernel_rfl) (fun _ _ _ h => h) (Or.inl ⟨by rfl, ?_⟩) ?_ ?_
                  rotate_left
                  · intro w'
                    go_simp
                    with_reducible rfl
                  rotate_left
                  · simp only [Act.put, List.setIfInBounds_toArray, List.set_cons_zero, List.set_cons_succ, i64_w, i32_w]
                    rfl
                  refine pure_ (i := 2) (N := some 161) (v := ?_) (a' := ?_) #[true, true, true, false, false, false, false, false, false, false, false, false, false, false, false, false, false, false, false, false, false, false, false] rfl rfl (by kernel_rfl) (fun _ _ _ h => h) (Or.inl ⟨by rfl, ?_⟩) ?_ ?_
                  rotate_left
                  · intro w'
                    go_simp
                    with_reducible rfl
                  rotate_left
                  · simp only [Act.put, List.setIfInBounds_toArray, List.set_cons_zero, List.set_cons_succ, i64_w, i32_w]
                    rfl
                  refine pure_ (i := 6) (N := some 165) (v := ?_) (a' := ?_) #[true, true, true, false, false, false, true, false, false, false, false, false, false, false, false, false, false, false, false, false, false, false, false] rfl rfl (by kernel_rfl) (fun _ _ _ h => h) (Or.inl ⟨by rfl, ?_⟩) ?_ ?_
                  rotate_left
                  · intro w'
                    go_simp
                    with_reducible rfl
                  rotate_left
                  · simp only [Act.put, List.setIfInBounds_toArray, List.set_cons_zero, List.set_cons_succ, i64_w, i32_w]
                    rfl
                  refine take_ (i := 4) (N := some 163) (v := ?_) (a' := ?_) #[true, true, true, false, true, false, true, false, false, false, false, false, false, false, false, false, false, false, false, false, false, false, false] rfl rfl (by kernel_rfl) (fun _ _ _ h => h) (Or.inl ⟨by rfl, ?_⟩) hHeld ?_ ?_
                  rotate_left
                  · rintro w' ⟨s0, s1, s2, s3, s4⟩
                    go_simp
                    with_reducible rfl
                  rotate_left
                  · simp only [Act.put, List.setIfInBounds_toArray, List.set_cons_zero, List.set_cons_succ, i64_w, i32_w]
                    rfl
                  refine take_ (i := 7) (N := some 166) (v := ?_) (a' := ?_) #[true, true, true, false, true, false, true, true, false, false, false, false, false, false, false, false, false, false, false, false, false, false, false] rfl rfl (by kernel_rfl) (fun _ _ _ h => h) (Or.inl ⟨by rfl, ?_⟩) hHeld ?_ ?_
                  rotate_left
                  · rintro w' ⟨s0, s1, s2, s3, s4⟩
                    go_simp
                    with_reducible rfl
                  rotate_left
                  · simp only [Act.put, List.setIfInBounds_toArray, List.set_cons_zero, List.set_cons_succ, i64_w, i32_w]
                    rfl
                  refine pure_ (i := 8) (N := some 167) (v := ?_) (a' := ?_) #[true, true, true, false, true, false, true, true, true, false, false, false, false, false, false, false, false, false, false, false, false, false, false] rfl rfl (by kernel_rfl) (fun _ _ _ h => h) (Or.inl ⟨by rfl, ?_⟩) ?_ ?_
                  rotate_left
                  · intro w'
                    go_simp
                    with_reducible rfl
                  rotate_left
                  · simp only [Act.put, List.setIfInBounds_toArray, List.set_cons_zero, List.set_cons_succ, i64_w, i32_w]
                    rfl
                  refine one_ (i := 3) (N := some 162) #[true, true, true, true, true, false, true, true, true, false, false, false, false, false, false, false, false, false, false, false, false, false, false] rfl rfl (by kernel_rfl) (by decide) (fun K hK => ?_)
                  refine goes_ Try.func8 (by kernel_rfl) rfl #[.int .u8 (k : Int)] (by rfl) rfl rfl (by simp only [List.map_toArray, List.map_cons, List.map_nil]; rfl) ?_
                  with_reducible refine (milestoneref07_Prefix.calls kk (k : Int) qa qn _ H5.out).mono ?_
                  rintro e_ wp1 ⟨rfl, hb⟩
                  refine ⟨_, rfl, ?_⟩
                  have n0_ := Aside0.mk (HI.out.below hb)
                  have n1_ := Aside0.mk (blk_below BK6.out hb)
                  have n2_ := Aside0.mk (blk_below BK7.out hb)
                  have n3_ := Aside0.mk (below_step HB.out hb)
                  have n4_ := Aside0.mk (blk_below BKX.out hb)
                  clear HI BK6 BK7 HB BKX
                  have HI := n0_
                  have BK6 := n1_
                  have BK7 := n2_
                  have HB := n3_
                  have BKX := n4_
                  clear n0_ n1_ n2_ n3_ n4_
                  clear hb
                  refine hK.out _ _ ⟨(blk_cell BKX.out 0).trans rfl, (blk_cell BKX.out 1).trans rfl, (blk_cell BK7.out k).trans HZ0.out, (blk_cell BK6.out (k * 2)).trans MZ0.out, (blk_cell BK6.out (k * 2 + 1)).trans MZ1.out⟩ (fun hHeld => ?_)
                  clear hK K
                  refine norm_ (a' := ?_) ?_ ?_
                  rotate_left
                  · show Act.put _ (some 162) _ = _
                    simp only [Act.put, List.setIfInBounds_toArray, List.set_cons_zero, List.set_cons_succ, i64_w, i32_w]
                    rfl
                  refine one_ (i := 5) (N := some 164) #[true, true, true, true, true, true, true, true, true, false, false, false, false, false, false, false, false, false, false, false, false, false, false] rfl rfl (by kernel_rfl) (by decide) (fun K hK => ?_)
                  refine goes_ Try.func11 (by kernel_rfl) rfl #[.pointer (some ⟨g, 0, none⟩), .agg #[.int .u32 qa, .int .u8 qn], .agg #[.int .u16 r, .int .u16 X.f2]] (by rfl) rfl rfl (by simp only [List.map_toArray, List.map_cons, List.map_nil]; rfl) ?_
                  with_reducible refine (source_Source_Feasible.calls g T qa qn r X.f2 b T w _ HI.out HB.out H6.out).mono ?_
                  rintro e_ wp2 ⟨rfl, hi, hb, hk⟩
                  refine ⟨_, rfl, ?_⟩
                  have n0_ := Aside0.mk (hi)
                  have n1_ := Aside0.mk (hk.blk BK6.out rfl (by decide) (by decide))
                  have n2_ := Aside0.mk (hk.blk BK7.out rfl (by decide) (by decide))
                  have n3_ := Aside0.mk (hb)
                  have n4_ := Aside0.mk (hk.blk BKX.out rfl (by decide) (by decide))
                  clear HI BK6 BK7 HB BKX
                  have HI := n0_
                  have BK6 := n1_
                  have BK7 := n2_
                  have HB := n3_
                  have BKX := n4_
                  clear n0_ n1_ n2_ n3_ n4_
                  clear hi hb hk
                  refine hK.out _ _ ⟨(blk_cell BKX.out 0).trans rfl, (blk_cell BKX.out 1).trans rfl, (blk_cell BK7.out k).trans HZ0.out, (blk_cell BK6.out (k * 2)).trans MZ0.out, (blk_cell BK6.out (k * 2 + 1)).trans MZ1.out⟩ (fun hHeld => ?_)
                  clear hK K
                  refine norm_ (a' := ?_) ?_ ?_
                  rotate_left
                  · show Act.put _ (some 164) _ = _
                    simp only [Act.put, List.setIfInBounds_toArray, List.set_cons_zero, List.set_cons_succ, i64_w, i32_w]
                    rfl
                  refine pure_ (i := 9) (N := some 168) (v := ?_) (a' := ?_) #[true, true, true, true, true, true, true, true, true, true, false, false, false, false, false, false, false, false, false, false, false, false, false] rfl rfl (by kernel_rfl) (fun _ _ _ h => h) (Or.inl ⟨by rfl, ?_⟩) ?_ ?_
                  rotate_left
                  · intro w'
                    go_simp
                    with_reducible rfl
                  rotate_left
                  · simp only [Act.put, List.setIfInBounds_toArray, List.set_cons_zero, List.set_cons_succ, i64_w, i32_w]
                    rfl
                  refine pure_ (i := 10) (N := some 169) (v := ?_) (a' := ?_) #[true, true, true, true, true, true, true, true, true, true, true, false, false, false, false, false, false, false, false, false, false, false, false] rfl rfl (by kernel_rfl) (fun _ _ _ h => h) (Or.inl ⟨by rfl, ?_⟩) ?_ ?_
                  rotate_left
                  · intro w'
                    go_simp
                    with_reducible rfl
                  rotate_left
                  · simp only [Act.put, List.setIfInBounds_toArray, List.set_cons_zero, List.set_cons_succ, i64_w, i32_w]
                    rfl
                  refine pure_ (i := 11) (N := some 170) (v := ?_) (a' := ?_) #[true, true, true, true, true, true, true, true, true, true, true, true, false, false, false, false, false, false, false, false, false, false, false] rfl rfl (by kernel_rfl) (fun _ _ _ h => h) (Or.inl ⟨by rfl, ?_⟩) ?_ ?_
                  rotate_left
                  · intro w'
                    go_simp
                    with_reducible rfl
                  rotate_left
                  · simp only [Act.put, List.setIfInBounds_toArray, List.set_cons_zero, List.set_cons_succ, i64_w, i32_w]
                    rfl
                  refine take_ (i := 12) (N := some 171) (v := ?_) (a' := ?_) #[true, true, true, true, true, true, true, true, true, true, true, true, true, false, false, false, false, false, false, false, false, false, false] rfl rfl (by kernel_rfl) (fun _ _ _ h => h) (Or.inl ⟨by rfl, ?_⟩) hHeld ?_ ?_
                  rotate_left
                  · rintro w' ⟨s0, s1, s2, s3, s4⟩
                    go_simp
                    with_reducible rfl
                  rotate_left
                  · simp only [Act.put, List.setIfInBounds_toArray, List.set_cons_zero, List.set_cons_succ, i64_w, i32_w]
                    rfl
                  refine pure_ (i := 13) (N := some 172) (v := ?_) (a' := ?_) #[true, true, true, true, true, true, true, true, true, true, true, true, true, true, false, false, false, false, false, false, false, false, false] rfl rfl (by kernel_rfl) (fun _ _ _ h => h) (Or.inl ⟨by rfl, ?_⟩) ?_ ?_
                  rotate_left
                  · intro w'
                    go_simp
                    with_reducible rfl
                  rotate_left
                  · simp only [Act.put, List.setIfInBounds_toArray, List.set_cons_zero, List.set_cons_succ, i64_w, i32_w]
                    rfl
                  refine pure_ (i := 14) (N := some 173) (v := ?_) (a' := ?_) #[true, true, true, true, true, true, true, true, true, true, true, true, true, true, true, false, false, false, false, false, false, false, false] rfl rfl (by kernel_rfl) (fun _ _ _ h => h) (Or.inl ⟨by rfl, ?_⟩) ?_ ?_
                  rotate_left
                  · intro w'
                    go_simp
                    with_reducible rfl
                  rotate_left
                  · simp only [Act.put, List.setIfInBounds_toArray, List.set_cons_zero, List.set_cons_succ, i64_w, i32_w]
                    rfl
                  refine pure_ (i := 15) (N := some 174) (v := ?_) (a' := ?_) #[true, true, true, true, true, true, true, true, true, true, true, true, true, true, true, true, false, false, false, false, false, false, false] rfl rfl (by kernel_rfl) (fun _ _ _ h => h) (Or.inl ⟨by rfl, ?_⟩) ?_ ?_
                  rotate_left
                  · intro w'
                    go_simp
                    with_reducible rfl
                  rotate_left
                  · simp only [Act.put, List.setIfInBounds_toArray, List.set_cons_zero, List.set_cons_succ, i64_w, i32_w]
                    rfl
                  refine pure_ (i := 17) (N := some 176) (v := ?_) (a' := ?_) #[true, true, true, true, true, true, true, true, true, true, true, true, true, true, true, true, false, true, false, false, false, false, false] rfl rfl (by kernel_rfl) (fun _ _ _ h => h) (Or.inl ⟨by rfl, ?_⟩) ?_ ?_
                  rotate_left
                  · intro w'
                    go_simp
                    with_reducible rfl
                  rotate_left
                  · simp only [Act.put, List.setIfInBounds_toArray, List.set_cons_zero, List.set_cons_succ, i64_w, i32_w]
                    rfl
                  refine pure_ (i := 18) (N := some 177) (v := ?_) (a' := ?_) #[true, true, true, true, true, true, true, true, true, true, true, true, true, true, true, true, false, true, true, false, false, false, false] rfl rfl (by kernel_rfl) (fun _ _ _ h => h) (Or.inl ⟨by rfl, ?_⟩) ?_ ?_
                  rotate_left
                  · intro w'
                    go_simp
                    with_reducible rfl
                  rotate_left
                  · simp only [Act.put, List.setIfInBounds_toArray, List.set_cons_zero, List.set_cons_succ, i64_w, i32_w]
                    rfl
                  refine take_ (i := 16) (N := some 175) (v := ?_) (a' := ?_) #[true, true, true, true, true, true, true, true, true, true, true, true, true, true, true, true, true, true, true, false, false, false, false] rfl rfl (by kernel_rfl) (fun _ _ _ h => h) (Or.inl ⟨by rfl, ?_⟩) hHeld ?_ ?_
                  rotate_left
                  · rintro w' ⟨s0, s1, s2, s3, s4⟩
                    go_simp
                    with_reducible rfl
                  rotate_left
                  · simp only [Act.put, List.setIfInBounds_toArray, List.set_cons_zero, List.set_cons_succ, i64_w, i32_w]
                    rfl
                  refine take_ (i := 19) (N := some 178) (v := ?_) (a' := ?_) #[true, true, true, true, true, true, true, true, true, true, true, true, true, true, true, true, true, true, true, true, false, false, false] rfl rfl (by kernel_rfl) (fun _ _ _ h => h) (Or.inl ⟨by rfl, ?_⟩) hHeld ?_ ?_
                  rotate_left
                  · rintro w' ⟨s0, s1, s2, s3, s4⟩
                    go_simp
                    with_reducible rfl
                  rotate_left
                  · simp only [Act.put, List.setIfInBounds_toArray, List.set_cons_zero, List.set_cons_succ, i64_w, i32_w]
                    rfl
                  refine one_ (i := 20) (N := some 179) #[true, true, true, true, true, true, true, true, true, true, true, true, true, true, true, true, true, true, true, true, true, false, false] rfl rfl (by kernel_rfl) (by decide) (fun K hK => ?_)
                  refine goes_ Try.func20 (by kernel_rfl) rfl #[.agg #[.int .u16 r, .int .u16 X.f2], .agg #[.int .u16 (M k).1, .int .u16 (M k).2]] (by rfl) rfl rfl (by simp only [List.map_toArray, List.map_cons, List.map_nil]; rfl) ?_
                  with_reducible refine (milestoneref01_Nearer.calls r X.f2 (M k).1 (M k).2 b _ HNR.out).mono ?_
                  rintro e_ wp3 ⟨rfl, hb⟩
                  refine ⟨_, rfl, ?_⟩
                  have n0_ := Aside0.mk (HI.out.below hb)
                  have n1_ := Aside0.mk (blk_below BK6.out hb)
                  have n2_ := Aside0.mk (blk_below BK7.out hb)
                  have n3_ := Aside0.mk (below_step HB.out hb)
                  have n4_ := Aside0.mk (blk_below BKX.out hb)
                  clear HI BK6 BK7 HB BKX
                  have HI := n0_
                  have BK6 := n1_
                  have BK7 := n2_
                  have HB := n3_
                  have BKX := n4_
                  clear n0_ n1_ n2_ n3_ n4_
                  clear hb
                  refine hK.out _ _ ⟨(blk_cell BKX.out 0).trans rfl, (blk_cell BKX.out 1).trans rfl, (blk_cell BK7.out k).trans HZ0.out, (blk_cell BK6.out (k * 2)).trans MZ0.out, (blk_cell BK6.out (k * 2 + 1)).trans MZ1.out⟩ (fun hHeld => ?_)
                  clear hK K
                  refine norm_ (a' := ?_) ?_ ?_
                  rotate_left
                  · show Act.put _ (some 179) _ = _
                    simp only [Act.put, List.setIfInBounds_toArray, List.set_cons_zero, List.set_cons_succ, i64_w, i32_w]
                    rfl
                  refine pure_ (i := 21) (N := some 180) (v := ?_) (a' := ?_) #[true, true, true, true, true, true, true, true, true, true, true, true, true, true, true, true, true, true, true, true, true, true, false] rfl rfl (by kernel_rfl) (fun _ _ _ h => h) (Or.inl ⟨by rfl, ?_⟩) ?_ ?_
                  rotate_left
                  · intro w'
                    go_simp
                    with_reducible rfl
                  rotate_left
                  · simp only [Act.put, List.setIfInBounds_toArray, List.set_cons_zero, List.set_cons_succ, i64_w, i32_w]
                    rfl
                  refine pure_ (i := 22) (N := some 181) (v := ?_) (a' := ?_) #[true, true, true, true, true, true, true, true, true, true, true, true, true, true, true, true, true, true, true, true, true, true, true] rfl rfl (by kernel_rfl) (fun _ _ _ h => h) (Or.inl ⟨by rfl, ?_⟩) ?_ ?_
                  rotate_left
                  · intro w'
                    go_simp
                    with_reducible rfl
                  rotate_left
                  · simp only [Act.put, List.setIfInBounds_toArray, List.set_cons_zero, List.set_cons_succ, i64_w, i32_w]
                    rfl
                  refine done_ (by kernel_rfl) ?_
                  clear hHeld
                  go_wp2_with (fail)
                  go_roundg (l1.length - (j + 1))
                  case measure => omega
                  case rel => exact ⟨j + 1, by go_num, by omega, Nat.le_refl _, HI, BK6, BK7, HB⟩
            · have p1 : decide ((j : Int) < (l1.length : Int)) = false := decide_eq_false (by omega)
              have hln := LENG.out T M H n INV.out
              go_wp2_with (fail)
              refine (source_Source_Len.calls g T (n : Int) T w _ HI.out HB.out (by rw [← hln]; rfl)).mono ?_
              rintro e_ wz ⟨rfl, hi, hb, hk⟩
              have HBZ := Aside0.mk hb
              clear hi hb hk hln
              go_wp2_with (fail)
              go_ret
              exact ⟨by first | rfl | simp, HBZ.out⟩

end Go.Proofs.Ytkngncckidlniaa.QSourcePlays
