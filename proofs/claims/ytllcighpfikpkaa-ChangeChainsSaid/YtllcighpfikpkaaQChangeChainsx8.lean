-- Lines by a program of this session, for this claim.
import Derived.Test.YtllcighpfikpkaaQChangeChainsx0
import Derived.Test.YtllcighpfikpkaaQChangeChainsx2
import Derived.Test.YtllcighpfikpkaaQChangeChainsx7
namespace Go.Proofs.Ytllcighpfikpkaa.QChangeChains
open Go.RowKit Go.Proofs.YtllcighpfikpkaaW.PrintWords Go.Proofs.YtllcighpfikpkaaW.PrintLast Go.Proofs.YtllcighpfikpkaaW.PrintMore
attribute [local go_sem] max2_int min2_int max_two min_two max_three min_three max_four min_four   -- for this text's walks alone
set_option linter.unusedVariables false
set_option linter.unusedSimpArgs false

attribute [local go_sem high] eqA29
/-! ### coin_Purse_Bytes: function 40 -/
def coin_Purse_Bytes.f (s0_0 : List Int) (s0_1 : Int) (a1 : Int) : Option (List Int × List Int × Int) :=
  if s0_1 = 0 then (if a1 < 0 then some ([], s0_0, s0_1) else (if a1 > (s0_0.length : Int) then some ([], s0_0, 5) else (if a1 ≤ 140737488355328 then some (s0_0.take a1.toNat, s0_0.drop a1.toNat, 0) else none))) else some ([], s0_0, s0_1)
set_option maxHeartbeats 8000000 in
theorem coin_Purse_Bytes.calls (g : Nat) (s0_0 : List Int) (s0_1 : Int) (a1 : Int) (r1 : List Int) (r2 : List Int) (r3 : Int) (w0 w : World) (hI : IsS100 w0 w g s0_0 s0_1) (hB : Below w0.heap.size w0 w) (h : coin_Purse_Bytes.f s0_0 s0_1 a1 = some (r1, r2, r3)) :
    Calls Try.prog 40 #[.pointer (some ⟨g, 0, none⟩), .int .i64 a1] w fun e w' => ∃ v0_ : Value, e = .returned (v0_) ∧ Kd.R (Kd.int .u8) 5 w' w.heap.size (fun _ => True) v0_ r1 ∧ IsS100 w0 w' g r2 r3 ∧ Below w0.heap.size w0 w' ∧ KeepBut w w' g none := by
  have HI := Aside0.mk hI
  obtain ⟨A, c, hb, hg, hl, hC⟩ := hI
  have hc0 := cellS100_0 hb
  have hc1 := cellS100_1 hb
  have hf1 := blk_frozen hb 1
  have HH := Aside0.mk hb
  have HB := Aside0.mk hB
  have HG := Aside0.mk hg
  have HC := Aside0.mk hC
  have HL := Aside0.mk hl
  clear hb hg hl hC hB
  unfold coin_Purse_Bytes.f at h
  by_cases c0 : s0_1 = 0
  · rw [if_pos c0] at h
    subst c0
    by_cases c1 : a1 < 0
    · rw [if_pos c1] at h
      simp only [Option.some.injEq, Prod.mk.injEq] at h
      obtain ⟨rfl, rfl, rfl⟩ := h
      have e1 : decide (a1 < 0) = true := decide_eq_true c1
      clear c1
      go_enter Try.func40, Try.ntmps40
      go_wp2_with (fail)
      go_ret
      exact ⟨_, rfl, Kd.R_nil _ _ _ _ _, HI.out, HB.out, KeepBut.refl _ _ _⟩
    · rw [if_neg c1] at h
      by_cases c2 : a1 > (s0_0.length : Int)
      · rw [if_pos c2] at h
        simp only [Option.some.injEq, Prod.mk.injEq] at h
        obtain ⟨rfl, rfl, rfl⟩ := h
        have e1 : decide (a1 < 0) = false := decide_eq_false c1
        have e2 : decide ((s0_0.length : Int) < a1) = true := decide_eq_true c2
        clear c1 c2
        go_enter Try.func40, Try.ntmps40
        go_wp2_with (fail)
        go_ret
        exact ⟨_, rfl, Kd.R_nil _ _ _ _ _, ⟨A, c, by simpa using blk_set HH.out 1 (.int .i64 5), HG.out, HL.out, HC.out⟩, below_set HB.out HG.out, KeepBut.set_ (KeepBut.refl _ _ _) _ _⟩
      · rw [if_neg c2] at h
        by_cases c3 : a1 ≤ 140737488355328
        · rw [if_pos c3] at h
          simp only [Option.some.injEq, Prod.mk.injEq] at h
          obtain ⟨rfl, rfl, rfl⟩ := h
          have e1 : decide (a1 < 0) = false := decide_eq_false c1
          have e2 : decide ((s0_0.length : Int) < a1) = false := decide_eq_false c2
          have c4 : 0 ≤ a1 := by omega
          have c5 : a1 ≤ (s0_0.length : Int) := by omega
          clear c1 c2
          obtain ⟨i0, hi0, _, hsz, _⟩ := info_parts info5
          obtain ⟨A', hcut, hA', hC'⟩ := print_drop_of (P := Try.prog) (Value.int .u8) 0 33 5 .i64 Try.underlying33 hi0 hsz A c s0_0 a1 c4 c5 HL.out
          have HCn := Aside0.mk (Kd.C_of_reads (h1 := fun _ => rfl) (hA' _ (Kd.reads_of_C HC.out)))
          have HLn := Aside0.mk hC'
          have hinf : (Try.prog.info? 5).map (·.size) = some 1 := by rw [hi0]; exact congrArg some hsz
          have HINF := Aside0.mk hinf
          clear hi0 hsz hA' hC' hinf
          have HL1 := Aside0.mk (show a1.toNat * 1 ≤ 281474976710656 by omega)
          have HM := Aside0.mk (show min s0_0.length (List.replicate a1.toNat (0 : Int)).length = a1.toNat by rw [List.length_replicate]; omega)
          have HCw := Aside0.mk (Kd.C_below HC.out HB.out)
          go_enter Try.func40, Try.ntmps40
          go_wp2_with ((with_reducible refine gate_dst (N := 30) rfl ?_); refine Kd.R_make (Kd.int .u8) _ 5 rfl (N := 30) rfl 33 _ _ rfl a1 rfl rfl Try.underlying33 (.int .u8 0) 1 info5 rfl (by decide) (by omega) 0 (ok := fun _ => True) (okp := fun _ => True) rfl (fun _ hk => hk) trivial c4 HL1.out (Below.refl _ _) (Nat.le_refl _) ?_)
          intro v1 w1 ho hb1 hg1 gb hgb hgl
          clear hgb hgl
          obtain ⟨A1, c1, hv1⟩ := Kd.R_slice ho
          have HO := Aside0.mk ho
          have HV := Aside0.mk hv1
          have HH1 := Aside0.mk (blk_below HH.out hb1)
          have HB1 := Aside0.mk (below_step HB.out hb1)
          have HK1 := Aside0.mk (KeepBut.of_below hb1 g none)
          have HCv := Aside0.mk (Kd.C_below HCw.out hb1)
          have HS1 := Aside0.mk hb1
          clear hc0 hc1 hf1 hb1 hg1 ho hv1
          have hc0 := cellS100_0 HH1.out
          go_wp2_with ((with_reducible refine gate_dst (N := 36) rfl ?_); refine Kd.R_copy (enc := Value.int .u8) (h1 := fun _ => rfl) (0 : Int) (w0 := w) w.heap.size rfl (.tmp 31) (.tmp 35) 33 33 5 rfl Try.underlying33 HINF.out v1 (List.replicate a1.toNat 0) s0_0 A s0_0.length c (fun _ => True) rfl rfl HO.out HCv.out HS1.out (below_size HS1.out) ?_)
          intro w2 ho2 hb2 hg2
          have HO2 := Aside0.mk ho2
          have HS2 := Aside0.mk hb2
          have HH2 := Aside0.mk (blk_grown HH1.out hg2 (Kd.R_ne HO.out HH1.out (by decide)))
          have HB2 := Aside0.mk (below_step HB.out hb2)
          have HK2 := Aside0.mk (KeepBut.of_below hb2 g none)
          clear hc0 ho2 hb2 hg2
          have hc0 := cellS100_0 HH2.out
          have hf0 := blk_frozen HH2.out 0
          go_wp2_with (fail)
          go_ret
          exact ⟨v1, rfl, Kd.R_set HO2.out HH2.out (by decide) 0 _, ⟨A', c - a1.toNat, by simpa using blk_set HH2.out 0 (.slice A' (s0_0.length - a1.toNat) (c - a1.toNat)), HG.out, HLn.out, HCn.out⟩, below_set HB2.out HG.out, KeepBut.set_ HK2.out _ _⟩
        · rw [if_neg c3] at h; cases h
  · rw [if_neg c0] at h
    simp only [Option.some.injEq, Prod.mk.injEq] at h
    obtain ⟨rfl, rfl, rfl⟩ := h
    have e1 : (s0_1 != 0) = true := bne_iff_ne.mpr c0
    have e2 : (s0_1 == 0) = false := beq_eq_false_iff_ne.mpr c0
    clear c0
    go_enter Try.func40, Try.ntmps40
    go_wp2_with (fail)
    go_ret
    exact ⟨_, rfl, Kd.R_nil _ _ _ _ _, HI.out, HB.out, KeepBut.refl _ _ _⟩

/-! ### coin_Open: function 41 -/
def coin_Open.f (a0 : Int) : Option (Int) := some (Go.bits .xor .i64 (wrap64 (a0 / 2)) (wrap64 (-(wrap64 (Go.bits .and .u64 a0 1)))))
set_option maxHeartbeats 8000000 in
set_option maxRecDepth 100000 in
theorem coin_Open.calls (a0 : Int) (r : Int) (w : World) (h : coin_Open.f a0 = some r) :
    Calls Try.prog 41 #[.int .u64 a0] w fun e w' => e = .returned (.int .i64 r) ∧ Drawn0 w w' := by
  have H : (some (Go.bits .xor .i64 (wrap64 (a0 / 2)) (wrap64 (-(wrap64 (Go.bits .and .u64 a0 1)))))) = some r := h
  clear h
  obtain rfl := Option.some.inj H
  simp only [Option.some.injEq, Prod.mk.injEq] at H
  obtain ⟨rfl⟩ := H
  go_enter Try.func41, Try.ntmps41
  go_wp2
  go_ret
  exact ⟨by first | rfl | (simp; done) | (simp [*]; done) | (refine qa_int ?_; omega) | (refine qa_int ?_; simp <;> omega), by repeat (first | exact Drawn0.refl _ | apply Drawn0.step)⟩

/-! ### coin_Purse_Fault: function 42 -/
def coin_Purse_Fault.f (s0_0 : List Int) (s0_1 : Int) : Option (Int × List Int × Int) := some (s0_1, s0_0, s0_1)
set_option maxHeartbeats 8000000 in
set_option maxRecDepth 100000 in
theorem coin_Purse_Fault.calls (g : Nat) (s0_0 : List Int) (s0_1 : Int) (r1 : Int) (r2 : List Int) (r3 : Int) (w0 w : World) (hI : IsS100 w0 w g s0_0 s0_1) (hB : Below w0.heap.size w0 w) (h : coin_Purse_Fault.f s0_0 s0_1 = some (r1, r2, r3)) :
    Calls Try.prog 42 #[.pointer (some ⟨g, 0, none⟩)] w fun e w' => e = .returned (.int .i64 r1) ∧ IsS100 w0 w' g r2 r3 ∧ Below w0.heap.size w0 w' ∧ KeepBut w w' g none := by
  have HI0 := Aside0.mk hI
  have HK := Aside0.mk (KeepBut.refl w g none)
  have HL := Aside0.mk hB.size
  clear hI
  have HW0 := Aside0.mk hB.size
  have HB := Aside0.mk hB
  clear hB
  have H : (some (s0_1, s0_0, s0_1)) = some (r1, r2, r3) := h
  clear h
  simp only [Option.some.injEq, Prod.mk.injEq] at H
  obtain ⟨rfl, rfl, rfl⟩ := H
  obtain ⟨ASz2_0, cSz2_0, HGz2, hgz2, HSz2_0⟩ := HI0.out
  have hcz2_0 := cellS100_0 HGz2
  have hcz2_1 := cellS100_1 HGz2
  have hfz2_0 := blk_frozen HGz2 0
  have hfz2_1 := blk_frozen HGz2 1
  clear HGz2 hgz2
  go_enter Try.func42, Try.ntmps42
  go_wp2
  go_ret
  exact ⟨by first | rfl | (simp [errW_none, errW_some] <;> rfl) | (simp [*, errW_none, errW_some] <;> rfl), by repeat (first | (with_reducible first | exact HI0.out | apply IsS100.alloc | apply IsS100.drewN | apply IsS100.drew | apply IsS100.set_1) | exact HI0.out), by repeat (first | (with_reducible first | exact HB.out | apply below_alloc | apply pw_below_drewN | apply below_drew1 | refine below_set ?_ (IsS100.ge HI0.out)) | exact HB.out), by repeat (first | (with_reducible first | exact HK.out | apply KeepBut.set_ | apply keep_drewN | apply keep_drew | apply keep_alloc) | exact HK.out)⟩

/-! ### coin_Purse_End: function 43 -/
def coin_Purse_End.f (s0_0 : List Int) (s0_1 : Int) : Option (Int × List Int × Int) := if s0_1 = 0 then (if 0 < (s0_0.length : Int) then some (4, s0_0, s0_1) else some (s0_1, s0_0, s0_1)) else some (s0_1, s0_0, s0_1)
set_option maxHeartbeats 8000000 in
theorem coin_Purse_End.calls (g : Nat) (s0_0 : List Int) (s0_1 : Int) (r1 : Int) (r2 : List Int) (r3 : Int) (w0 w : World) (hI : IsS100 w0 w g s0_0 s0_1) (hB : Below w0.heap.size w0 w) (h : coin_Purse_End.f s0_0 s0_1 = some (r1, r2, r3)) :
    Calls Try.prog 43 #[.pointer (some ⟨g, 0, none⟩)] w fun e w' => e = .returned (.int .i64 r1) ∧ IsS100 w0 w' g r2 r3 ∧ Below w0.heap.size w0 w' ∧ KeepBut w w' g none := by
  have hI2 := Aside0.mk hI
  obtain ⟨A, c, hb, hg, hl, hC⟩ := hI
  have hc0 := cellS100_0 hb
  have hc1 := cellS100_1 hb
  have HH := Aside0.mk hb
  have HB := Aside0.mk hB
  have HG := Aside0.mk hg
  have HC := Aside0.mk hC
  have HL := Aside0.mk hl
  clear hb hg hl hC hB
  unfold coin_Purse_End.f at h
  have HF := Aside0.mk (coin_Purse_Fault.calls g s0_0 s0_1 s0_1 s0_0 s0_1 w0 w hI2.out HB.out rfl)
  by_cases c0 : s0_1 = 0
  · rw [if_pos c0] at h
    have e1 : (s0_1 == 0) = true := beq_iff_eq.mpr c0
    have e2 : (s0_1 != 0) = false := bne_eq_false_iff_eq.mpr c0
    clear c0
    by_cases c1 : 0 < (s0_0.length : Int)
    · rw [if_pos c1] at h
      simp only [Option.some.injEq, Prod.mk.injEq] at h
      obtain ⟨rfl, rfl, rfl⟩ := h
      have e3 : decide (0 < (s0_0.length : Int)) = true := decide_eq_true c1
      have e4 : decide (0 < s0_0.length) = true := decide_eq_true (by omega)
      clear c1
      go_enter Try.func43, Try.ntmps43
      go_wp2_with (fail)
      go_ret
      exact ⟨rfl, ⟨A, c, HH.out, HG.out, HL.out, HC.out⟩, HB.out, KeepBut.refl _ _ _⟩
    · rw [if_neg c1] at h
      simp only [Option.some.injEq, Prod.mk.injEq] at h
      obtain ⟨rfl, rfl, rfl⟩ := h
      have e3 : decide (0 < (s0_0.length : Int)) = false := decide_eq_false c1
      have e4 : decide (0 < s0_0.length) = false := decide_eq_false (by omega)
      clear c1
      go_enter Try.func43, Try.ntmps43
      go_wp2_with (fail)
      refine HF.out.mono ?_
      rintro e w1 ⟨rfl, hi, hb, hk⟩
      have HR := Aside0.mk (And.intro hi (And.intro hb hk))
      clear hi hb hk
      go_wp2_with (fail)
      go_ret
      exact ⟨rfl, HR.out⟩
  · rw [if_neg c0] at h
    simp only [Option.some.injEq, Prod.mk.injEq] at h
    obtain ⟨rfl, rfl, rfl⟩ := h
    have e1 : (s0_1 == 0) = false := beq_eq_false_iff_ne.mpr c0
    have e2 : (s0_1 != 0) = true := bne_iff_ne.mpr c0
    clear c0
    go_enter Try.func43, Try.ntmps43
    go_wp2_with (fail)
    refine HF.out.mono ?_
    rintro e w1 ⟨rfl, hi, hb, hk⟩
    have HR := Aside0.mk (And.intro hi (And.intro hb hk))
    clear hi hb hk
    go_wp2_with (fail)
    go_ret
    exact ⟨rfl, HR.out⟩

/-! ### prefix_mask: function 59 -/
def prefix_mask.f (a0 : Int) : Option (Int) := if a0 = 0 then (some 0) else (some (shl .u32 4294967295 ((32 - (a0)) % 4294967296)))
set_option maxHeartbeats 8000000 in
set_option maxRecDepth 100000 in
theorem prefix_mask.calls (a0 : Int) (r : Int) (w : World) (h : prefix_mask.f a0 = some r) :
    Calls Try.prog 59 #[.int .u8 a0] w fun e w' => e = .returned (.int .u32 r) ∧ Drawn0 w w' := by
  have H : (if a0 = 0 then (some 0) else (some (shl .u32 4294967295 ((32 - (a0)) % 4294967296)))) = some r := h
  clear h
  by_cases c2 : a0 = 0
  · rw [if_pos c2] at H
    have c2b0 : (a0 == 0) = true := beq_iff_eq.mpr c2
    have c2b1 : (a0 != 0) = false := bne_eq_false_iff_eq.mpr c2
    clear c2
    obtain rfl := Option.some.inj H
    simp only [Option.some.injEq, Prod.mk.injEq] at H
    obtain ⟨rfl⟩ := H
    go_enter Try.func59, Try.ntmps59
    go_wp2
    go_ret
    exact ⟨by first | rfl | (simp; done) | (simp [*]; done) | (refine qa_int ?_; omega) | (refine qa_int ?_; simp <;> omega), by repeat (first | exact Drawn0.refl _ | apply Drawn0.step)⟩
  · rw [if_neg c2] at H
    have c2b0 : (a0 == 0) = false := beq_eq_false_iff_ne.mpr c2
    have c2b1 : (a0 != 0) = true := bne_iff_ne.mpr c2
    obtain ⟨ji3, hji3⟩ : ∃ j_ : Int, (shl .u32 4294967295 ((32 - (a0)) % 4294967296)) = j_ := ⟨_, rfl⟩
    replace H : (some ji3) = some r := by first | (rw [hji3] at H; exact H) | (simp only [hji3] at H ⊢; exact H)
    have hji3_ : (IntKind.u32.wrap (4294967295 * 2 ^ min ((32 - (a0)) % 4294967296).toNat 32)) = ji3 := hji3
    have hji3z : ((32 - (a0)) % 4294967296) ≤ 32 → (IntKind.u32.wrap (4294967295 * 2 ^ ((32 - (a0)) % 4294967296).toNat)) = ji3 := shl_small hji3
    (try (have hji3y : 0 ≤ ((32 - (a0)) % 4294967296) := by omega))
    obtain rfl := Option.some.inj H
    simp only [Option.some.injEq, Prod.mk.injEq] at H
    obtain ⟨rfl⟩ := H
    go_enter Try.func59, Try.ntmps59
    go_wp2
    go_ret
    exact ⟨by first | rfl | (simp; done) | (simp only [← hji3] <;> (first | rfl | simp)) | (simp [*]; done) | (refine qa_int ?_; omega) | (refine qa_int ?_; simp <;> omega), by repeat (first | exact Drawn0.refl _ | apply Drawn0.step)⟩

/-! ### prefix_Right: function 55 -/
def prefix_Right.f (a0_0 : Int) (a0_1 : Int) : Option (Bool) := if a0_1 ≤ 32 then ((prefix_mask.f a0_1).bind fun t197 => (some ((Go.bits .andNot .u32 a0_0 t197) == 0))) else (some false)
set_option maxHeartbeats 8000000 in
set_option maxRecDepth 100000 in
theorem prefix_Right.calls (a0_0 : Int) (a0_1 : Int) (r : Bool) (w : World) (h : prefix_Right.f a0_0 a0_1 = some r) :
    Calls Try.prog 55 #[.agg #[.int .u32 a0_0, .int .u8 a0_1]] w fun e w' => e = .returned (.bool r) ∧ Below w.heap.size w w' := by
  have hu25 := Try.underlying25
  have HB := Aside0.mk (Below.refl w.heap.size w)
  have H : (if a0_1 ≤ 32 then ((prefix_mask.f a0_1).bind fun t197 => (some ((Go.bits .andNot .u32 a0_0 t197) == 0))) else (some false)) = some r := h
  clear h
  by_cases c2 : a0_1 ≤ 32
  · rw [if_pos c2] at H
    have c2b0 : decide (a0_1 ≤ 32) = true := decide_eq_true c2
    clear c2
    replace H := Option.bind_eq_some_iff.mp H
    obtain ⟨t197, A30, H⟩ := H
    replace H : (some ((Go.bits .andNot .u32 a0_0 t197) == 0)) = some r := H
    have A3 := Aside0.mk A30
    clear A30
    obtain rfl := Option.some.inj H
    simp only [Option.some.injEq, Prod.mk.injEq] at H
    obtain ⟨rfl⟩ := H
    go_enter Try.func55, Try.ntmps55
    go_wp2_with (first | ((with_reducible refine gate_dst (N := 1) rfl ?_); refine box_event ?hg (N := 1) ?hd (cs := #[.int .u32 a0_0, .int .u8 a0_1]) (t := 25) ?hr ?_; (case hd => rfl); (case hg => rfl); (case hr => first | (go_simp; done) | (go_simp; rfl)); intro gb196 hg w4 hbox hb; have n0_ := Aside0.mk (below_step (by repeat (first | (with_reducible first | exact HB.out | apply below_alloc | apply pw_below_drewN | apply below_drew1) | exact HB.out)) hb); have n1_ := Aside0.mk (hbox); have n2_ := Aside0.mk ((by rw [hg]; exact (below_size (by repeat (first | (with_reducible first | exact HB.out | apply below_alloc | apply pw_below_drewN | apply below_drew1) | exact HB.out))) : w.heap.size ≤ gb196)); have n3_ := Aside0.mk ((by rw [hg]; exact (below_size (by repeat (first | (with_reducible first | exact HB.out | apply below_alloc | apply pw_below_drewN | apply below_drew1) | exact HB.out))) : w.heap.size ≤ gb196)); clear HB; have HB := n0_; have BK196 := n1_; have GW196 := n2_; have GE196 := n3_; clear n0_ n1_ n2_ n3_; clear hb hbox hg; have hcz5_0 : w4.cell? ⟨gb196, 0, none⟩ = some (.int .u32 a0_0) := (blk_cell BK196.out 0).trans rfl; have hcz5_1 : w4.cell? ⟨gb196, 1, none⟩ = some (.int .u8 a0_1) := (blk_cell BK196.out 1).trans rfl; have hfz5_0 := blk_frozen BK196.out 0; have hfz5_1 := blk_frozen BK196.out 1) | (go_at_call 59; (with_reducible refine (prefix_mask.calls a0_1 t197 _ A3.out).mono ?_); rintro e w' ⟨rfl, ⟨nd, rfl⟩⟩; (try first | exact ⟨rfl, _, World.drewN_drewN _ _ _⟩ | exact ⟨rfl, _, Eq.trans (World.drewN_drewN _ _ _) (congrArg (World.drewN _) (Nat.add_assoc _ _ _))⟩)) | (go_at_call 59; (refine calls_of_args (args' := #[.int .u8 a0_1]) ?_ ?_; focus (first | rfl | (simp; done) | (refine qa_arr ?_; (repeat' (first | rfl | refine qa_cons ?_ ?_ | refine qa_int ?_ | refine qa_agg ?_ | refine qa_arr ?_ | omega)); done)); (with_reducible refine (prefix_mask.calls a0_1 t197 _ A3.out).mono ?_)); rintro e w' ⟨rfl, ⟨nd, rfl⟩⟩; (try first | exact ⟨rfl, _, World.drewN_drewN _ _ _⟩ | exact ⟨rfl, _, Eq.trans (World.drewN_drewN _ _ _) (congrArg (World.drewN _) (Nat.add_assoc _ _ _))⟩)))
    repeat (go_quiet (first | ((with_reducible refine gate_dst (N := 1) rfl ?_); refine box_event ?hg (N := 1) ?hd (cs := #[.int .u32 a0_0, .int .u8 a0_1]) (t := 25) ?hr ?_; (case hd => rfl); (case hg => rfl); (case hr => first | (go_simp; done) | (go_simp; rfl)); intro gb196 hg w4 hbox hb; have n0_ := Aside0.mk (below_step (by repeat (first | (with_reducible first | exact HB.out | apply below_alloc | apply pw_below_drewN | apply below_drew1) | exact HB.out)) hb); have n1_ := Aside0.mk (hbox); have n2_ := Aside0.mk ((by rw [hg]; exact (below_size (by repeat (first | (with_reducible first | exact HB.out | apply below_alloc | apply pw_below_drewN | apply below_drew1) | exact HB.out))) : w.heap.size ≤ gb196)); have n3_ := Aside0.mk ((by rw [hg]; exact (below_size (by repeat (first | (with_reducible first | exact HB.out | apply below_alloc | apply pw_below_drewN | apply below_drew1) | exact HB.out))) : w.heap.size ≤ gb196)); clear HB; have HB := n0_; have BK196 := n1_; have GW196 := n2_; have GE196 := n3_; clear n0_ n1_ n2_ n3_; clear hb hbox hg; have hcz5_0 : w4.cell? ⟨gb196, 0, none⟩ = some (.int .u32 a0_0) := (blk_cell BK196.out 0).trans rfl; have hcz5_1 : w4.cell? ⟨gb196, 1, none⟩ = some (.int .u8 a0_1) := (blk_cell BK196.out 1).trans rfl; have hfz5_0 := blk_frozen BK196.out 0; have hfz5_1 := blk_frozen BK196.out 1) | (go_at_call 59; (with_reducible refine (prefix_mask.calls a0_1 t197 _ A3.out).mono ?_); rintro e w' ⟨rfl, ⟨nd, rfl⟩⟩; (try first | exact ⟨rfl, _, World.drewN_drewN _ _ _⟩ | exact ⟨rfl, _, Eq.trans (World.drewN_drewN _ _ _) (congrArg (World.drewN _) (Nat.add_assoc _ _ _))⟩)) | (go_at_call 59; (refine calls_of_args (args' := #[.int .u8 a0_1]) ?_ ?_; focus (first | rfl | (simp; done) | (refine qa_arr ?_; (repeat' (first | rfl | refine qa_cons ?_ ?_ | refine qa_int ?_ | refine qa_agg ?_ | refine qa_arr ?_ | omega)); done)); (with_reducible refine (prefix_mask.calls a0_1 t197 _ A3.out).mono ?_)); rintro e w' ⟨rfl, ⟨nd, rfl⟩⟩; (try first | exact ⟨rfl, _, World.drewN_drewN _ _ _⟩ | exact ⟨rfl, _, Eq.trans (World.drewN_drewN _ _ _) (congrArg (World.drewN _) (Nat.add_assoc _ _ _))⟩))); try go_wp2_with (first | ((with_reducible refine gate_dst (N := 1) rfl ?_); refine box_event ?hg (N := 1) ?hd (cs := #[.int .u32 a0_0, .int .u8 a0_1]) (t := 25) ?hr ?_; (case hd => rfl); (case hg => rfl); (case hr => first | (go_simp; done) | (go_simp; rfl)); intro gb196 hg w4 hbox hb; have n0_ := Aside0.mk (below_step (by repeat (first | (with_reducible first | exact HB.out | apply below_alloc | apply pw_below_drewN | apply below_drew1) | exact HB.out)) hb); have n1_ := Aside0.mk (hbox); have n2_ := Aside0.mk ((by rw [hg]; exact (below_size (by repeat (first | (with_reducible first | exact HB.out | apply below_alloc | apply pw_below_drewN | apply below_drew1) | exact HB.out))) : w.heap.size ≤ gb196)); have n3_ := Aside0.mk ((by rw [hg]; exact (below_size (by repeat (first | (with_reducible first | exact HB.out | apply below_alloc | apply pw_below_drewN | apply below_drew1) | exact HB.out))) : w.heap.size ≤ gb196)); clear HB; have HB := n0_; have BK196 := n1_; have GW196 := n2_; have GE196 := n3_; clear n0_ n1_ n2_ n3_; clear hb hbox hg; have hcz5_0 : w4.cell? ⟨gb196, 0, none⟩ = some (.int .u32 a0_0) := (blk_cell BK196.out 0).trans rfl; have hcz5_1 : w4.cell? ⟨gb196, 1, none⟩ = some (.int .u8 a0_1) := (blk_cell BK196.out 1).trans rfl; have hfz5_0 := blk_frozen BK196.out 0; have hfz5_1 := blk_frozen BK196.out 1) | (go_at_call 59; (with_reducible refine (prefix_mask.calls a0_1 t197 _ A3.out).mono ?_); rintro e w' ⟨rfl, ⟨nd, rfl⟩⟩; (try first | exact ⟨rfl, _, World.drewN_drewN _ _ _⟩ | exact ⟨rfl, _, Eq.trans (World.drewN_drewN _ _ _) (congrArg (World.drewN _) (Nat.add_assoc _ _ _))⟩)) | (go_at_call 59; (refine calls_of_args (args' := #[.int .u8 a0_1]) ?_ ?_; focus (first | rfl | (simp; done) | (refine qa_arr ?_; (repeat' (first | rfl | refine qa_cons ?_ ?_ | refine qa_int ?_ | refine qa_agg ?_ | refine qa_arr ?_ | omega)); done)); (with_reducible refine (prefix_mask.calls a0_1 t197 _ A3.out).mono ?_)); rintro e w' ⟨rfl, ⟨nd, rfl⟩⟩; (try first | exact ⟨rfl, _, World.drewN_drewN _ _ _⟩ | exact ⟨rfl, _, Eq.trans (World.drewN_drewN _ _ _) (congrArg (World.drewN _) (Nat.add_assoc _ _ _))⟩))))
    go_ret
    exact ⟨by first | rfl | (simp [errW_none, errW_some] <;> rfl) | (simp [*, errW_none, errW_some] <;> rfl), by repeat (first | (with_reducible first | exact HB.out | apply below_alloc | apply pw_below_drewN | apply below_drew1 | refine below_set ?_ GE196.out) | exact HB.out)⟩
  · rw [if_neg c2] at H
    have c2b0 : decide (a0_1 ≤ 32) = false := decide_eq_false c2
    clear c2
    obtain rfl := Option.some.inj H
    simp only [Option.some.injEq, Prod.mk.injEq] at H
    obtain ⟨rfl⟩ := H
    go_enter Try.func55, Try.ntmps55
    go_wp2_with (first | ((with_reducible refine gate_dst (N := 1) rfl ?_); refine box_event ?hg (N := 1) ?hd (cs := #[.int .u32 a0_0, .int .u8 a0_1]) (t := 25) ?hr ?_; (case hd => rfl); (case hg => rfl); (case hr => first | (go_simp; done) | (go_simp; rfl)); intro gb196 hg w6 hbox hb; have n0_ := Aside0.mk (below_step (by repeat (first | (with_reducible first | exact HB.out | apply below_alloc | apply pw_below_drewN | apply below_drew1) | exact HB.out)) hb); have n1_ := Aside0.mk (hbox); have n2_ := Aside0.mk ((by rw [hg]; exact (below_size (by repeat (first | (with_reducible first | exact HB.out | apply below_alloc | apply pw_below_drewN | apply below_drew1) | exact HB.out))) : w.heap.size ≤ gb196)); have n3_ := Aside0.mk ((by rw [hg]; exact (below_size (by repeat (first | (with_reducible first | exact HB.out | apply below_alloc | apply pw_below_drewN | apply below_drew1) | exact HB.out))) : w.heap.size ≤ gb196)); clear HB; have HB := n0_; have BK196 := n1_; have GW196 := n2_; have GE196 := n3_; clear n0_ n1_ n2_ n3_; clear hb hbox hg; have hcz7_0 : w6.cell? ⟨gb196, 0, none⟩ = some (.int .u32 a0_0) := (blk_cell BK196.out 0).trans rfl; have hcz7_1 : w6.cell? ⟨gb196, 1, none⟩ = some (.int .u8 a0_1) := (blk_cell BK196.out 1).trans rfl; have hfz7_0 := blk_frozen BK196.out 0; have hfz7_1 := blk_frozen BK196.out 1))
    repeat (go_quiet (first | ((with_reducible refine gate_dst (N := 1) rfl ?_); refine box_event ?hg (N := 1) ?hd (cs := #[.int .u32 a0_0, .int .u8 a0_1]) (t := 25) ?hr ?_; (case hd => rfl); (case hg => rfl); (case hr => first | (go_simp; done) | (go_simp; rfl)); intro gb196 hg w6 hbox hb; have n0_ := Aside0.mk (below_step (by repeat (first | (with_reducible first | exact HB.out | apply below_alloc | apply pw_below_drewN | apply below_drew1) | exact HB.out)) hb); have n1_ := Aside0.mk (hbox); have n2_ := Aside0.mk ((by rw [hg]; exact (below_size (by repeat (first | (with_reducible first | exact HB.out | apply below_alloc | apply pw_below_drewN | apply below_drew1) | exact HB.out))) : w.heap.size ≤ gb196)); have n3_ := Aside0.mk ((by rw [hg]; exact (below_size (by repeat (first | (with_reducible first | exact HB.out | apply below_alloc | apply pw_below_drewN | apply below_drew1) | exact HB.out))) : w.heap.size ≤ gb196)); clear HB; have HB := n0_; have BK196 := n1_; have GW196 := n2_; have GE196 := n3_; clear n0_ n1_ n2_ n3_; clear hb hbox hg; have hcz7_0 : w6.cell? ⟨gb196, 0, none⟩ = some (.int .u32 a0_0) := (blk_cell BK196.out 0).trans rfl; have hcz7_1 : w6.cell? ⟨gb196, 1, none⟩ = some (.int .u8 a0_1) := (blk_cell BK196.out 1).trans rfl; have hfz7_0 := blk_frozen BK196.out 0; have hfz7_1 := blk_frozen BK196.out 1)); try go_wp2_with (first | ((with_reducible refine gate_dst (N := 1) rfl ?_); refine box_event ?hg (N := 1) ?hd (cs := #[.int .u32 a0_0, .int .u8 a0_1]) (t := 25) ?hr ?_; (case hd => rfl); (case hg => rfl); (case hr => first | (go_simp; done) | (go_simp; rfl)); intro gb196 hg w6 hbox hb; have n0_ := Aside0.mk (below_step (by repeat (first | (with_reducible first | exact HB.out | apply below_alloc | apply pw_below_drewN | apply below_drew1) | exact HB.out)) hb); have n1_ := Aside0.mk (hbox); have n2_ := Aside0.mk ((by rw [hg]; exact (below_size (by repeat (first | (with_reducible first | exact HB.out | apply below_alloc | apply pw_below_drewN | apply below_drew1) | exact HB.out))) : w.heap.size ≤ gb196)); have n3_ := Aside0.mk ((by rw [hg]; exact (below_size (by repeat (first | (with_reducible first | exact HB.out | apply below_alloc | apply pw_below_drewN | apply below_drew1) | exact HB.out))) : w.heap.size ≤ gb196)); clear HB; have HB := n0_; have BK196 := n1_; have GW196 := n2_; have GE196 := n3_; clear n0_ n1_ n2_ n3_; clear hb hbox hg; have hcz7_0 : w6.cell? ⟨gb196, 0, none⟩ = some (.int .u32 a0_0) := (blk_cell BK196.out 0).trans rfl; have hcz7_1 : w6.cell? ⟨gb196, 1, none⟩ = some (.int .u8 a0_1) := (blk_cell BK196.out 1).trans rfl; have hfz7_0 := blk_frozen BK196.out 0; have hfz7_1 := blk_frozen BK196.out 1)))
    go_ret
    exact ⟨by first | rfl | (simp [errW_none, errW_some] <;> rfl) | (simp [*, errW_none, errW_some] <;> rfl), by repeat (first | (with_reducible first | exact HB.out | apply below_alloc | apply pw_below_drewN | apply below_drew1 | refine below_set ?_ GE196.out) | exact HB.out)⟩

/-! ### change_Right: function 44 -/
def change_Right.j0 : Nat → Bool → Int → Int → Bool → Int → Int → Int → Int → Int → Int → Int → Int → Int → Int → Option (Int)
  | 0, _, _, _, _, _, _, _, _, _, _, _, _, _, _ => none
  | k + 1, x6, x199000, x199001, x199002, x199003, x199004, x199005, x199006, x199007, x200000, x200001, x200002, x200003, x200004 => if x6 = true then (some 1) else (if x199002 = true then (some 0) else (if x200002 < 0 then (some 1) else (if x200002 ≥ 16 then (some 1) else (if x200003 ≥ 65535 then (some 1) else (some 0)))))
def change_Right.f (k : Nat) (a0_0 : Int) (a0_1 : Int) (a0_2 : Bool) (a0_3 : Int) (a0_4 : Int) (a0_5 : Int) (a0_6 : Int) (a0_7 : Int) : Option (Int) := (prefix_Right.f a0_3 a0_4).bind fun t200 => (if t200 = true then (if a0_2 = true then (change_Right.j0 k (!(a0_5 == 0) || (!(a0_6 == 0) || (!(a0_7 == 0)))) a0_0 a0_1 a0_2 a0_3 a0_4 a0_5 a0_6 a0_7 a0_3 a0_4 a0_5 a0_6 a0_7) else (change_Right.j0 k false a0_0 a0_1 a0_2 a0_3 a0_4 a0_5 a0_6 a0_7 a0_3 a0_4 a0_5 a0_6 a0_7)) else (some 1))
theorem change_Right.mono_l : ∀ k, (∀ y0 y1 y2 y3 y4 y5 y6 y7 y8 y9 y10 y11 y12 y13, LeO (change_Right.j0 k y0 y1 y2 y3 y4 y5 y6 y7 y8 y9 y10 y11 y12 y13) (change_Right.j0 (k + 1) y0 y1 y2 y3 y4 y5 y6 y7 y8 y9 y10 y11 y12 y13))
  | 0 => fun _ _ _ _ _ _ _ _ _ _ _ _ _ _ r h => by simp [change_Right.j0] at h
  | k + 1 => by
    have ih0 := change_Right.mono_l k
    · intro y0 y1 y2 y3 y4 y5 y6 y7 y8 y9 y10 y11 y12 y13
      unfold change_Right.j0
      repeat' first
      | (with_reducible exact ih0 _ _ _ _ _ _ _ _ _ _ _ _ _ _)
      | (with_reducible exact LeO.refl _)
      | (with_reducible exact LeO.none _)
      | (with_reducible refine LeO.ite ?_ ?_)
      | (with_reducible refine LeO.bind ?_ (fun _ => ?_))
      | exact ih0 _ _ _ _ _ _ _ _ _ _ _ _ _ _
      | exact LeO.none _
      | refine LeO.ite ?_ ?_
      | refine LeO.bind ?_ (fun _ => ?_)
theorem change_Right.mono : ∀ a0 a1 a2 a3 a4 a5 a6 a7 k, LeO (change_Right.f k a0 a1 a2 a3 a4 a5 a6 a7) (change_Right.f (k + 1) a0 a1 a2 a3 a4 a5 a6 a7) := by
  intro a0 a1 a2 a3 a4 a5 a6 a7 k
  have ih0 := change_Right.mono_l k
  unfold change_Right.f
  repeat' first
      | (with_reducible exact ih0 _ _ _ _ _ _ _ _ _ _ _ _ _ _)
      | (with_reducible exact LeO.refl _)
      | (with_reducible exact LeO.none _)
      | (with_reducible refine LeO.ite ?_ ?_)
      | (with_reducible refine LeO.bind ?_ (fun _ => ?_))
      | exact ih0 _ _ _ _ _ _ _ _ _ _ _ _ _ _
      | exact LeO.none _
      | refine LeO.ite ?_ ?_
      | refine LeO.bind ?_ (fun _ => ?_)
set_option maxHeartbeats 8000000 in
set_option maxRecDepth 100000 in
theorem change_Right.calls (k : Nat) (a0_0 : Int) (a0_1 : Int) (a0_2 : Bool) (a0_3 : Int) (a0_4 : Int) (a0_5 : Int) (a0_6 : Int) (a0_7 : Int) (r : Int) (w : World) (h : change_Right.f k a0_0 a0_1 a0_2 a0_3 a0_4 a0_5 a0_6 a0_7 = some r) :
    Calls Try.prog 44 #[.agg #[.int .u64 a0_0, .int .u64 a0_1, .bool a0_2, .int .u32 a0_3, .int .u8 a0_4, .int .i64 a0_5, .int .u16 a0_6, .int .u16 a0_7]] w fun e w' => e = .returned (.int .i64 r) ∧ Below w.heap.size w w' := by
  have hu31 := Try.underlying31
  have hu29 := Try.underlying29
  have hu25 := Try.underlying25
  have HB := Aside0.mk (Below.refl w.heap.size w)
  have H : ((prefix_Right.f a0_3 a0_4).bind fun t200 => (if t200 = true then (if a0_2 = true then (change_Right.j0 k (!(a0_5 == 0) || (!(a0_6 == 0) || (!(a0_7 == 0)))) a0_0 a0_1 a0_2 a0_3 a0_4 a0_5 a0_6 a0_7 a0_3 a0_4 a0_5 a0_6 a0_7) else (change_Right.j0 k false a0_0 a0_1 a0_2 a0_3 a0_4 a0_5 a0_6 a0_7 a0_3 a0_4 a0_5 a0_6 a0_7)) else (some 1))) = some r := h
  clear h
  replace H := Option.bind_eq_some_iff.mp H
  obtain ⟨t200, A20, H⟩ := H
  replace H : (if t200 = true then (if a0_2 = true then (change_Right.j0 k (!(a0_5 == 0) || (!(a0_6 == 0) || (!(a0_7 == 0)))) a0_0 a0_1 a0_2 a0_3 a0_4 a0_5 a0_6 a0_7 a0_3 a0_4 a0_5 a0_6 a0_7) else (change_Right.j0 k false a0_0 a0_1 a0_2 a0_3 a0_4 a0_5 a0_6 a0_7 a0_3 a0_4 a0_5 a0_6 a0_7)) else (some 1)) = some r := H
  have A2 := Aside0.mk A20
  clear A20
  by_cases c3 : t200 = true
  · subst c3
    have H1 : (if a0_2 = true then (change_Right.j0 k (!(a0_5 == 0) || (!(a0_6 == 0) || (!(a0_7 == 0)))) a0_0 a0_1 a0_2 a0_3 a0_4 a0_5 a0_6 a0_7 a0_3 a0_4 a0_5 a0_6 a0_7) else (change_Right.j0 k false a0_0 a0_1 a0_2 a0_3 a0_4 a0_5 a0_6 a0_7 a0_3 a0_4 a0_5 a0_6 a0_7)) = some r := by rw [if_pos rfl] at H; exact H
    clear H
    have H := H1
    clear H1
    have HC4 := Aside0.mk H
    clear H
    go_enter Try.func44, Try.ntmps44
    go_upto_region 3 with (first | ((with_reducible refine gate_dst (N := 1) rfl ?_); refine box_event ?hg (N := 1) ?hd (cs := #[.int .u64 a0_0, .int .u64 a0_1, .bool a0_2, .int .u32 a0_3, .int .u8 a0_4, .int .i64 a0_5, .int .u16 a0_6, .int .u16 a0_7]) (t := 31) ?hr ?_; (case hd => rfl); (case hg => rfl); (case hr => first | (go_simp; done) | (go_simp; rfl)); intro gb198 hg w5 hbox hb; have n0_ := Aside0.mk (below_step (by repeat (first | (with_reducible first | exact HB.out | apply below_alloc | apply pw_below_drewN | apply below_drew1) | exact HB.out)) hb); have n1_ := Aside0.mk (hbox); have n2_ := Aside0.mk ((by rw [hg]; exact (below_size (by repeat (first | (with_reducible first | exact HB.out | apply below_alloc | apply pw_below_drewN | apply below_drew1) | exact HB.out))) : w.heap.size ≤ gb198)); have n3_ := Aside0.mk ((by rw [hg]; exact (below_size (by repeat (first | (with_reducible first | exact HB.out | apply below_alloc | apply pw_below_drewN | apply below_drew1) | exact HB.out))) : w.heap.size ≤ gb198)); clear HB; have HB := n0_; have BK198 := n1_; have GW198 := n2_; have GE198 := n3_; clear n0_ n1_ n2_ n3_; clear hb hbox hg; have hcz6_0 : w5.cell? ⟨gb198, 0, none⟩ = some (.int .u64 a0_0) := (blk_cell BK198.out 0).trans rfl; have hcz6_1 : w5.cell? ⟨gb198, 1, none⟩ = some (.int .u64 a0_1) := (blk_cell BK198.out 1).trans rfl; have hcz6_2 : w5.cell? ⟨gb198, 2, none⟩ = some (.bool a0_2) := (blk_cell BK198.out 2).trans rfl; have hcz6_3 : w5.cell? ⟨gb198, 3, none⟩ = some (.int .u32 a0_3) := (blk_cell BK198.out 3).trans rfl; have hcz6_4 : w5.cell? ⟨gb198, 4, none⟩ = some (.int .u8 a0_4) := (blk_cell BK198.out 4).trans rfl; have hcz6_5 : w5.cell? ⟨gb198, 5, none⟩ = some (.int .i64 a0_5) := (blk_cell BK198.out 5).trans rfl; have hcz6_6 : w5.cell? ⟨gb198, 6, none⟩ = some (.int .u16 a0_6) := (blk_cell BK198.out 6).trans rfl; have hcz6_7 : w5.cell? ⟨gb198, 7, none⟩ = some (.int .u16 a0_7) := (blk_cell BK198.out 7).trans rfl; have hfz6_0 := blk_frozen BK198.out 0; have hfz6_1 := blk_frozen BK198.out 1; have hfz6_2 := blk_frozen BK198.out 2; have hfz6_3 := blk_frozen BK198.out 3; have hfz6_4 := blk_frozen BK198.out 4; have hfz6_5 := blk_frozen BK198.out 5; have hfz6_6 := blk_frozen BK198.out 6; have hfz6_7 := blk_frozen BK198.out 7) | ((with_reducible refine gate_dst (N := 3) rfl ?_); refine box_event ?hg (N := 3) ?hd (cs := #[.int .u32 0, .int .u8 0, .int .i64 0, .int .u16 0, .int .u16 0]) (t := 29) ?hr ?_; (case hd => rfl); (case hg => rfl); (case hr => first | (go_simp; done) | (go_simp; rfl)); intro gb199 hg w7 hbox hb; have n0_ := Aside0.mk (blk_below (g := gb198) (o := .cells #[.int .u64 a0_0, .int .u64 a0_1, .bool a0_2, .int .u32 a0_3, .int .u8 a0_4, .int .i64 a0_5, .int .u16 a0_6, .int .u16 a0_7] 31 (0, 0)) (by (with_reducible repeat (first | refine blk_drewN ?_ _ | refine blk_drew ?_ | refine blk_alloc ?_ _)); exact BK198.out) hb); have n1_ := Aside0.mk (below_step (by repeat (first | (with_reducible first | exact HB.out | apply below_alloc | apply pw_below_drewN | apply below_drew1 | refine below_set ?_ GE198.out) | exact HB.out)) hb); have n2_ := Aside0.mk (hbox); have n3_ := Aside0.mk ((by rw [hg]; exact (below_size (by repeat (first | (with_reducible first | exact HB.out | apply below_alloc | apply pw_below_drewN | apply below_drew1 | refine below_set ?_ GE198.out) | exact HB.out))) : w.heap.size ≤ gb199)); have n4_ := Aside0.mk ((by rw [hg]; exact (below_size (by repeat (first | (with_reducible first | exact HB.out | apply below_alloc | apply pw_below_drewN | apply below_drew1 | refine below_set ?_ GE198.out) | exact HB.out))) : w.heap.size ≤ gb199)); have n5_ := Aside0.mk ((by rw [hg]; exact Nat.ne_of_lt (blk_lt (g := gb198) (o := .cells #[.int .u64 a0_0, .int .u64 a0_1, .bool a0_2, .int .u32 a0_3, .int .u8 a0_4, .int .i64 a0_5, .int .u16 a0_6, .int .u16 a0_7] 31 (0, 0)) (by (with_reducible repeat (first | refine blk_drewN ?_ _ | refine blk_drew ?_ | refine blk_alloc ?_ _)); exact BK198.out)) : gb198 ≠ gb199)); have n6_ := Aside0.mk ((by rw [hg]; exact Nat.ne_of_gt (blk_lt (g := gb198) (o := .cells #[.int .u64 a0_0, .int .u64 a0_1, .bool a0_2, .int .u32 a0_3, .int .u8 a0_4, .int .i64 a0_5, .int .u16 a0_6, .int .u16 a0_7] 31 (0, 0)) (by (with_reducible repeat (first | refine blk_drewN ?_ _ | refine blk_drew ?_ | refine blk_alloc ?_ _)); exact BK198.out)) : gb199 ≠ gb198)); clear BK198; clear HB; have BK198 := n0_; have HB := n1_; have BK199 := n2_; have GW199 := n3_; have GE199 := n4_; have NB198_199 := n5_; have NB199_198 := n6_; clear n0_ n1_ n2_ n3_ n4_ n5_ n6_; clear hb hbox hg; have hnb8 := NB199_198.out; have hnc8 := NB198_199.out; have hcz9_0 : w7.cell? ⟨gb199, 0, none⟩ = some (.int .u32 0) := (blk_cell BK199.out 0).trans rfl; have hcz9_1 : w7.cell? ⟨gb199, 1, none⟩ = some (.int .u8 0) := (blk_cell BK199.out 1).trans rfl; have hcz9_2 : w7.cell? ⟨gb199, 2, none⟩ = some (.int .i64 0) := (blk_cell BK199.out 2).trans rfl; have hcz9_3 : w7.cell? ⟨gb199, 3, none⟩ = some (.int .u16 0) := (blk_cell BK199.out 3).trans rfl; have hcz9_4 : w7.cell? ⟨gb199, 4, none⟩ = some (.int .u16 0) := (blk_cell BK199.out 4).trans rfl; have hfz9_0 := blk_frozen BK199.out 0; have hfz9_1 := blk_frozen BK199.out 1; have hfz9_2 := blk_frozen BK199.out 2; have hfz9_3 := blk_frozen BK199.out 3; have hfz9_4 := blk_frozen BK199.out 4) | ((with_reducible refine gate_callee (f := 55) rfl ?_); refine goesL_ (some 9) rfl rfl Try.func55 (by kernel_rfl) rfl #[.agg #[.int .u32 a0_3, .int .u8 a0_4]] rfl (by (try simp only [List.map_toArray, List.map_cons, List.map_nil]); first | done | rfl | (simp only [List.length_drop, List.length_take]; rfl) | (simp; done) | (refine qa_arr ?_; (repeat' (first | rfl | refine qa_cons ?_ ?_ | refine qa_int ?_ | refine qa_agg ?_ | refine qa_arr ?_ | omega)); done)) ?_; (with_reducible refine (prefix_Right.calls a0_3 a0_4 true _ A2.out).mono ?_); rintro e w10 ⟨rfl, hb⟩; refine ⟨_, rfl, ?_⟩; have n0_ := Aside0.mk (blk_below (g := gb198) (o := .cells #[.int .u64 a0_0, .int .u64 a0_1, .bool a0_2, .int .u32 a0_3, .int .u8 a0_4, .int .i64 a0_5, .int .u16 a0_6, .int .u16 a0_7] 31 (0, 0)) (by (with_reducible repeat (first | refine blk_drewN ?_ _ | refine blk_drew ?_ | refine blk_alloc ?_ _)); refine blk_far ?_ NB198_199.out _; (with_reducible repeat (first | refine blk_drewN ?_ _ | refine blk_drew ?_ | refine blk_alloc ?_ _)); refine blk_far ?_ NB198_199.out _; (with_reducible repeat (first | refine blk_drewN ?_ _ | refine blk_drew ?_ | refine blk_alloc ?_ _)); refine blk_far ?_ NB198_199.out _; (with_reducible repeat (first | refine blk_drewN ?_ _ | refine blk_drew ?_ | refine blk_alloc ?_ _)); refine blk_far ?_ NB198_199.out _; (with_reducible repeat (first | refine blk_drewN ?_ _ | refine blk_drew ?_ | refine blk_alloc ?_ _)); refine blk_far ?_ NB198_199.out _; (with_reducible repeat (first | refine blk_drewN ?_ _ | refine blk_drew ?_ | refine blk_alloc ?_ _)); exact BK198.out) hb); have n1_ := Aside0.mk (blk_below (g := gb199) (o := .cells #[.int .u32 a0_3, .int .u8 a0_4, .int .i64 a0_5, .int .u16 a0_6, .int .u16 a0_7] 29 (0, 0)) (by (with_reducible repeat (first | refine blk_drewN ?_ _ | refine blk_drew ?_ | refine blk_alloc ?_ _)); refine blk_put (cs := #[.int .u32 a0_3, .int .u8 a0_4, .int .i64 a0_5, .int .u16 a0_6, .int .u16 0]) ?_ 4 _ rfl; (with_reducible repeat (first | refine blk_drewN ?_ _ | refine blk_drew ?_ | refine blk_alloc ?_ _)); refine blk_put (cs := #[.int .u32 a0_3, .int .u8 a0_4, .int .i64 a0_5, .int .u16 0, .int .u16 0]) ?_ 3 _ rfl; (with_reducible repeat (first | refine blk_drewN ?_ _ | refine blk_drew ?_ | refine blk_alloc ?_ _)); refine blk_put (cs := #[.int .u32 a0_3, .int .u8 a0_4, .int .i64 0, .int .u16 0, .int .u16 0]) ?_ 2 _ rfl; (with_reducible repeat (first | refine blk_drewN ?_ _ | refine blk_drew ?_ | refine blk_alloc ?_ _)); refine blk_put (cs := #[.int .u32 a0_3, .int .u8 0, .int .i64 0, .int .u16 0, .int .u16 0]) ?_ 1 _ rfl; (with_reducible repeat (first | refine blk_drewN ?_ _ | refine blk_drew ?_ | refine blk_alloc ?_ _)); refine blk_put (cs := #[.int .u32 0, .int .u8 0, .int .i64 0, .int .u16 0, .int .u16 0]) ?_ 0 _ rfl; (with_reducible repeat (first | refine blk_drewN ?_ _ | refine blk_drew ?_ | refine blk_alloc ?_ _)); exact BK199.out) hb); have n2_ := Aside0.mk (below_step (by repeat (first | (with_reducible first | exact HB.out | apply below_alloc | apply pw_below_drewN | apply below_drew1 | refine below_set ?_ GE198.out | refine below_set ?_ GE199.out) | exact HB.out)) hb); clear BK198; clear BK199; clear HB; have BK198 := n0_; have BK199 := n1_; have HB := n2_; clear n0_ n1_ n2_; (try clear hb); (try clear hb2); (try clear hk); (try clear hi)))
    (try simp only [Act.put, List.setIfInBounds_toArray, List.set_cons_zero, List.set_cons_succ])
    go_cut [6] (fun v6 wc => ∃ (kq : Nat) (x6_3 : Bool), v6 = .bool x6_3 ∧ Aside0 (change_Right.j0 kq x6_3 a0_0 a0_1 a0_2 a0_3 a0_4 a0_5 a0_6 a0_7 a0_3 a0_4 a0_5 a0_6 a0_7 = some r) ∧ Aside0 (kq ≤ k) ∧ Aside0 (wc.heap[gb198]? = some (.cells #[.int .u64 a0_0, .int .u64 a0_1, .bool a0_2, .int .u32 a0_3, .int .u8 a0_4, .int .i64 a0_5, .int .u16 a0_6, .int .u16 a0_7] 31 (0, 0))) ∧ Aside0 (wc.heap[gb199]? = some (.cells #[.int .u32 a0_3, .int .u8 a0_4, .int .i64 a0_5, .int .u16 a0_6, .int .u16 a0_7] 29 (0, 0))) ∧ Aside0 (Below w.heap.size w wc))
    case first =>
      have H := HC4.out
      clear HC4
      by_cases c11 : a0_2 = true
      · subst c11
        have H1 : (change_Right.j0 k (!(a0_5 == 0) || (!(a0_6 == 0) || (!(a0_7 == 0)))) a0_0 a0_1 true a0_3 a0_4 a0_5 a0_6 a0_7 a0_3 a0_4 a0_5 a0_6 a0_7) = some r := by rw [if_pos rfl] at H; exact H
        clear H
        have H := H1
        clear H1
        have H' := Aside0.mk H
        clear H
        have hnb12 := NB198_199.out
        have hnc12 := NB199_198.out
        have hcz13_0 : w10.cell? ⟨gb198, 0, none⟩ = some (.int .u64 a0_0) := (blk_cell BK198.out 0).trans rfl
        have hcz13_1 : w10.cell? ⟨gb198, 1, none⟩ = some (.int .u64 a0_1) := (blk_cell BK198.out 1).trans rfl
        have hcz13_2 : w10.cell? ⟨gb198, 2, none⟩ = some (.bool true) := (blk_cell BK198.out 2).trans rfl
        have hcz13_3 : w10.cell? ⟨gb198, 3, none⟩ = some (.int .u32 a0_3) := (blk_cell BK198.out 3).trans rfl
        have hcz13_4 : w10.cell? ⟨gb198, 4, none⟩ = some (.int .u8 a0_4) := (blk_cell BK198.out 4).trans rfl
        have hcz13_5 : w10.cell? ⟨gb198, 5, none⟩ = some (.int .i64 a0_5) := (blk_cell BK198.out 5).trans rfl
        have hcz13_6 : w10.cell? ⟨gb198, 6, none⟩ = some (.int .u16 a0_6) := (blk_cell BK198.out 6).trans rfl
        have hcz13_7 : w10.cell? ⟨gb198, 7, none⟩ = some (.int .u16 a0_7) := (blk_cell BK198.out 7).trans rfl
        have hfz13_0 := blk_frozen BK198.out 0
        have hfz13_1 := blk_frozen BK198.out 1
        have hfz13_2 := blk_frozen BK198.out 2
        have hfz13_3 := blk_frozen BK198.out 3
        have hfz13_4 := blk_frozen BK198.out 4
        have hfz13_5 := blk_frozen BK198.out 5
        have hfz13_6 := blk_frozen BK198.out 6
        have hfz13_7 := blk_frozen BK198.out 7
        have hcz14_0 : w10.cell? ⟨gb199, 0, none⟩ = some (.int .u32 a0_3) := (blk_cell BK199.out 0).trans rfl
        have hcz14_1 : w10.cell? ⟨gb199, 1, none⟩ = some (.int .u8 a0_4) := (blk_cell BK199.out 1).trans rfl
        have hcz14_2 : w10.cell? ⟨gb199, 2, none⟩ = some (.int .i64 a0_5) := (blk_cell BK199.out 2).trans rfl
        have hcz14_3 : w10.cell? ⟨gb199, 3, none⟩ = some (.int .u16 a0_6) := (blk_cell BK199.out 3).trans rfl
        have hcz14_4 : w10.cell? ⟨gb199, 4, none⟩ = some (.int .u16 a0_7) := (blk_cell BK199.out 4).trans rfl
        have hfz14_0 := blk_frozen BK199.out 0
        have hfz14_1 := blk_frozen BK199.out 1
        have hfz14_2 := blk_frozen BK199.out 2
        have hfz14_3 := blk_frozen BK199.out 3
        have hfz14_4 := blk_frozen BK199.out 4
        go_wp2
        go_meet
        case rel => exact ⟨_, ((!(a0_5 == 0) || (!(a0_6 == 0) || (!(a0_7 == 0))))), (by first | rfl | (simp; done) | (simp [*]; done) | (refine qa_int ?_; omega) | (refine qa_int ?_; simp <;> omega)), H', ⟨by first | omega | exact Nat.le_refl _⟩, ⟨by (with_reducible repeat (first | refine blk_drewN ?_ _ | refine blk_drew ?_ | refine blk_alloc ?_ _)); exact BK198.out⟩, ⟨by (with_reducible repeat (first | refine blk_drewN ?_ _ | refine blk_drew ?_ | refine blk_alloc ?_ _)); exact BK199.out⟩, ⟨by repeat (first | (with_reducible first | exact HB.out | apply below_alloc | apply pw_below_drewN | apply below_drew1 | refine below_set ?_ GE198.out | refine below_set ?_ GE199.out) | exact HB.out)⟩⟩
      · replace c11 := Bool.eq_false_iff.mpr c11
        subst c11
        have H1 : (change_Right.j0 k false a0_0 a0_1 false a0_3 a0_4 a0_5 a0_6 a0_7 a0_3 a0_4 a0_5 a0_6 a0_7) = some r := by rw [if_neg (show ¬ (false = true) by decide)] at H; exact H
        clear H
        have H := H1
        clear H1
        have H' := Aside0.mk H
        clear H
        have hnb15 := NB198_199.out
        have hnc15 := NB199_198.out
        have hcz16_0 : w10.cell? ⟨gb198, 0, none⟩ = some (.int .u64 a0_0) := (blk_cell BK198.out 0).trans rfl
        have hcz16_1 : w10.cell? ⟨gb198, 1, none⟩ = some (.int .u64 a0_1) := (blk_cell BK198.out 1).trans rfl
        have hcz16_2 : w10.cell? ⟨gb198, 2, none⟩ = some (.bool false) := (blk_cell BK198.out 2).trans rfl
        have hcz16_3 : w10.cell? ⟨gb198, 3, none⟩ = some (.int .u32 a0_3) := (blk_cell BK198.out 3).trans rfl
        have hcz16_4 : w10.cell? ⟨gb198, 4, none⟩ = some (.int .u8 a0_4) := (blk_cell BK198.out 4).trans rfl
        have hcz16_5 : w10.cell? ⟨gb198, 5, none⟩ = some (.int .i64 a0_5) := (blk_cell BK198.out 5).trans rfl
        have hcz16_6 : w10.cell? ⟨gb198, 6, none⟩ = some (.int .u16 a0_6) := (blk_cell BK198.out 6).trans rfl
        have hcz16_7 : w10.cell? ⟨gb198, 7, none⟩ = some (.int .u16 a0_7) := (blk_cell BK198.out 7).trans rfl
        have hfz16_0 := blk_frozen BK198.out 0
        have hfz16_1 := blk_frozen BK198.out 1
        have hfz16_2 := blk_frozen BK198.out 2
        have hfz16_3 := blk_frozen BK198.out 3
        have hfz16_4 := blk_frozen BK198.out 4
        have hfz16_5 := blk_frozen BK198.out 5
        have hfz16_6 := blk_frozen BK198.out 6
        have hfz16_7 := blk_frozen BK198.out 7
        go_wp2
        go_meet
        case rel => exact ⟨_, (false), (by first | rfl | (simp; done) | (simp [*]; done) | (refine qa_int ?_; omega) | (refine qa_int ?_; simp <;> omega)), H', ⟨by first | omega | exact Nat.le_refl _⟩, ⟨by (with_reducible repeat (first | refine blk_drewN ?_ _ | refine blk_drew ?_ | refine blk_alloc ?_ _)); exact BK198.out⟩, ⟨by (with_reducible repeat (first | refine blk_drewN ?_ _ | refine blk_drew ?_ | refine blk_alloc ?_ _)); exact BK199.out⟩, ⟨by repeat (first | (with_reducible first | exact HB.out | apply below_alloc | apply pw_below_drewN | apply below_drew1 | refine below_set ?_ GE198.out | refine below_set ?_ GE199.out) | exact HB.out)⟩⟩
    case rest =>
      clear HC4
      try clear c1
      try clear p2
      try clear c3
      try clear c4
      try clear c5
      try clear c8
      try clear c11
      try clear c12
      try clear c15
      try clear hcz13_0
      try clear hcz13_1
      try clear hcz13_2
      try clear hcz13_3
      try clear hcz13_4
      try clear hcz13_5
      try clear hcz13_6
      try clear hcz13_7
      try clear hcz14_0
      try clear hcz14_1
      try clear hcz14_2
      try clear hcz14_3
      try clear hcz14_4
      try clear hcz16_0
      try clear hcz16_1
      try clear hcz16_2
      try clear hcz16_3
      try clear hcz16_4
      try clear hcz16_5
      try clear hcz16_6
      try clear hcz16_7
      try clear hcz6_0
      try clear hcz6_1
      try clear hcz6_2
      try clear hcz6_3
      try clear hcz6_4
      try clear hcz6_5
      try clear hcz6_6
      try clear hcz6_7
      try clear hcz9_0
      try clear hcz9_1
      try clear hcz9_2
      try clear hcz9_3
      try clear hcz9_4
      try clear hfz13_0
      try clear hfz13_1
      try clear hfz13_2
      try clear hfz13_3
      try clear hfz13_4
      try clear hfz13_5
      try clear hfz13_6
      try clear hfz13_7
      try clear hfz14_0
      try clear hfz14_1
      try clear hfz14_2
      try clear hfz14_3
      try clear hfz14_4
      try clear hfz16_0
      try clear hfz16_1
      try clear hfz16_2
      try clear hfz16_3
      try clear hfz16_4
      try clear hfz16_5
      try clear hfz16_6
      try clear hfz16_7
      try clear hfz6_0
      try clear hfz6_1
      try clear hfz6_2
      try clear hfz6_3
      try clear hfz6_4
      try clear hfz6_5
      try clear hfz6_6
      try clear hfz6_7
      try clear hfz9_0
      try clear hfz9_1
      try clear hfz9_2
      try clear hfz9_3
      try clear hfz9_4
      obtain ⟨kq, x6_3, rfl, HA, HJ3, BK198, BK199, HB⟩ := hcut
      cases kq with
      | zero => exact absurd HA.out (by simp [change_Right.j0])
      | succ kj3 =>
        have H := HA.out
        clear HA
        simp only [change_Right.j0] at H
        by_cases c17 : x6_3 = true
        · subst c17
          have H1 : (some 1) = some r := by rw [if_pos rfl] at H; exact H
          clear H
          have H := H1
          clear H1
          obtain rfl := Option.some.inj H
          simp only [Option.some.injEq, Prod.mk.injEq] at H
          obtain ⟨rfl⟩ := H
          go_wp2
          go_ret
          exact ⟨by first | rfl | (simp [errW_none, errW_some] <;> rfl) | (simp [*, errW_none, errW_some] <;> rfl), by repeat (first | (with_reducible first | exact HB.out | apply below_alloc | apply pw_below_drewN | apply below_drew1 | refine below_set ?_ GE198.out | refine below_set ?_ GE199.out) | exact HB.out)⟩
        · replace c17 := Bool.eq_false_iff.mpr c17
          subst c17
          have H1 : (if a0_2 = true then (some 0) else (if a0_5 < 0 then (some 1) else (if a0_5 ≥ 16 then (some 1) else (if a0_6 ≥ 65535 then (some 1) else (some 0))))) = some r := by rw [if_neg (show ¬ (false = true) by decide)] at H; exact H
          clear H
          have H := H1
          clear H1
          by_cases c18 : a0_2 = true
          · subst c18
            have H1 : (some 0) = some r := by rw [if_pos rfl] at H; exact H
            clear H
            have H := H1
            clear H1
            obtain rfl := Option.some.inj H
            simp only [Option.some.injEq, Prod.mk.injEq] at H
            obtain ⟨rfl⟩ := H
            have hnb19 := NB198_199.out
            have hnc19 := NB199_198.out
            have hcz20_0 : wc.cell? ⟨gb198, 0, none⟩ = some (.int .u64 a0_0) := (blk_cell BK198.out 0).trans rfl
            have hcz20_1 : wc.cell? ⟨gb198, 1, none⟩ = some (.int .u64 a0_1) := (blk_cell BK198.out 1).trans rfl
            have hcz20_2 : wc.cell? ⟨gb198, 2, none⟩ = some (.bool true) := (blk_cell BK198.out 2).trans rfl
            have hcz20_3 : wc.cell? ⟨gb198, 3, none⟩ = some (.int .u32 a0_3) := (blk_cell BK198.out 3).trans rfl
            have hcz20_4 : wc.cell? ⟨gb198, 4, none⟩ = some (.int .u8 a0_4) := (blk_cell BK198.out 4).trans rfl
            have hcz20_5 : wc.cell? ⟨gb198, 5, none⟩ = some (.int .i64 a0_5) := (blk_cell BK198.out 5).trans rfl
            have hcz20_6 : wc.cell? ⟨gb198, 6, none⟩ = some (.int .u16 a0_6) := (blk_cell BK198.out 6).trans rfl
            have hcz20_7 : wc.cell? ⟨gb198, 7, none⟩ = some (.int .u16 a0_7) := (blk_cell BK198.out 7).trans rfl
            have hfz20_0 := blk_frozen BK198.out 0
            have hfz20_1 := blk_frozen BK198.out 1
            have hfz20_2 := blk_frozen BK198.out 2
            have hfz20_3 := blk_frozen BK198.out 3
            have hfz20_4 := blk_frozen BK198.out 4
            have hfz20_5 := blk_frozen BK198.out 5
            have hfz20_6 := blk_frozen BK198.out 6
            have hfz20_7 := blk_frozen BK198.out 7
            go_wp2
            go_ret
            exact ⟨by first | rfl | (simp [errW_none, errW_some] <;> rfl) | (simp [*, errW_none, errW_some] <;> rfl), by repeat (first | (with_reducible first | exact HB.out | apply below_alloc | apply pw_below_drewN | apply below_drew1 | refine below_set ?_ GE198.out | refine below_set ?_ GE199.out) | exact HB.out)⟩
          · replace c18 := Bool.eq_false_iff.mpr c18
            subst c18
            have H1 : (if a0_5 < 0 then (some 1) else (if a0_5 ≥ 16 then (some 1) else (if a0_6 ≥ 65535 then (some 1) else (some 0)))) = some r := by rw [if_neg (show ¬ (false = true) by decide)] at H; exact H
            clear H
            have H := H1
            clear H1
            by_cases c21 : a0_5 < 0
            · rw [if_pos c21] at H
              have c21b0 : decide (a0_5 < 0) = true := decide_eq_true c21
              clear c21
              obtain rfl := Option.some.inj H
              simp only [Option.some.injEq, Prod.mk.injEq] at H
              obtain ⟨rfl⟩ := H
              have hnb22 := NB198_199.out
              have hnc22 := NB199_198.out
              have hcz23_0 : wc.cell? ⟨gb198, 0, none⟩ = some (.int .u64 a0_0) := (blk_cell BK198.out 0).trans rfl
              have hcz23_1 : wc.cell? ⟨gb198, 1, none⟩ = some (.int .u64 a0_1) := (blk_cell BK198.out 1).trans rfl
              have hcz23_2 : wc.cell? ⟨gb198, 2, none⟩ = some (.bool false) := (blk_cell BK198.out 2).trans rfl
              have hcz23_3 : wc.cell? ⟨gb198, 3, none⟩ = some (.int .u32 a0_3) := (blk_cell BK198.out 3).trans rfl
              have hcz23_4 : wc.cell? ⟨gb198, 4, none⟩ = some (.int .u8 a0_4) := (blk_cell BK198.out 4).trans rfl
              have hcz23_5 : wc.cell? ⟨gb198, 5, none⟩ = some (.int .i64 a0_5) := (blk_cell BK198.out 5).trans rfl
              have hcz23_6 : wc.cell? ⟨gb198, 6, none⟩ = some (.int .u16 a0_6) := (blk_cell BK198.out 6).trans rfl
              have hcz23_7 : wc.cell? ⟨gb198, 7, none⟩ = some (.int .u16 a0_7) := (blk_cell BK198.out 7).trans rfl
              have hfz23_0 := blk_frozen BK198.out 0
              have hfz23_1 := blk_frozen BK198.out 1
              have hfz23_2 := blk_frozen BK198.out 2
              have hfz23_3 := blk_frozen BK198.out 3
              have hfz23_4 := blk_frozen BK198.out 4
              have hfz23_5 := blk_frozen BK198.out 5
              have hfz23_6 := blk_frozen BK198.out 6
              have hfz23_7 := blk_frozen BK198.out 7
              have hcz24_0 : wc.cell? ⟨gb199, 0, none⟩ = some (.int .u32 a0_3) := (blk_cell BK199.out 0).trans rfl
              have hcz24_1 : wc.cell? ⟨gb199, 1, none⟩ = some (.int .u8 a0_4) := (blk_cell BK199.out 1).trans rfl
              have hcz24_2 : wc.cell? ⟨gb199, 2, none⟩ = some (.int .i64 a0_5) := (blk_cell BK199.out 2).trans rfl
              have hcz24_3 : wc.cell? ⟨gb199, 3, none⟩ = some (.int .u16 a0_6) := (blk_cell BK199.out 3).trans rfl
              have hcz24_4 : wc.cell? ⟨gb199, 4, none⟩ = some (.int .u16 a0_7) := (blk_cell BK199.out 4).trans rfl
              have hfz24_0 := blk_frozen BK199.out 0
              have hfz24_1 := blk_frozen BK199.out 1
              have hfz24_2 := blk_frozen BK199.out 2
              have hfz24_3 := blk_frozen BK199.out 3
              have hfz24_4 := blk_frozen BK199.out 4
              go_wp2
              go_ret
              exact ⟨by first | rfl | (simp [errW_none, errW_some] <;> rfl) | (simp [*, errW_none, errW_some] <;> rfl), by repeat (first | (with_reducible first | exact HB.out | apply below_alloc | apply pw_below_drewN | apply below_drew1 | refine below_set ?_ GE198.out | refine below_set ?_ GE199.out) | exact HB.out)⟩
            · rw [if_neg c21] at H
              have c21b0 : decide (a0_5 < 0) = false := decide_eq_false c21
              clear c21
              by_cases c25 : a0_5 ≥ 16
              · rw [if_pos c25] at H
                have c25b0 : decide (16 ≤ a0_5) = true := decide_eq_true c25
                clear c25
                obtain rfl := Option.some.inj H
                simp only [Option.some.injEq, Prod.mk.injEq] at H
                obtain ⟨rfl⟩ := H
                have hnb26 := NB198_199.out
                have hnc26 := NB199_198.out
                have hcz27_0 : wc.cell? ⟨gb198, 0, none⟩ = some (.int .u64 a0_0) := (blk_cell BK198.out 0).trans rfl
                have hcz27_1 : wc.cell? ⟨gb198, 1, none⟩ = some (.int .u64 a0_1) := (blk_cell BK198.out 1).trans rfl
                have hcz27_2 : wc.cell? ⟨gb198, 2, none⟩ = some (.bool false) := (blk_cell BK198.out 2).trans rfl
                have hcz27_3 : wc.cell? ⟨gb198, 3, none⟩ = some (.int .u32 a0_3) := (blk_cell BK198.out 3).trans rfl
                have hcz27_4 : wc.cell? ⟨gb198, 4, none⟩ = some (.int .u8 a0_4) := (blk_cell BK198.out 4).trans rfl
                have hcz27_5 : wc.cell? ⟨gb198, 5, none⟩ = some (.int .i64 a0_5) := (blk_cell BK198.out 5).trans rfl
                have hcz27_6 : wc.cell? ⟨gb198, 6, none⟩ = some (.int .u16 a0_6) := (blk_cell BK198.out 6).trans rfl
                have hcz27_7 : wc.cell? ⟨gb198, 7, none⟩ = some (.int .u16 a0_7) := (blk_cell BK198.out 7).trans rfl
                have hfz27_0 := blk_frozen BK198.out 0
                have hfz27_1 := blk_frozen BK198.out 1
                have hfz27_2 := blk_frozen BK198.out 2
                have hfz27_3 := blk_frozen BK198.out 3
                have hfz27_4 := blk_frozen BK198.out 4
                have hfz27_5 := blk_frozen BK198.out 5
                have hfz27_6 := blk_frozen BK198.out 6
                have hfz27_7 := blk_frozen BK198.out 7
                have hcz28_0 : wc.cell? ⟨gb199, 0, none⟩ = some (.int .u32 a0_3) := (blk_cell BK199.out 0).trans rfl
                have hcz28_1 : wc.cell? ⟨gb199, 1, none⟩ = some (.int .u8 a0_4) := (blk_cell BK199.out 1).trans rfl
                have hcz28_2 : wc.cell? ⟨gb199, 2, none⟩ = some (.int .i64 a0_5) := (blk_cell BK199.out 2).trans rfl
                have hcz28_3 : wc.cell? ⟨gb199, 3, none⟩ = some (.int .u16 a0_6) := (blk_cell BK199.out 3).trans rfl
                have hcz28_4 : wc.cell? ⟨gb199, 4, none⟩ = some (.int .u16 a0_7) := (blk_cell BK199.out 4).trans rfl
                have hfz28_0 := blk_frozen BK199.out 0
                have hfz28_1 := blk_frozen BK199.out 1
                have hfz28_2 := blk_frozen BK199.out 2
                have hfz28_3 := blk_frozen BK199.out 3
                have hfz28_4 := blk_frozen BK199.out 4
                go_wp2
                go_ret
                exact ⟨by first | rfl | (simp [errW_none, errW_some] <;> rfl) | (simp [*, errW_none, errW_some] <;> rfl), by repeat (first | (with_reducible first | exact HB.out | apply below_alloc | apply pw_below_drewN | apply below_drew1 | refine below_set ?_ GE198.out | refine below_set ?_ GE199.out) | exact HB.out)⟩
              · rw [if_neg c25] at H
                have c25b0 : decide (16 ≤ a0_5) = false := decide_eq_false c25
                clear c25
                by_cases c29 : a0_6 ≥ 65535
                · rw [if_pos c29] at H
                  have c29b0 : decide (65535 ≤ a0_6) = true := decide_eq_true c29
                  clear c29
                  obtain rfl := Option.some.inj H
                  simp only [Option.some.injEq, Prod.mk.injEq] at H
                  obtain ⟨rfl⟩ := H
                  have hnb30 := NB198_199.out
                  have hnc30 := NB199_198.out
                  have hcz31_0 : wc.cell? ⟨gb198, 0, none⟩ = some (.int .u64 a0_0) := (blk_cell BK198.out 0).trans rfl
                  have hcz31_1 : wc.cell? ⟨gb198, 1, none⟩ = some (.int .u64 a0_1) := (blk_cell BK198.out 1).trans rfl
                  have hcz31_2 : wc.cell? ⟨gb198, 2, none⟩ = some (.bool false) := (blk_cell BK198.out 2).trans rfl
                  have hcz31_3 : wc.cell? ⟨gb198, 3, none⟩ = some (.int .u32 a0_3) := (blk_cell BK198.out 3).trans rfl
                  have hcz31_4 : wc.cell? ⟨gb198, 4, none⟩ = some (.int .u8 a0_4) := (blk_cell BK198.out 4).trans rfl
                  have hcz31_5 : wc.cell? ⟨gb198, 5, none⟩ = some (.int .i64 a0_5) := (blk_cell BK198.out 5).trans rfl
                  have hcz31_6 : wc.cell? ⟨gb198, 6, none⟩ = some (.int .u16 a0_6) := (blk_cell BK198.out 6).trans rfl
                  have hcz31_7 : wc.cell? ⟨gb198, 7, none⟩ = some (.int .u16 a0_7) := (blk_cell BK198.out 7).trans rfl
                  have hfz31_0 := blk_frozen BK198.out 0
                  have hfz31_1 := blk_frozen BK198.out 1
                  have hfz31_2 := blk_frozen BK198.out 2
                  have hfz31_3 := blk_frozen BK198.out 3
                  have hfz31_4 := blk_frozen BK198.out 4
                  have hfz31_5 := blk_frozen BK198.out 5
                  have hfz31_6 := blk_frozen BK198.out 6
                  have hfz31_7 := blk_frozen BK198.out 7
                  have hcz32_0 : wc.cell? ⟨gb199, 0, none⟩ = some (.int .u32 a0_3) := (blk_cell BK199.out 0).trans rfl
                  have hcz32_1 : wc.cell? ⟨gb199, 1, none⟩ = some (.int .u8 a0_4) := (blk_cell BK199.out 1).trans rfl
                  have hcz32_2 : wc.cell? ⟨gb199, 2, none⟩ = some (.int .i64 a0_5) := (blk_cell BK199.out 2).trans rfl
                  have hcz32_3 : wc.cell? ⟨gb199, 3, none⟩ = some (.int .u16 a0_6) := (blk_cell BK199.out 3).trans rfl
                  have hcz32_4 : wc.cell? ⟨gb199, 4, none⟩ = some (.int .u16 a0_7) := (blk_cell BK199.out 4).trans rfl
                  have hfz32_0 := blk_frozen BK199.out 0
                  have hfz32_1 := blk_frozen BK199.out 1
                  have hfz32_2 := blk_frozen BK199.out 2
                  have hfz32_3 := blk_frozen BK199.out 3
                  have hfz32_4 := blk_frozen BK199.out 4
                  go_wp2
                  go_ret
                  exact ⟨by first | rfl | (simp [errW_none, errW_some] <;> rfl) | (simp [*, errW_none, errW_some] <;> rfl), by repeat (first | (with_reducible first | exact HB.out | apply below_alloc | apply pw_below_drewN | apply below_drew1 | refine below_set ?_ GE198.out | refine below_set ?_ GE199.out) | exact HB.out)⟩
                · rw [if_neg c29] at H
                  have c29b0 : decide (65535 ≤ a0_6) = false := decide_eq_false c29
                  clear c29
                  obtain rfl := Option.some.inj H
                  simp only [Option.some.injEq, Prod.mk.injEq] at H
                  obtain ⟨rfl⟩ := H
                  have hnb33 := NB198_199.out
                  have hnc33 := NB199_198.out
                  have hcz34_0 : wc.cell? ⟨gb198, 0, none⟩ = some (.int .u64 a0_0) := (blk_cell BK198.out 0).trans rfl
                  have hcz34_1 : wc.cell? ⟨gb198, 1, none⟩ = some (.int .u64 a0_1) := (blk_cell BK198.out 1).trans rfl
                  have hcz34_2 : wc.cell? ⟨gb198, 2, none⟩ = some (.bool false) := (blk_cell BK198.out 2).trans rfl
                  have hcz34_3 : wc.cell? ⟨gb198, 3, none⟩ = some (.int .u32 a0_3) := (blk_cell BK198.out 3).trans rfl
                  have hcz34_4 : wc.cell? ⟨gb198, 4, none⟩ = some (.int .u8 a0_4) := (blk_cell BK198.out 4).trans rfl
                  have hcz34_5 : wc.cell? ⟨gb198, 5, none⟩ = some (.int .i64 a0_5) := (blk_cell BK198.out 5).trans rfl
                  have hcz34_6 : wc.cell? ⟨gb198, 6, none⟩ = some (.int .u16 a0_6) := (blk_cell BK198.out 6).trans rfl
                  have hcz34_7 : wc.cell? ⟨gb198, 7, none⟩ = some (.int .u16 a0_7) := (blk_cell BK198.out 7).trans rfl
                  have hfz34_0 := blk_frozen BK198.out 0
                  have hfz34_1 := blk_frozen BK198.out 1
                  have hfz34_2 := blk_frozen BK198.out 2
                  have hfz34_3 := blk_frozen BK198.out 3
                  have hfz34_4 := blk_frozen BK198.out 4
                  have hfz34_5 := blk_frozen BK198.out 5
                  have hfz34_6 := blk_frozen BK198.out 6
                  have hfz34_7 := blk_frozen BK198.out 7
                  have hcz35_0 : wc.cell? ⟨gb199, 0, none⟩ = some (.int .u32 a0_3) := (blk_cell BK199.out 0).trans rfl
                  have hcz35_1 : wc.cell? ⟨gb199, 1, none⟩ = some (.int .u8 a0_4) := (blk_cell BK199.out 1).trans rfl
                  have hcz35_2 : wc.cell? ⟨gb199, 2, none⟩ = some (.int .i64 a0_5) := (blk_cell BK199.out 2).trans rfl
                  have hcz35_3 : wc.cell? ⟨gb199, 3, none⟩ = some (.int .u16 a0_6) := (blk_cell BK199.out 3).trans rfl
                  have hcz35_4 : wc.cell? ⟨gb199, 4, none⟩ = some (.int .u16 a0_7) := (blk_cell BK199.out 4).trans rfl
                  have hfz35_0 := blk_frozen BK199.out 0
                  have hfz35_1 := blk_frozen BK199.out 1
                  have hfz35_2 := blk_frozen BK199.out 2
                  have hfz35_3 := blk_frozen BK199.out 3
                  have hfz35_4 := blk_frozen BK199.out 4
                  go_wp2
                  go_ret
                  exact ⟨by first | rfl | (simp [errW_none, errW_some] <;> rfl) | (simp [*, errW_none, errW_some] <;> rfl), by repeat (first | (with_reducible first | exact HB.out | apply below_alloc | apply pw_below_drewN | apply below_drew1 | refine below_set ?_ GE198.out | refine below_set ?_ GE199.out) | exact HB.out)⟩
  · replace c3 := Bool.eq_false_iff.mpr c3
    subst c3
    have H1 : (some 1) = some r := by rw [if_neg (show ¬ (false = true) by decide)] at H; exact H
    clear H
    have H := H1
    clear H1
    obtain rfl := Option.some.inj H
    simp only [Option.some.injEq, Prod.mk.injEq] at H
    obtain ⟨rfl⟩ := H
    go_enter Try.func44, Try.ntmps44
    go_wp2_with (first | ((with_reducible refine gate_dst (N := 1) rfl ?_); refine box_event ?hg (N := 1) ?hd (cs := #[.int .u64 a0_0, .int .u64 a0_1, .bool a0_2, .int .u32 a0_3, .int .u8 a0_4, .int .i64 a0_5, .int .u16 a0_6, .int .u16 a0_7]) (t := 31) ?hr ?_; (case hd => rfl); (case hg => rfl); (case hr => first | (go_simp; done) | (go_simp; rfl)); intro gb198 hg w36 hbox hb; have n0_ := Aside0.mk (below_step (by repeat (first | (with_reducible first | exact HB.out | apply below_alloc | apply pw_below_drewN | apply below_drew1) | exact HB.out)) hb); have n1_ := Aside0.mk (hbox); have n2_ := Aside0.mk ((by rw [hg]; exact (below_size (by repeat (first | (with_reducible first | exact HB.out | apply below_alloc | apply pw_below_drewN | apply below_drew1) | exact HB.out))) : w.heap.size ≤ gb198)); have n3_ := Aside0.mk ((by rw [hg]; exact (below_size (by repeat (first | (with_reducible first | exact HB.out | apply below_alloc | apply pw_below_drewN | apply below_drew1) | exact HB.out))) : w.heap.size ≤ gb198)); clear HB; have HB := n0_; have BK198 := n1_; have GW198 := n2_; have GE198 := n3_; clear n0_ n1_ n2_ n3_; clear hb hbox hg; have hcz37_0 : w36.cell? ⟨gb198, 0, none⟩ = some (.int .u64 a0_0) := (blk_cell BK198.out 0).trans rfl; have hcz37_1 : w36.cell? ⟨gb198, 1, none⟩ = some (.int .u64 a0_1) := (blk_cell BK198.out 1).trans rfl; have hcz37_2 : w36.cell? ⟨gb198, 2, none⟩ = some (.bool a0_2) := (blk_cell BK198.out 2).trans rfl; have hcz37_3 : w36.cell? ⟨gb198, 3, none⟩ = some (.int .u32 a0_3) := (blk_cell BK198.out 3).trans rfl; have hcz37_4 : w36.cell? ⟨gb198, 4, none⟩ = some (.int .u8 a0_4) := (blk_cell BK198.out 4).trans rfl; have hcz37_5 : w36.cell? ⟨gb198, 5, none⟩ = some (.int .i64 a0_5) := (blk_cell BK198.out 5).trans rfl; have hcz37_6 : w36.cell? ⟨gb198, 6, none⟩ = some (.int .u16 a0_6) := (blk_cell BK198.out 6).trans rfl; have hcz37_7 : w36.cell? ⟨gb198, 7, none⟩ = some (.int .u16 a0_7) := (blk_cell BK198.out 7).trans rfl; have hfz37_0 := blk_frozen BK198.out 0; have hfz37_1 := blk_frozen BK198.out 1; have hfz37_2 := blk_frozen BK198.out 2; have hfz37_3 := blk_frozen BK198.out 3; have hfz37_4 := blk_frozen BK198.out 4; have hfz37_5 := blk_frozen BK198.out 5; have hfz37_6 := blk_frozen BK198.out 6; have hfz37_7 := blk_frozen BK198.out 7) | ((with_reducible refine gate_dst (N := 3) rfl ?_); refine box_event ?hg (N := 3) ?hd (cs := #[.int .u32 0, .int .u8 0, .int .i64 0, .int .u16 0, .int .u16 0]) (t := 29) ?hr ?_; (case hd => rfl); (case hg => rfl); (case hr => first | (go_simp; done) | (go_simp; rfl)); intro gb199 hg w38 hbox hb; have n0_ := Aside0.mk (blk_below (g := gb198) (o := .cells #[.int .u64 a0_0, .int .u64 a0_1, .bool a0_2, .int .u32 a0_3, .int .u8 a0_4, .int .i64 a0_5, .int .u16 a0_6, .int .u16 a0_7] 31 (0, 0)) (by (with_reducible repeat (first | refine blk_drewN ?_ _ | refine blk_drew ?_ | refine blk_alloc ?_ _)); exact BK198.out) hb); have n1_ := Aside0.mk (below_step (by repeat (first | (with_reducible first | exact HB.out | apply below_alloc | apply pw_below_drewN | apply below_drew1 | refine below_set ?_ GE198.out) | exact HB.out)) hb); have n2_ := Aside0.mk (hbox); have n3_ := Aside0.mk ((by rw [hg]; exact (below_size (by repeat (first | (with_reducible first | exact HB.out | apply below_alloc | apply pw_below_drewN | apply below_drew1 | refine below_set ?_ GE198.out) | exact HB.out))) : w.heap.size ≤ gb199)); have n4_ := Aside0.mk ((by rw [hg]; exact (below_size (by repeat (first | (with_reducible first | exact HB.out | apply below_alloc | apply pw_below_drewN | apply below_drew1 | refine below_set ?_ GE198.out) | exact HB.out))) : w.heap.size ≤ gb199)); have n5_ := Aside0.mk ((by rw [hg]; exact Nat.ne_of_lt (blk_lt (g := gb198) (o := .cells #[.int .u64 a0_0, .int .u64 a0_1, .bool a0_2, .int .u32 a0_3, .int .u8 a0_4, .int .i64 a0_5, .int .u16 a0_6, .int .u16 a0_7] 31 (0, 0)) (by (with_reducible repeat (first | refine blk_drewN ?_ _ | refine blk_drew ?_ | refine blk_alloc ?_ _)); exact BK198.out)) : gb198 ≠ gb199)); have n6_ := Aside0.mk ((by rw [hg]; exact Nat.ne_of_gt (blk_lt (g := gb198) (o := .cells #[.int .u64 a0_0, .int .u64 a0_1, .bool a0_2, .int .u32 a0_3, .int .u8 a0_4, .int .i64 a0_5, .int .u16 a0_6, .int .u16 a0_7] 31 (0, 0)) (by (with_reducible repeat (first | refine blk_drewN ?_ _ | refine blk_drew ?_ | refine blk_alloc ?_ _)); exact BK198.out)) : gb199 ≠ gb198)); clear BK198; clear HB; have BK198 := n0_; have HB := n1_; have BK199 := n2_; have GW199 := n3_; have GE199 := n4_; have NB198_199 := n5_; have NB199_198 := n6_; clear n0_ n1_ n2_ n3_ n4_ n5_ n6_; clear hb hbox hg; have hnb39 := NB199_198.out; have hnc39 := NB198_199.out; have hcz40_0 : w38.cell? ⟨gb199, 0, none⟩ = some (.int .u32 0) := (blk_cell BK199.out 0).trans rfl; have hcz40_1 : w38.cell? ⟨gb199, 1, none⟩ = some (.int .u8 0) := (blk_cell BK199.out 1).trans rfl; have hcz40_2 : w38.cell? ⟨gb199, 2, none⟩ = some (.int .i64 0) := (blk_cell BK199.out 2).trans rfl; have hcz40_3 : w38.cell? ⟨gb199, 3, none⟩ = some (.int .u16 0) := (blk_cell BK199.out 3).trans rfl; have hcz40_4 : w38.cell? ⟨gb199, 4, none⟩ = some (.int .u16 0) := (blk_cell BK199.out 4).trans rfl; have hfz40_0 := blk_frozen BK199.out 0; have hfz40_1 := blk_frozen BK199.out 1; have hfz40_2 := blk_frozen BK199.out 2; have hfz40_3 := blk_frozen BK199.out 3; have hfz40_4 := blk_frozen BK199.out 4) | ((with_reducible refine gate_callee (f := 55) rfl ?_); refine goesL_ (some 9) rfl rfl Try.func55 (by kernel_rfl) rfl #[.agg #[.int .u32 a0_3, .int .u8 a0_4]] rfl (by (try simp only [List.map_toArray, List.map_cons, List.map_nil]); first | done | rfl | (simp only [List.length_drop, List.length_take]; rfl) | (simp; done) | (refine qa_arr ?_; (repeat' (first | rfl | refine qa_cons ?_ ?_ | refine qa_int ?_ | refine qa_agg ?_ | refine qa_arr ?_ | omega)); done)) ?_; (with_reducible refine (prefix_Right.calls a0_3 a0_4 false _ A2.out).mono ?_); rintro e w41 ⟨rfl, hb⟩; refine ⟨_, rfl, ?_⟩; have n0_ := Aside0.mk (blk_below (g := gb198) (o := .cells #[.int .u64 a0_0, .int .u64 a0_1, .bool a0_2, .int .u32 a0_3, .int .u8 a0_4, .int .i64 a0_5, .int .u16 a0_6, .int .u16 a0_7] 31 (0, 0)) (by (with_reducible repeat (first | refine blk_drewN ?_ _ | refine blk_drew ?_ | refine blk_alloc ?_ _)); refine blk_far ?_ NB198_199.out _; (with_reducible repeat (first | refine blk_drewN ?_ _ | refine blk_drew ?_ | refine blk_alloc ?_ _)); refine blk_far ?_ NB198_199.out _; (with_reducible repeat (first | refine blk_drewN ?_ _ | refine blk_drew ?_ | refine blk_alloc ?_ _)); refine blk_far ?_ NB198_199.out _; (with_reducible repeat (first | refine blk_drewN ?_ _ | refine blk_drew ?_ | refine blk_alloc ?_ _)); refine blk_far ?_ NB198_199.out _; (with_reducible repeat (first | refine blk_drewN ?_ _ | refine blk_drew ?_ | refine blk_alloc ?_ _)); refine blk_far ?_ NB198_199.out _; (with_reducible repeat (first | refine blk_drewN ?_ _ | refine blk_drew ?_ | refine blk_alloc ?_ _)); exact BK198.out) hb); have n1_ := Aside0.mk (blk_below (g := gb199) (o := .cells #[.int .u32 a0_3, .int .u8 a0_4, .int .i64 a0_5, .int .u16 a0_6, .int .u16 a0_7] 29 (0, 0)) (by (with_reducible repeat (first | refine blk_drewN ?_ _ | refine blk_drew ?_ | refine blk_alloc ?_ _)); refine blk_put (cs := #[.int .u32 a0_3, .int .u8 a0_4, .int .i64 a0_5, .int .u16 a0_6, .int .u16 0]) ?_ 4 _ rfl; (with_reducible repeat (first | refine blk_drewN ?_ _ | refine blk_drew ?_ | refine blk_alloc ?_ _)); refine blk_put (cs := #[.int .u32 a0_3, .int .u8 a0_4, .int .i64 a0_5, .int .u16 0, .int .u16 0]) ?_ 3 _ rfl; (with_reducible repeat (first | refine blk_drewN ?_ _ | refine blk_drew ?_ | refine blk_alloc ?_ _)); refine blk_put (cs := #[.int .u32 a0_3, .int .u8 a0_4, .int .i64 0, .int .u16 0, .int .u16 0]) ?_ 2 _ rfl; (with_reducible repeat (first | refine blk_drewN ?_ _ | refine blk_drew ?_ | refine blk_alloc ?_ _)); refine blk_put (cs := #[.int .u32 a0_3, .int .u8 0, .int .i64 0, .int .u16 0, .int .u16 0]) ?_ 1 _ rfl; (with_reducible repeat (first | refine blk_drewN ?_ _ | refine blk_drew ?_ | refine blk_alloc ?_ _)); refine blk_put (cs := #[.int .u32 0, .int .u8 0, .int .i64 0, .int .u16 0, .int .u16 0]) ?_ 0 _ rfl; (with_reducible repeat (first | refine blk_drewN ?_ _ | refine blk_drew ?_ | refine blk_alloc ?_ _)); exact BK199.out) hb); have n2_ := Aside0.mk (below_step (by repeat (first | (with_reducible first | exact HB.out | apply below_alloc | apply pw_below_drewN | apply below_drew1 | refine below_set ?_ GE198.out | refine below_set ?_ GE199.out) | exact HB.out)) hb); clear BK198; clear BK199; clear HB; have BK198 := n0_; have BK199 := n1_; have HB := n2_; clear n0_ n1_ n2_; (try clear hb); (try clear hb2); (try clear hk); (try clear hi)))
    go_ret
    exact ⟨by first | rfl | (simp [errW_none, errW_some] <;> rfl) | (simp [*, errW_none, errW_some] <;> rfl), by repeat (first | (with_reducible first | exact HB.out | apply below_alloc | apply pw_below_drewN | apply below_drew1 | refine below_set ?_ GE198.out | refine below_set ?_ GE199.out) | exact HB.out)⟩

end Go.Proofs.Ytllcighpfikpkaa.QChangeChains
