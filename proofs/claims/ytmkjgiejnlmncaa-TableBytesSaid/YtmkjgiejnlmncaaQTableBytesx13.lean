-- Lines by a program of this session, for this claim.
import Derived.Test.YtmkjgiejnlmncaaQTableBytesx0
import Derived.Test.YtmkjgiejnlmncaaQTableBytesx12
namespace Go.Proofs.Ytmkjgiejnlmncaa.QTableBytes
open Go.RowKit Go.Proofs.YtmkjgiejnlmncaaW.PrintWords Go.Proofs.YtmkjgiejnlmncaaW.PrintLast Go.Proofs.YtmkjgiejnlmncaaW.PrintMore
attribute [local go_sem] max2_int min2_int max_two min_two max_three min_three max_four min_four   -- for this text's walks alone
set_option linter.unusedVariables false
set_option maxHeartbeats 8000000
set_option linter.unusedSimpArgs false

/-! ### coin_Purse_Take: function 30 -/
def coin_Purse_Take.f (k : Nat) (s0_0 : List Int) (s0_1 : Int) (a1 : Int) : Option (Int × List Int × Int) :=
 if s0_1 = 0 then ((coin_Get.f k s0_0).bind fun b => if b.2.2 = 0 then (if b.1 > a1 then some (0, s0_0, 6) else (if 0 ≤ b.2.1 then (if b.2.1 ≤ (s0_0.length : Int) then some (b.1, s0_0.drop b.2.1.toNat, 0) else none) else none)) else some (0, s0_0, b.2.2)) else some (0, s0_0, s0_1)
theorem coin_Purse_Take.mono (s0_0 : List Int) (s0_1 : Int) (a1 : Int) (k : Nat) : LeO (coin_Purse_Take.f k s0_0 s0_1 a1) (coin_Purse_Take.f (k + 1) s0_0 s0_1 a1) := by
 unfold coin_Purse_Take.f
 exact LeO.ite (LeO.bind (coin_Get.mono _ _) (fun _ => LeO.refl _)) (LeO.refl _)
theorem coin_Purse_Take.calls (k : Nat) (g : Nat) (s0_0 : List Int) (s0_1 : Int) (a1 : Int) (r1 : Int) (r2 : List Int) (r3 : Int) (w0 w : World) (hI : IsS96 w0 w g s0_0 s0_1) (hB : Below w0.heap.size w0 w) (h : coin_Purse_Take.f k s0_0 s0_1 a1 = some (r1, r2, r3)) :
 Calls Try.prog 30 #[.pointer (some ⟨g, 0, none⟩), .int .u64 a1] w fun e w' => e = .returned (.int .u64 r1) ∧ IsS96 w0 w' g r2 r3 ∧ Below w0.heap.size w0 w' ∧ KeepBut w w' g none := by
 have HI := Ad hI; have HK := Ad (KeepBut.refl w g none); obtain ⟨A, c, hb, hg, hl, hC⟩ := hI; have hc0 := cellS96_0 hb; have hc1 := cellS96_1 hb; have HH := Ad hb; have HB := Ad hB; have HG := Ad hg; have HC := Ad hC; have HL := Ad hl; clear hb hg hl hC hB
 unfold coin_Purse_Take.f at h
 by_cases c0 : s0_1 = 0
 · rw [if_pos c0] at h
   subst c0; obtain ⟨⟨n, j, e0⟩, hG, h⟩ := Option.bind_eq_some_iff.mp h
   dsimp only at h
   have HGet := Ad hG; clear hG; have HCw := Ad (Kd.C_below HC.out HB.out)
   go_enter Try.func30, Try.ntmps30
   go_wp2_with (fail)
   refine (coin_Get.calls k A c s0_0 n j e0 _ HCw.out HL.out HGet.out).mono ?_; rintro e w1 ⟨rfl, hb⟩; have HH1 := Ad (blk_below HH.out hb); have HB1 := Ad (below_step HB.out hb); have HK1 := Ad (KeepBut.of_below hb g none); clear hc0 hc1 hb HH HB; have hc0 := cellS96_0 HH1.out; have hc1 := cellS96_1 HH1.out; have hf0 := blk_frozen HH1.out 0; have hf1 := blk_frozen HH1.out 1
   by_cases c2 : e0 = 0
   · rw [if_pos c2] at h
     subst c2
     by_cases c3 : n > a1
     · rw [if_pos c3] at h
       simp only [Option.some.injEq, Prod.mk.injEq] at h
       obtain ⟨rfl, rfl, rfl⟩ := h; have e5 : decide (a1 < n) = true := decide_eq_true c3; clear c3
       go_wp2_with (fail)
       go_ret; exact ⟨rfl, ⟨A, c, by simpa using blk_set HH1.out 1 (.int .i64 6), HG.out, HL.out, HC.out⟩, below_set HB1.out HG.out, KeepBut.set_ HK1.out _ _⟩
     · rw [if_neg c3] at h
       by_cases c4 : 0 ≤ j
       · rw [if_pos c4] at h
         by_cases c5 : j ≤ (s0_0.length : Int)
         · rw [if_pos c5] at h
           simp only [Option.some.injEq, Prod.mk.injEq] at h
           obtain ⟨rfl, rfl, rfl⟩ := h; have e5 : decide (a1 < n) = false := decide_eq_false c3; clear c3; obtain ⟨i0, hi0, _, hsz, _⟩ := info_parts info5; obtain ⟨A', hcut, hA', hC'⟩ := print_drop_of (P := Try.prog) (Value.int .u8) 0 59 5 .i64 Try.underlying59 hi0 hsz A c s0_0 j c4 c5 HL.out; have HCn := Ad (Kd.C_of_reads (h1 := fun _ => rfl) (hA' _ (Kd.reads_of_C HC.out))); have HLn := Ad hC'; clear hi0 hsz hA' hC'
           go_wp2_with (fail)
           go_ret; exact ⟨rfl, ⟨A', c - j.toNat, by simpa using blk_set HH1.out 0 (.slice A' (s0_0.drop j.toNat).length (c - j.toNat)), HG.out, HLn.out, HCn.out⟩, below_set HB1.out HG.out, KeepBut.set_ HK1.out _ _⟩
         · rw [if_neg c5] at h; cases h
       · rw [if_neg c4] at h; cases h
   · rw [if_neg c2] at h
     simp only [Option.some.injEq, Prod.mk.injEq] at h
     obtain ⟨rfl, rfl, rfl⟩ := h; have e3 : (e0 == 0) = false := beq_eq_false_iff_ne.mpr c2; have e4 : (e0 != 0) = true := bne_iff_ne.mpr c2; clear c2
     go_wp2_with (fail)
     go_ret; exact ⟨rfl, ⟨A, c, by simpa using blk_set HH1.out 1 (.int .i64 e0), HG.out, HL.out, HC.out⟩, below_set HB1.out HG.out, KeepBut.set_ HK1.out _ _⟩
 · rw [if_neg c0] at h
   simp only [Option.some.injEq, Prod.mk.injEq] at h
   obtain ⟨rfl, rfl, rfl⟩ := h; have e1 : (s0_1 != 0) = true := bne_iff_ne.mpr c0; have e2 : (s0_1 == 0) = false := beq_eq_false_iff_ne.mpr c0; clear c0
   go_enter Try.func30, Try.ntmps30
   go_wp2; go_ret; exact ⟨rfl, ⟨A, c, HH.out, HG.out, HL.out, HC.out⟩, HB.out, KeepBut.refl _ _ _⟩

/-! ### coin_Purse_Fault: function 31 -/
def coin_Purse_Fault.f (s0_0 : List Int) (s0_1 : Int) : Option (Int × List Int × Int) := some (s0_1, s0_0, s0_1)
set_option maxRecDepth 100000 in
theorem coin_Purse_Fault.calls (g : Nat) (s0_0 : List Int) (s0_1 : Int) (r1 : Int) (r2 : List Int) (r3 : Int) (w0 w : World) (hI : IsS96 w0 w g s0_0 s0_1) (hB : Below w0.heap.size w0 w) (h : coin_Purse_Fault.f s0_0 s0_1 = some (r1, r2, r3)) :
 Calls Try.prog 31 #[.pointer (some ⟨g, 0, none⟩)] w fun e w' => e = .returned (.int .i64 r1) ∧ IsS96 w0 w' g r2 r3 ∧ Below w0.heap.size w0 w' ∧ KeepBut w w' g none := by
 have HI0 := Ad hI; have HK := Ad (KeepBut.refl w g none); have HL := Ad hB.size; clear hI; have HW0 := Ad hB.size; have HB := Ad hB; clear hB; have H : (some (s0_1, s0_0, s0_1)) = some (r1, r2, r3) := h; clear h
 simp only [Option.some.injEq, Prod.mk.injEq] at H
 obtain ⟨rfl, rfl, rfl⟩ := H; obtain ⟨ASz2_0, cSz2_0, HGz2, hgz2, HSz2_0⟩ := HI0.out; have hcz2_0 := cellS96_0 HGz2; have hcz2_1 := cellS96_1 HGz2; have hfz2_0 := blk_frozen HGz2 0; have hfz2_1 := blk_frozen HGz2 1; clear HGz2 hgz2
 go_enter Try.func31, Try.ntmps31
 go_wp2; go_ret; exact ⟨by first | rfl | (simp [*, errW_none, errW_some] <;> rfl), by repeat (first | (with_reducible first | exact HI0.out | apply IsS96.set_1)), by repeat (first | (with_reducible first | exact HB.out | refine below_set ?_ (IsS96.ge HI0.out))), by repeat (first | (with_reducible first | exact HK.out | apply keep_alloc))⟩

/-! ### coin_Purse_End: function 34 -/
def coin_Purse_End.f (s0_0 : List Int) (s0_1 : Int) : Option (Int × List Int × Int) := if s0_1 = 0 then (if 0 < (s0_0.length : Int) then some (4, s0_0, s0_1) else some (s0_1, s0_0, s0_1)) else some (s0_1, s0_0, s0_1)
theorem coin_Purse_End.calls (g : Nat) (s0_0 : List Int) (s0_1 : Int) (r1 : Int) (r2 : List Int) (r3 : Int) (w0 w : World) (hI : IsS96 w0 w g s0_0 s0_1) (hB : Below w0.heap.size w0 w) (h : coin_Purse_End.f s0_0 s0_1 = some (r1, r2, r3)) :
 Calls Try.prog 34 #[.pointer (some ⟨g, 0, none⟩)] w fun e w' => e = .returned (.int .i64 r1) ∧ IsS96 w0 w' g r2 r3 ∧ Below w0.heap.size w0 w' ∧ KeepBut w w' g none := by
 have hI2 := Ad hI; obtain ⟨A, c, hb, hg, hl, hC⟩ := hI; have hc0 := cellS96_0 hb; have hc1 := cellS96_1 hb; have HH := Ad hb; have HB := Ad hB; have HG := Ad hg; have HC := Ad hC; have HL := Ad hl; clear hb hg hl hC hB
 unfold coin_Purse_End.f at h
 have HF := Ad (coin_Purse_Fault.calls g s0_0 s0_1 s0_1 s0_0 s0_1 w0 w hI2.out HB.out rfl)
 by_cases c0 : s0_1 = 0
 · rw [if_pos c0] at h
   have e1 : (s0_1 == 0) = true := beq_iff_eq.mpr c0; have e2 : (s0_1 != 0) = false := bne_eq_false_iff_eq.mpr c0; clear c0
   by_cases c1 : 0 < (s0_0.length : Int)
   · rw [if_pos c1] at h
     simp only [Option.some.injEq, Prod.mk.injEq] at h
     obtain ⟨rfl, rfl, rfl⟩ := h; have e3 : decide (0 < (s0_0.length : Int)) = true := decide_eq_true c1; have e4 : decide (0 < s0_0.length) = true := decide_eq_true (by omega); clear c1
     go_enter Try.func34, Try.ntmps34
     go_wp2_with (fail)
     go_ret; exact ⟨rfl, ⟨A, c, HH.out, HG.out, HL.out, HC.out⟩, HB.out, KeepBut.refl _ _ _⟩
   · rw [if_neg c1] at h
     simp only [Option.some.injEq, Prod.mk.injEq] at h
     obtain ⟨rfl, rfl, rfl⟩ := h; have e3 : decide (0 < (s0_0.length : Int)) = false := decide_eq_false c1; have e4 : decide (0 < s0_0.length) = false := decide_eq_false (by omega); clear c1
     go_enter Try.func34, Try.ntmps34
     go_wp2_with (fail)
     refine HF.out.mono ?_; rintro e w1 ⟨rfl, hi, hb, hk⟩; have HR := Ad (And.intro hi (And.intro hb hk)); clear hi hb hk
     go_wp2_with (fail)
     go_ret; exact ⟨rfl, HR.out⟩
 · rw [if_neg c0] at h
   simp only [Option.some.injEq, Prod.mk.injEq] at h
   obtain ⟨rfl, rfl, rfl⟩ := h; have e1 : (s0_1 == 0) = false := beq_eq_false_iff_ne.mpr c0; have e2 : (s0_1 != 0) = true := bne_iff_ne.mpr c0; clear c0
   go_enter Try.func34, Try.ntmps34
   go_wp2_with (fail)
   refine HF.out.mono ?_; rintro e w1 ⟨rfl, hi, hb, hk⟩; have HR := Ad (And.intro hi (And.intro hb hk)); clear hi hb hk
   go_wp2_with (fail)
   go_ret; exact ⟨rfl, HR.out⟩

end Go.Proofs.Ytmkjgiejnlmncaa.QTableBytes
