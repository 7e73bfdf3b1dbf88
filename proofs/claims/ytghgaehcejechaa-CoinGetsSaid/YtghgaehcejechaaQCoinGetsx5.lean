-- Lines by a program of this session, for this claim.
import Derived.Test.YtghgaehcejechaaQCoinGetsx0
import Derived.Test.YtghgaehcejechaaQCoinGetsx1
import Derived.Test.YtghgaehcejechaaQCoinGetsx2
import Derived.Test.YtghgaehcejechaaQCoinGetsx4
namespace Go.Proofs.Ytghgaehcejechaa.QCoinGets
open Go.RowKit Go.Proofs.YtghgaehcejechaaW.PrintWords Go.Proofs.YtghgaehcejechaaW.PrintLast Go.Proofs.YtghgaehcejechaaW.PrintMore
attribute [local go_sem] max2_int min2_int max_two min_two max_three min_three max_four min_four   -- for this text's walks alone
set_option linter.unusedVariables false
set_option linter.unusedSimpArgs false

/-! ### milestonelaw03_CoinGets: function 6 -/
def milestonelaw03_CoinGets.Pure : Prop := (∃ k, milestonelaw03_awake.f k = some true) ∧ ∀ l : List Int, (∀ n ∈ l, (Lit.int .u8 n).wf = true) → l.length ≤ 60 → ∃ k n j e, coin_Get.f k l = some (n, j, e) ∧ milestoneref01_Take.f k l = some (n, j, e)
set_option maxHeartbeats 8000000 in
set_option maxRecDepth 100000 in
theorem milestonelaw03_CoinGets.walk (P : milestonelaw03_CoinGets.Pure) (a0 : Option Addr) (len0 cap0 : Nat) (z0 : List Int) (a1 : Int) (w : World) (w0 : (a0 = none ∧ len0 = 0 ∧ cap0 = 0 ∧ z0 = []) ∨ ∃ x, a0 = some x ∧ len0 ≤ cap0 ∧ cap0 ≤ maxLen ∧ z0.length = cap0 ∧ (∀ i, i < z0.length → w.cell? (x.add i) = some (.int .u8 (z0.getD i 0))) ∧ ∀ n ∈ z0, (Lit.int .u8 n).wf = true) (y0 : len0 * 1 ≤ 140737488351232) (w1 : (Lit.int .u8 a1).wf = true) :
    Calls Try.prog 6 #[.slice a0 len0 cap0, .int .u8 a1] w fun e w' => e = .returned (.bool true) ∧ Below w.heap.size w w' := by
  obtain ⟨l0, rfl, hr0, hm0, hw0, hc0⟩ := ReadsInt.ofRowC w0
  clear w0 z0
  obtain ⟨⟨ka, hka⟩, P2⟩ := P
  have HA := Aside0.mk hka
  have HR := Aside0.mk (Kd.C_of_reads (d := (0 : Int)) (h1 := fun _ => rfl) hr0)
  have HC := Aside0.mk hc0
  have HW := Aside0.mk hw0
  have HP := Aside0.mk P2
  have hb1 := Go.bounds_u8 w1
  clear hka hr0 hc0 hw0 P2 w1
  by_cases hlen : l0.length ≤ 50
  · have e1 : decide (50 < (l0.length : Int)) = false := decide_eq_false (by omega)
    have e2 : decide (50 < l0.length) = false := decide_eq_false (by omega)
    go_enter Try.func6, Try.ntmps6
    go_wp2_with (fail)
    refine (milestonelaw03_awake.calls ka true _ HA.out).mono ?_
    rintro e w1 ⟨rfl, hb⟩
    have HB := Aside0.mk hb
    clear hb
    have HS := Aside0.mk (Kd.C_below HR.out HB.out)
    go_wp2_with ((with_reducible refine gate_dst (N := 26) rfl ?_); refine Kd.R_lit (Kd.int .u8) _ 5 ?hg (N := 26) ?hd (xs := ([255 * 2 ^ (8 - a1 % 9).toNat % 256] : List Int)) (inner := [.int .u8 (255 * 2 ^ (8 - a1 % 9).toNat % 256)]) (ok := fun _ => True) (okp := fun _ => True) ?hr ?hp (fun _ hk => hk) trivial (Below.refl _ _) (Nat.le_refl _) (by simp) ?_; (case hd => rfl); (case hg => rfl); (case hr => first | (go_simp; done) | (go_simp; rfl)); (case hp => exact (Reps.one (show Kd.M (Kd.int .u8) _ _ _ _ [.int .u8 _] from rfl) (Reps.none _ _))))
    intro v2 w2 ho2 hb2 hg2 gb hgb hgl
    clear hg2 hgb hgl
    have HO2 := Aside0.mk ho2
    have HB2 := Aside0.mk (below_step HB.out hb2)
    have HS2 := Aside0.mk (Kd.C_below HS.out hb2)
    have HB12 := Aside0.mk hb2
    clear ho2 hb2
    go_wp2_with ((with_reducible refine gate_builtin (b := .append) (xs := #[.tmp 26, .tmp 27]) rfl ?_); at_builtin; refine Kd.R_append_rows (Kd.int .u8) (w0 := w1) w1.heap.size rfl (.tmp 26) (.tmp 27) 23 5 (.int .u8 0) 1 rfl Try.underlying23 info5 rfl (by decide) (by omega) v2 ([255 * 2 ^ (8 - a1 % 9).toNat % 256] : List Int) l0 a0 l0.length cap0 (fun _ => True) (fun _ => False) rfl rfl HO2.out HS2.out (fun _ _ h => h) (fun _ h => h.elim) (fun _ _ => trivial) HB12.out (below_size HB12.out) (by simp; omega) ?_)
    intro v3 w3 ho3 hb3 hg3 hat3
    clear hg3 hat3
    obtain ⟨q, hq⟩ : ∃ q : List Int, q = (255 * 2 ^ (8 - a1 % 9).toNat % 256 :: l0) := ⟨_, rfl⟩
    rw [← hq] at ho3
    obtain ⟨A3, c3, rfl, hl3, hC3⟩ := Kd.R_reads ho3
    have hqw : ∀ n ∈ q, (Lit.int .u8 n).wf = true := by
      intro n hn
      rw [hq, List.mem_cons] at hn
      rcases hn with rfl | hn
      · exact Go.WalkArith.wf_u8 ⟨by omega, by omega⟩
      · exact HW.out n hn
    have hql : q.length ≤ 60 := by rw [hq, List.length_cons]; omega
    obtain ⟨k1, n1, j1, e1_, hG1, hT1⟩ := HP.out l0 HW.out (by omega)
    obtain ⟨k2, n2, j2, e2_, hG2, hT2⟩ := HP.out q hqw hql
    have HG1 := Aside0.mk hG1
    have HT1 := Aside0.mk hT1
    have HG2 := Aside0.mk hG2
    have HT2 := Aside0.mk hT2
    have HC3 := Aside0.mk hC3
    have HL3 := Aside0.mk hl3
    have HB3 := Aside0.mk (below_step HB.out hb3)
    have HS3 := Aside0.mk (Kd.C_below HS.out hb3)
    have HB13 := Aside0.mk hb3
    clear hq ho3 hC3 hl3 hqw hG1 hT1 hG2 hT2 hb3 HP
    go_wp2_with (fail)
    have hblk : (w3.alloc (.cells #[.slice a0 l0.length cap0, .slice A3 q.length c3] 23 (0, 0))).heap[w3.heap.size]? = some (.cells #[.slice a0 l0.length cap0, .slice A3 q.length c3] 23 (0, 0)) := by simpa using heap_alloc_new w3 _
    have HBK := Aside0.mk hblk
    clear hblk
    go_loopw [33] (fun v33 wr => ∃ i : Nat, i ≤ 2 ∧ v33 = .int .i64 i ∧ Aside0 (wr.heap[w3.heap.size]? = some (.cells #[.slice a0 l0.length cap0, .slice A3 q.length c3] 23 (0, 0))) ∧ Aside0 (Below w3.heap.size w3 wr)) (fun v33 _ => 2 - (intOf v33).toNat)
    case atStart => exact ⟨0, by omega, rfl, HBK, ⟨below_alloc (Below.refl _ _) _⟩⟩
    case round =>
      clear HBK
      obtain ⟨i, hi, rfl, HBK, HBW⟩ := hrel
      have hcell : wr.cell? ⟨w3.heap.size, 0, none⟩ = some (.slice a0 l0.length cap0) := blk_cell HBK.out 0
      have hcell1 : wr.cell? ⟨w3.heap.size, 1, none⟩ = some (.slice A3 q.length c3) := blk_cell HBK.out 1
      have HSr := Aside0.mk (Kd.C_below HS3.out HBW.out)
      have HQr := Aside0.mk (Kd.C_below HC3.out HBW.out)
      obtain rfl | rfl | rfl : i = 0 ∨ i = 1 ∨ i = 2 := by omega
      · go_wp2_with (fail)
        refine (coin_Get.calls k1 a0 cap0 l0 n1 j1 e1_ _ HSr.out HC.out HG1.out).mono ?_
        rintro e w4 ⟨rfl, hb⟩
        have HB4 := Aside0.mk hb
        clear hb
        go_wp2_with (fail)
        refine (milestoneref01_Take.calls k1 a0 cap0 l0 n1 j1 e1_ _ (Kd.C_below HSr.out HB4.out) HC.out HT1.out).mono ?_
        rintro e w5 ⟨rfl, hb⟩
        have HB5 := Aside0.mk (below_step HBW.out (below_step HB4.out hb))
        have HK5 := Aside0.mk (blk_below (blk_below HBK.out HB4.out) hb)
        clear hb hcell hcell1
        go_wp2_with (fail)
        go_roundw
        case rel => exact ⟨1, by omega, by go_num, HK5, HB5⟩
        case measure => simp [intOf]
      · go_wp2_with (fail)
        refine (coin_Get.calls k2 A3 c3 q n2 j2 e2_ _ HQr.out HL3.out HG2.out).mono ?_
        rintro e w4 ⟨rfl, hb⟩
        have HB4 := Aside0.mk hb
        clear hb
        go_wp2_with (fail)
        refine (milestoneref01_Take.calls k2 A3 c3 q n2 j2 e2_ _ (Kd.C_below HQr.out HB4.out) HL3.out HT2.out).mono ?_
        rintro e w5 ⟨rfl, hb⟩
        have HB5 := Aside0.mk (below_step HBW.out (below_step HB4.out hb))
        have HK5 := Aside0.mk (blk_below (blk_below HBK.out HB4.out) hb)
        clear hb hcell hcell1
        go_wp2_with (fail)
        go_roundw
        case rel => exact ⟨2, by omega, by go_num, HK5, HB5⟩
        case measure => simp [intOf]
      · go_wp2
        go_ret
        exact ⟨rfl, below_step HB3.out HBW.out⟩
  · have e1 : decide (50 < (l0.length : Int)) = true := decide_eq_true (by omega)
    have e2 : decide (50 < l0.length) = true := decide_eq_true (by omega)
    go_enter Try.func6, Try.ntmps6
    go_wp2_with (fail)
    refine (milestonelaw03_awake.calls ka true _ HA.out).mono ?_
    rintro e w1 ⟨rfl, hb⟩
    have HB := Aside0.mk hb
    clear hb
    go_wp2_with (fail)
    refine (milestonelaw03_awake.calls ka true _ HA.out).mono ?_
    rintro e w2 ⟨rfl, hb⟩
    have HB2 := Aside0.mk (below_step HB.out hb)
    clear hb
    go_wp2_with (fail)
    go_ret
    exact ⟨rfl, HB2.out⟩

end Go.Proofs.Ytghgaehcejechaa.QCoinGets
