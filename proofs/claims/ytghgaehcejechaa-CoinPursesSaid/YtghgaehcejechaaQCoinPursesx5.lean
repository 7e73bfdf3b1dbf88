-- Lines by a program of this session, for this claim.
import Derived.Test.YtghgaehcejechaaQCoinPursesx0
import Derived.Test.YtghgaehcejechaaQCoinPursesx1
import Derived.Test.YtghgaehcejechaaQCoinPursesx3
import Derived.Test.YtghgaehcejechaaQCoinPursesx4
namespace Go.Proofs.Ytghgaehcejechaa.QCoinPurses
open Go.RowKit Go.Proofs.YtghgaehcejechaaW.PrintWords Go.Proofs.YtghgaehcejechaaW.PrintLast Go.Proofs.YtghgaehcejechaaW.PrintMore
attribute [local go_sem] max2_int min2_int max_two min_two max_three min_three max_four min_four   -- for this text's walks alone
set_option linter.unusedVariables false
set_option linter.unusedSimpArgs false

/-! ### milestonelaw03_CoinPurses: function 8 -/
def milestonelaw03_CoinPurses.Pure : Prop := (∃ k, milestonelaw03_awake.f k = some true) ∧ ∀ l : List Int, (∀ n ∈ l, (Lit.int .u8 n).wf = true) → l.length ≤ 100 → ∃ k n j e, coin_Get.f k l = some (n, j, e) ∧ milestoneref01_Take.f k l = some (n, j, e) ∧ 0 ≤ n ∧ n ≤ 18446744073709551615 ∧ (e = 0 → 0 ≤ j ∧ j ≤ (l.length : Int))
theorem milestonelaw03_CoinPurses.nilTake (w : World) : Calls Try.prog 18 #[.pointer none, .int .u64 9] w fun e w' => e = .returned (.int .u64 0) ∧ Below w.heap.size w w' := by
  go_enter Try.func18, Try.ntmps18
  go_wp2
  go_ret
  exact ⟨rfl, Below.refl _ _⟩
theorem milestonelaw03_CoinPurses.nilBytes (w : World) : Calls Try.prog 20 #[.pointer none, .int .i64 1] w fun e w' => e = .returned (.slice none 0 0) ∧ Below w.heap.size w w' := by
  go_enter Try.func20, Try.ntmps20
  go_wp2
  go_ret
  exact ⟨rfl, Below.refl _ _⟩
theorem milestonelaw03_CoinPurses.nilLeft (w : World) : Calls Try.prog 22 #[.pointer none] w fun e w' => e = .returned (.int .i64 0) ∧ Below w.heap.size w w' := by
  go_enter Try.func22, Try.ntmps22
  go_wp2
  go_ret
  exact ⟨rfl, Below.refl _ _⟩
theorem milestonelaw03_CoinPurses.nilFault (w : World) : Calls Try.prog 21 #[.pointer none] w fun e w' => e = .returned (.int .i64 2) ∧ Below w.heap.size w w' := by
  go_enter Try.func21, Try.ntmps21
  go_wp2
  go_ret
  exact ⟨rfl, Below.refl _ _⟩
theorem milestonelaw03_CoinPurses.nilEnd (w : World) : Calls Try.prog 19 #[.pointer none] w fun e w' => e = .returned (.int .i64 2) ∧ Below w.heap.size w w' := by
  go_enter Try.func19, Try.ntmps19
  go_wp2_with (fail)
  refine (milestonelaw03_CoinPurses.nilFault _).mono ?_
  rintro e w1 ⟨rfl, hb⟩
  have HB := Aside0.mk hb
  clear hb
  go_wp2_with (fail)
  go_ret
  exact ⟨rfl, HB.out⟩
set_option maxHeartbeats 8000000 in
set_option maxRecDepth 100000 in
theorem milestonelaw03_CoinPurses.walk (P : milestonelaw03_CoinPurses.Pure) (a0 : Option Addr) (len0 cap0 : Nat) (z0 : List Int) (a1 : Option Addr) (len1 cap1 : Nat) (z1 : List Int) (w : World) (w0 : (a0 = none ∧ len0 = 0 ∧ cap0 = 0 ∧ z0 = []) ∨ ∃ x, a0 = some x ∧ len0 ≤ cap0 ∧ cap0 ≤ maxLen ∧ z0.length = cap0 ∧ (∀ i, i < z0.length → w.cell? (x.add i) = some (.int .u8 (z0.getD i 0))) ∧ ∀ n ∈ z0, (Lit.int .u8 n).wf = true) (y0 : len0 * 1 ≤ 140737488351232) (w1 : (a1 = none ∧ len1 = 0 ∧ cap1 = 0 ∧ z1 = []) ∨ ∃ x, a1 = some x ∧ len1 ≤ cap1 ∧ cap1 ≤ maxLen ∧ z1.length = cap1 ∧ (∀ i, i < z1.length → w.cell? (x.add i) = some (.int .u8 (z1.getD i 0))) ∧ ∀ n ∈ z1, (Lit.int .u8 n).wf = true) (y1 : len1 * 1 ≤ 140737488351232) :
    Calls Try.prog 8 #[.slice a0 len0 cap0, .slice a1 len1 cap1] w fun e w' => e = .returned (.bool true) ∧ Below w.heap.size w w' := by
  obtain ⟨l0, rfl, hr0, hm0, hw0, hc0⟩ := ReadsInt.ofRowC w0
  clear w0 z0
  obtain ⟨l1, rfl, hr1, hm1, hw1, hc1⟩ := ReadsInt.ofRowC w1
  clear w1 z1
  obtain ⟨⟨ka, hka⟩, P2⟩ := P
  have HA := Aside0.mk hka
  have HR0 := Aside0.mk (Kd.C_of_reads (d := (0 : Int)) (h1 := fun _ => rfl) hr0)
  have HR1 := Aside0.mk (Kd.C_of_reads (d := (0 : Int)) (h1 := fun _ => rfl) hr1)
  have HC0 := Aside0.mk hc0
  have HW0 := Aside0.mk hw0
  have HW1 := Aside0.mk hw1
  have HP := Aside0.mk P2
  clear hka hr0 hr1 hc0 hc1 hw0 hw1 P2
  by_cases hlen : l0.length ≤ 100 ∧ l1.length ≤ 40
  · obtain ⟨hlen, hlen1⟩ := hlen
    have e1 : decide (100 < (l0.length : Int)) = false := decide_eq_false (by omega)
    have e2 : decide (100 < l0.length) = false := decide_eq_false (by omega)
    have e3 : decide (40 < (l1.length : Int)) = false := decide_eq_false (by omega)
    have e4 : decide (40 < l1.length) = false := decide_eq_false (by omega)
    go_enter Try.func8, Try.ntmps8
    go_wp2_with (fail)
    refine (milestonelaw03_awake.calls ka true _ HA.out).mono ?_
    rintro e w1 ⟨rfl, hb⟩
    have HB := Aside0.mk hb
    have HS := Aside0.mk (Kd.C_below HR0.out hb)
    clear hb
    go_wp2_with (fail)
    refine (coin_NewPurse.calls a0 cap0 l0 l0 0 w1 w1 (Below.refl _ _) HS.out HC0.out rfl).mono ?_
    rintro e w2 ⟨g, rfl, hI, hb, _⟩
    have HI := Aside0.mk hI
    have HB2 := Aside0.mk hb
    clear hI hb e1 e2 e3 e4
    obtain ⟨wo, hwo⟩ : ∃ wo : World, wo = w1 := ⟨_, rfl⟩
    subst hwo
    go_wp2_with (fail)
    go_loopw [6, 7, 8] (fun v6 v7 v8 wr => ∃ i : Nat, i ≤ l1.length ∧ v8 = .int .i64 i ∧ ∃ (l : List Int) (e : Int) (A : Option Addr) (c : Nat), v6 = .slice A l.length c ∧ v7 = .int .i64 e ∧ l.length ≤ 100 ∧ Aside0 (∀ n ∈ l, (Lit.int .u8 n).wf = true) ∧ Aside0 (l.length ≤ c) ∧ Aside0 (Kd.C (Kd.int .u8) wo A l.length l) ∧ Aside0 (IsS52 wo wr g l e) ∧ Aside0 (Below wo.heap.size wo wr)) (fun _ _ v8 _ => l1.length - (intOf v8).toNat)
    case atStart => exact ⟨0, by omega, rfl, l0, 0, a0, cap0, rfl, rfl, hlen, HW0, HC0, HS, HI, HB2⟩
    case round =>
      clear HI HB2 HS HC0
      obtain ⟨i, hi, rfl, l, e, A, c, rfl, rfl, hl, HW, HC, HS, HI, HB2⟩ := hrel
      have HBw := Aside0.mk (below_step HB.out HB2.out)
      have HCr := Aside0.mk (Kd.C_below HR1.out HBw.out)
      by_cases hlt : i < l1.length
      · obtain ⟨ad, had, hcell⟩ := Kd.at_int HCr.out (i : Int) (by omega) (by omega)
        subst had
        simp only [Int.toNat_natCast] at hcell
        have hq := Go.bounds_u8 (HW1.out (rd l1 (i : Int)) (by unfold rd; rw [Int.toNat_natCast, List.getD_eq_getElem?_getD, List.getElem?_eq_getElem hlt]; exact List.getElem_mem hlt))
        obtain ⟨q, hqq⟩ : ∃ q : Int, q = rd l1 (i : Int) := ⟨_, rfl⟩
        rw [← hqq] at hq hcell
        have HQ := Aside0.mk hqq
        clear hqq
        have e3 : decide ((i : Int) < (l1.length : Int)) = true := decide_eq_true (by omega)
        have e4 : decide (i < l1.length) = true := decide_eq_true hlt
        by_cases c0 : q % 3 = 0
        · have e5 : (q % 3 == 0) = true := beq_iff_eq.mpr c0
          have hk : 0 ≤ q / 3 ∧ q / 3 ≤ 85 := by omega
          by_cases c1 : e = 0
          · subst c1
            by_cases c2 : q / 3 = 0
            · have HBY := Aside0.mk (show coin_Purse_Bytes.f l 0 (-1) = some ([], l, 0) by unfold coin_Purse_Bytes.f; rw [if_pos rfl, if_pos (by omega)])
              have e6 : (q / 3 == 0) = true := beq_iff_eq.mpr c2
              have e7 : decide ((l.length : Int) < -1) = false := decide_eq_false (by omega)
              go_wp2_with (fail)
              refine (coin_Purse_Bytes.calls g l 0 (-1) _ _ _ wo _ HI.out HB2.out HBY.out).mono ?_
              rintro e w3 ⟨v3, rfl, ho3, hi3, hb3, hk3⟩
              have HI3 := Aside0.mk hi3
              have HB3 := Aside0.mk hb3
              obtain ⟨A3, c3, hv3, hl3, hC3⟩ := Kd.R_reads ho3
              subst hv3
              clear hi3 hb3 hk3 ho3 hC3
              go_wp2_with (fail)
              go_roundw
              case rel => exact ⟨i + 1, by omega, by go_num, l, _, A, c, rfl, rfl, hl, HW, HC, HS, HI3, HB3⟩
              case measure => simp [intOf]; omega
            · by_cases c3 : (l.length : Int) < q / 3 - 1
              · have HBY := Aside0.mk (show coin_Purse_Bytes.f l 0 (q / 3 - 1) = some ([], l, 5) by unfold coin_Purse_Bytes.f; rw [if_pos rfl, if_neg (by omega), if_pos (by omega)])
                have e6 : (q / 3 == 0) = false := beq_eq_false_iff_ne.mpr c2
                have e7 : decide ((l.length : Int) < q / 3 - 1) = true := decide_eq_true (by omega)
                go_wp2_with (fail)
                refine (coin_Purse_Bytes.calls g l 0 (q / 3 - 1) _ _ _ wo _ HI.out HB2.out HBY.out).mono ?_
                rintro e w3 ⟨v3, rfl, ho3, hi3, hb3, hk3⟩
                have HI3 := Aside0.mk hi3
                have HB3 := Aside0.mk hb3
                obtain ⟨A3, c3, hv3, hl3, hC3⟩ := Kd.R_reads ho3
                subst hv3
                clear hi3 hb3 hk3 ho3 hC3
                go_wp2_with (fail)
                go_roundw
                case rel => exact ⟨i + 1, by omega, by go_num, l, 5, A, c, rfl, rfl, hl, HW, HC, HS, HI3, HB3⟩
                case measure => simp [intOf]; omega
              · obtain ⟨b, hbb⟩ : ∃ b : List Int, b = l.take (q / 3 - 1).toNat := ⟨_, rfl⟩
                obtain ⟨d, hdd⟩ : ∃ d : List Int, d = l.drop (q / 3 - 1).toNat := ⟨_, rfl⟩
                have HBB := Aside0.mk hbb
                have HDD := Aside0.mk hdd
                have HBY := Aside0.mk (show coin_Purse_Bytes.f l 0 (q / 3 - 1) = some (b, d, 0) by rw [hbb, hdd]; unfold coin_Purse_Bytes.f; rw [if_pos rfl, if_neg (by omega), if_neg (by omega), if_pos (by omega)])
                go_wp2_with (fail)
                refine (coin_Purse_Bytes.calls g l 0 (q / 3 - 1) _ _ _ wo _ HI.out HB2.out HBY.out).mono ?_
                rintro e w3 ⟨v3, rfl, ho3, hi3, hb3, hk3⟩
                have HI3 := Aside0.mk hi3
                have HB3 := Aside0.mk hb3
                obtain ⟨A3, c3, hv3, hl3, hC3⟩ := Kd.R_reads ho3
                subst hv3
                have HO3 := Aside0.mk hC3
                clear hi3 hb3 hk3 ho3 hC3
                clear hbb hdd
                go_wp2_with (fail)
                have hcv1 := Kd.C_string (P := Try.prog) (A := A3) (c := c3) Try.underlying23 Try.underlying5 Try.underlying9 HO3.out
                have hcv1d := fun a_ : Nat => Kd.C_string (P := Try.prog) (A := A3) (c := c3) Try.underlying23 Try.underlying5 Try.underlying9 (Kd.C_drewN HO3.out a_)
                obtain ⟨i0, hi0, _, hsz, _⟩ := info_parts info5
                obtain ⟨hcut, hA', hC'⟩ := print_take_of (P := Try.prog) (Value.int .u8) 0 23 5 .i64 Try.underlying23 hi0 hsz A c l (q / 3 - 1) (by omega) (by omega) HC.out
                rw [← HBB.out] at hcut hA' hC'
                have HT3 := Aside0.mk (Kd.C_of_reads (h1 := fun _ => rfl) (hA' _ (Kd.reads_of_C (Kd.C_below HS.out HB3.out))))
                have hcv2 := Kd.C_string (P := Try.prog) (A := A) (c := c) Try.underlying23 Try.underlying5 Try.underlying9 HT3.out
                have hcv2d := fun a_ : Nat => Kd.C_string (P := Try.prog) (A := A) (c := c) Try.underlying23 Try.underlying5 Try.underlying9 (Kd.C_drewN HT3.out a_)
                obtain ⟨A4, hcut4, hA4, hC4⟩ := print_drop_of (P := Try.prog) (Value.int .u8) 0 23 5 .i64 Try.underlying23 hi0 hsz A c l (q / 3 - 1) (by omega) (by omega) HC.out
                rw [← HDD.out] at hcut4 hA4 hC4
                have HS4 := Aside0.mk (Kd.C_of_reads (h1 := fun _ => rfl) (hA4 _ (Kd.reads_of_C HS.out)))
                have HC4 := Aside0.mk hC4
                have HW4 := Aside0.mk (show ∀ n ∈ d, (Lit.int .u8 n).wf = true from fun n hn => HW.out n (List.mem_of_mem_drop (HDD.out ▸ hn)))
                have hl4 : d.length ≤ 100 := by rw [HDD.out, List.length_drop]; omega
                clear hi0 hsz hA' hC' hA4 hC4
                repeat (go_quiet (fail))
                go_wp2_with (fail)
                go_roundw
                case rel => exact ⟨i + 1, by omega, by go_num, d, 0, A4, _, rfl, rfl, hl4, HW4, ⟨by have := HC4.out; omega⟩, HS4, IsS52.drewN HI3.out _ |> Aside0.mk, ⟨pw_below_drewN HB3.out _⟩⟩
                case measure => simp [intOf]; omega
          · have HBY := Aside0.mk (show coin_Purse_Bytes.f l e (q / 3 - 1) = some ([], l, e) by unfold coin_Purse_Bytes.f; rw [if_neg c1])
            have e6 : (e == 0) = false := beq_eq_false_iff_ne.mpr c1
            have e7 : (e != 0) = true := bne_iff_ne.mpr c1
            go_wp2_with (fail)
            refine (coin_Purse_Bytes.calls g l e (q / 3 - 1) _ _ _ wo _ HI.out HB2.out HBY.out).mono ?_
            rintro e w3 ⟨v3, rfl, ho3, hi3, hb3, hk3⟩
            have HI3 := Aside0.mk hi3
            have HB3 := Aside0.mk hb3
            obtain ⟨A3, c3, hv3, hl3, hC3⟩ := Kd.R_reads ho3
            subst hv3
            clear hi3 hb3 hk3 ho3 hC3
            go_wp2_with (fail)
            go_roundw
            case rel => exact ⟨i + 1, by omega, by go_num, l, _, A, c, rfl, rfl, hl, HW, HC, HS, HI3, HB3⟩
            case measure => simp [intOf]; omega
        · have e5 : (q % 3 == 0) = false := beq_eq_false_iff_ne.mpr c0
          have hk : 0 ≤ q / 3 ∧ q / 3 ≤ 85 := by omega
          by_cases c4 : q % 3 = 1
          · have e9 : (q % 3 == 1) = true := beq_iff_eq.mpr c4
            by_cases c1 : e = 0
            · subst c1
              obtain ⟨k, n, j, e1, hG, hT, hn0, hn1, hj⟩ := HP.out l HW.out hl
              have HG := Aside0.mk hG
              have HT := Aside0.mk hT
              have HJ := Aside0.mk hj
              clear hG hT hj
              by_cases c2 : e1 = 0
              · subst c2
                obtain ⟨hj0, hj1⟩ := HJ.out rfl
                by_cases c3 : n > 18446744073709551615
                · exact absurd c3 (by omega)
                · obtain ⟨d, hdd⟩ : ∃ d : List Int, d = l.drop j.toNat := ⟨_, rfl⟩
                  have HDD := Aside0.mk hdd
                  have HTK := Aside0.mk (show coin_Purse_Take.f k l 0 (18446744073709551615) = some (n, d, 0) by rw [hdd]; unfold coin_Purse_Take.f; rw [if_pos rfl, HG.out, Option.bind_some, if_pos rfl, if_neg c3, if_pos hj0, if_pos hj1])
                  clear hdd
                  have e7 : decide (18446744073709551615 < n) = false := decide_eq_false c3
                  go_wp2_with (fail)
                  refine (coin_Purse_Take.calls k g l 0 (18446744073709551615) n d 0 wo _ HI.out HB2.out HTK.out).mono ?_
                  rintro e w3 ⟨rfl, hi3, hb3, hk3⟩
                  have HI3 := Aside0.mk hi3
                  have HB3 := Aside0.mk hb3
                  have HS3 := Aside0.mk (Kd.C_below HS.out hb3)
                  clear hi3 hb3 hk3
                  go_wp2_with (fail)
                  refine (milestoneref01_Take.calls k A c l n j 0 _ HS3.out HC.out HT.out).mono ?_
                  rintro e w4 ⟨rfl, hb⟩
                  have HI4 := Aside0.mk (IsS52.below HI3.out hb)
                  have HB4 := Aside0.mk (below_step HB3.out hb)
                  clear hb
                  obtain ⟨i0, hi0, _, hsz, _⟩ := info_parts info5
                  obtain ⟨A4, hcut4, hA4, hC4⟩ := print_drop_of (P := Try.prog) (Value.int .u8) 0 23 5 .i64 Try.underlying23 hi0 hsz A c l j hj0 hj1 HC.out
                  rw [← HDD.out] at hcut4 hA4 hC4
                  have HS4 := Aside0.mk (Kd.C_of_reads (h1 := fun _ => rfl) (hA4 _ (Kd.reads_of_C HS.out)))
                  have HC4 := Aside0.mk hC4
                  have HW4 := Aside0.mk (show ∀ n ∈ d, (Lit.int .u8 n).wf = true from fun n hn => HW.out n (List.mem_of_mem_drop (HDD.out ▸ hn)))
                  have hl4 : d.length ≤ 100 := by rw [HDD.out, List.length_drop]; omega
                  have e8 : (n != n) = false := by simp
                  clear hi0 hsz hA4 hC4
                  go_wp2_with (fail)
                  go_roundw
                  case rel => exact ⟨i + 1, by omega, by go_num, d, 0, A4, _, rfl, rfl, hl4, HW4, HC4, HS4, HI4, HB4⟩
                  case measure => simp [intOf]; omega
              · have HTK := Aside0.mk (show coin_Purse_Take.f k l 0 (18446744073709551615) = some (0, l, e1) by unfold coin_Purse_Take.f; rw [if_pos rfl, HG.out, Option.bind_some, if_neg c2])
                have e6 : (e1 == 0) = false := beq_eq_false_iff_ne.mpr c2
                have e7 : (e1 != 0) = true := bne_iff_ne.mpr c2
                go_wp2_with (fail)
                refine (coin_Purse_Take.calls k g l 0 (18446744073709551615) 0 l e1 wo _ HI.out HB2.out HTK.out).mono ?_
                rintro e w3 ⟨rfl, hi3, hb3, hk3⟩
                have HI3 := Aside0.mk hi3
                have HB3 := Aside0.mk hb3
                have HS3 := Aside0.mk (Kd.C_below HS.out hb3)
                clear hi3 hb3 hk3
                go_wp2_with (fail)
                refine (milestoneref01_Take.calls k A c l n j e1 _ HS3.out HC.out HT.out).mono ?_
                rintro e w4 ⟨rfl, hb⟩
                have HI4 := Aside0.mk (IsS52.below HI3.out hb)
                have HB4 := Aside0.mk (below_step HB3.out hb)
                clear hb
                go_wp2_with (fail)
                go_roundw
                case rel => exact ⟨i + 1, by omega, by go_num, l, e1, A, c, rfl, rfl, hl, HW, HC, HS, HI4, HB4⟩
                case measure => simp [intOf]; omega
            · have HTK := Aside0.mk (show coin_Purse_Take.f 0 l e (18446744073709551615) = some (0, l, e) by unfold coin_Purse_Take.f; rw [if_neg c1])
              have e6 : (e == 0) = false := beq_eq_false_iff_ne.mpr c1
              have e7 : (e != 0) = true := bne_iff_ne.mpr c1
              go_wp2_with (fail)
              refine (coin_Purse_Take.calls 0 g l e (18446744073709551615) 0 l e wo _ HI.out HB2.out HTK.out).mono ?_
              rintro e_ w3 ⟨rfl, hi3, hb3, hk3⟩
              have HI3 := Aside0.mk hi3
              have HB3 := Aside0.mk hb3
              clear hi3 hb3 hk3
              go_wp2_with (fail)
              go_roundw
              case rel => exact ⟨i + 1, by omega, by go_num, l, e, A, c, rfl, rfl, hl, HW, HC, HS, HI3, HB3⟩
              case measure => simp [intOf]; omega
          · have e9 : (q % 3 == 1) = false := beq_eq_false_iff_ne.mpr c4
            by_cases c1 : e = 0
            · subst c1
              obtain ⟨k, n, j, e1, hG, hT, hn0, hn1, hj⟩ := HP.out l HW.out hl
              have HG := Aside0.mk hG
              have HT := Aside0.mk hT
              have HJ := Aside0.mk hj
              clear hG hT hj
              by_cases c2 : e1 = 0
              · subst c2
                obtain ⟨hj0, hj1⟩ := HJ.out rfl
                by_cases c3 : n > q / 3
                · have HTK := Aside0.mk (show coin_Purse_Take.f k l 0 (q / 3) = some (0, l, 6) by unfold coin_Purse_Take.f; rw [if_pos rfl, HG.out, Option.bind_some, if_pos rfl, if_pos c3])
                  have e7 : decide (q / 3 < n) = true := decide_eq_true c3
                  go_wp2_with (fail)
                  refine (coin_Purse_Take.calls k g l 0 (q / 3) 0 l 6 wo _ HI.out HB2.out HTK.out).mono ?_
                  rintro e w3 ⟨rfl, hi3, hb3, hk3⟩
                  have HI3 := Aside0.mk hi3
                  have HB3 := Aside0.mk hb3
                  have HS3 := Aside0.mk (Kd.C_below HS.out hb3)
                  clear hi3 hb3 hk3
                  go_wp2_with (fail)
                  refine (milestoneref01_Take.calls k A c l n j 0 _ HS3.out HC.out HT.out).mono ?_
                  rintro e w4 ⟨rfl, hb⟩
                  have HI4 := Aside0.mk (IsS52.below HI3.out hb)
                  have HB4 := Aside0.mk (below_step HB3.out hb)
                  clear hb
                  go_wp2_with (fail)
                  go_roundw
                  case rel => exact ⟨i + 1, by omega, by go_num, l, 6, A, c, rfl, rfl, hl, HW, HC, HS, HI4, HB4⟩
                  case measure => simp [intOf]; omega
                · obtain ⟨d, hdd⟩ : ∃ d : List Int, d = l.drop j.toNat := ⟨_, rfl⟩
                  have HDD := Aside0.mk hdd
                  have HTK := Aside0.mk (show coin_Purse_Take.f k l 0 (q / 3) = some (n, d, 0) by rw [hdd]; unfold coin_Purse_Take.f; rw [if_pos rfl, HG.out, Option.bind_some, if_pos rfl, if_neg c3, if_pos hj0, if_pos hj1])
                  clear hdd
                  have e7 : decide (q / 3 < n) = false := decide_eq_false c3
                  go_wp2_with (fail)
                  refine (coin_Purse_Take.calls k g l 0 (q / 3) n d 0 wo _ HI.out HB2.out HTK.out).mono ?_
                  rintro e w3 ⟨rfl, hi3, hb3, hk3⟩
                  have HI3 := Aside0.mk hi3
                  have HB3 := Aside0.mk hb3
                  have HS3 := Aside0.mk (Kd.C_below HS.out hb3)
                  clear hi3 hb3 hk3
                  go_wp2_with (fail)
                  refine (milestoneref01_Take.calls k A c l n j 0 _ HS3.out HC.out HT.out).mono ?_
                  rintro e w4 ⟨rfl, hb⟩
                  have HI4 := Aside0.mk (IsS52.below HI3.out hb)
                  have HB4 := Aside0.mk (below_step HB3.out hb)
                  clear hb
                  obtain ⟨i0, hi0, _, hsz, _⟩ := info_parts info5
                  obtain ⟨A4, hcut4, hA4, hC4⟩ := print_drop_of (P := Try.prog) (Value.int .u8) 0 23 5 .i64 Try.underlying23 hi0 hsz A c l j hj0 hj1 HC.out
                  rw [← HDD.out] at hcut4 hA4 hC4
                  have HS4 := Aside0.mk (Kd.C_of_reads (h1 := fun _ => rfl) (hA4 _ (Kd.reads_of_C HS.out)))
                  have HC4 := Aside0.mk hC4
                  have HW4 := Aside0.mk (show ∀ n ∈ d, (Lit.int .u8 n).wf = true from fun n hn => HW.out n (List.mem_of_mem_drop (HDD.out ▸ hn)))
                  have hl4 : d.length ≤ 100 := by rw [HDD.out, List.length_drop]; omega
                  have e8 : (n != n) = false := by simp
                  clear hi0 hsz hA4 hC4
                  go_wp2_with (fail)
                  go_roundw
                  case rel => exact ⟨i + 1, by omega, by go_num, d, 0, A4, _, rfl, rfl, hl4, HW4, HC4, HS4, HI4, HB4⟩
                  case measure => simp [intOf]; omega
              · have HTK := Aside0.mk (show coin_Purse_Take.f k l 0 (q / 3) = some (0, l, e1) by unfold coin_Purse_Take.f; rw [if_pos rfl, HG.out, Option.bind_some, if_neg c2])
                have e6 : (e1 == 0) = false := beq_eq_false_iff_ne.mpr c2
                have e7 : (e1 != 0) = true := bne_iff_ne.mpr c2
                go_wp2_with (fail)
                refine (coin_Purse_Take.calls k g l 0 (q / 3) 0 l e1 wo _ HI.out HB2.out HTK.out).mono ?_
                rintro e w3 ⟨rfl, hi3, hb3, hk3⟩
                have HI3 := Aside0.mk hi3
                have HB3 := Aside0.mk hb3
                have HS3 := Aside0.mk (Kd.C_below HS.out hb3)
                clear hi3 hb3 hk3
                go_wp2_with (fail)
                refine (milestoneref01_Take.calls k A c l n j e1 _ HS3.out HC.out HT.out).mono ?_
                rintro e w4 ⟨rfl, hb⟩
                have HI4 := Aside0.mk (IsS52.below HI3.out hb)
                have HB4 := Aside0.mk (below_step HB3.out hb)
                clear hb
                go_wp2_with (fail)
                go_roundw
                case rel => exact ⟨i + 1, by omega, by go_num, l, e1, A, c, rfl, rfl, hl, HW, HC, HS, HI4, HB4⟩
                case measure => simp [intOf]; omega
            · have HTK := Aside0.mk (show coin_Purse_Take.f 0 l e (q / 3) = some (0, l, e) by unfold coin_Purse_Take.f; rw [if_neg c1])
              have e6 : (e == 0) = false := beq_eq_false_iff_ne.mpr c1
              have e7 : (e != 0) = true := bne_iff_ne.mpr c1
              go_wp2_with (fail)
              refine (coin_Purse_Take.calls 0 g l e (q / 3) 0 l e wo _ HI.out HB2.out HTK.out).mono ?_
              rintro e_ w3 ⟨rfl, hi3, hb3, hk3⟩
              have HI3 := Aside0.mk hi3
              have HB3 := Aside0.mk hb3
              clear hi3 hb3 hk3
              go_wp2_with (fail)
              go_roundw
              case rel => exact ⟨i + 1, by omega, by go_num, l, e, A, c, rfl, rfl, hl, HW, HC, HS, HI3, HB3⟩
              case measure => simp [intOf]; omega
      · obtain rfl : i = l1.length := by omega
        have e3 : decide ((l1.length : Int) < (l1.length : Int)) = false := decide_eq_false (by omega)
        by_cases c1 : e = 0
        · subst c1
          by_cases c2 : 0 < l.length
          · have HEND := Aside0.mk (show coin_Purse_End.f l 0 = some (4, l, 0) by unfold coin_Purse_End.f; rw [if_pos rfl, if_pos (by omega)])
            have e4 : decide (0 < (l.length : Int)) = true := decide_eq_true (by omega)
            have e5 : decide (0 < l.length) = true := decide_eq_true c2
            go_wp2_with (fail)
            refine (coin_Purse_Fault.calls g l 0 0 l 0 wo _ HI.out HB2.out rfl).mono ?_
            rintro e_ w3 ⟨rfl, hi3, hb3, hk3⟩
            have HI3 := Aside0.mk hi3
            have HB3 := Aside0.mk hb3
            clear hi3 hb3 hk3
            go_wp2_with (fail)
            refine (coin_Purse_Left.calls g l 0 (l.length : Int) l 0 wo _ HI3.out HB3.out rfl).mono ?_
            rintro e_ w4 ⟨rfl, hi4, hb4, hk4⟩
            have HI4 := Aside0.mk hi4
            have HB4 := Aside0.mk hb4
            clear hi4 hb4 hk4
            go_wp2_with (fail)
            refine (coin_Purse_End.calls g l 0 4 l 0 wo _ HI4.out HB4.out HEND.out).mono ?_
            rintro e_ w5 ⟨rfl, hi5, hb5, hk5⟩
            have HB5 := Aside0.mk (below_step HB.out hb5)
            clear hi5 hb5 hk5
            go_wp2_with (fail)
            refine (milestonelaw03_CoinPurses.nilTake _).mono ?_
            rintro e_ w6 ⟨rfl, hb⟩
            have HB6 := Aside0.mk (below_step HB5.out hb)
            clear hb
            go_wp2_with (fail)
            refine (milestonelaw03_CoinPurses.nilBytes _).mono ?_
            rintro e_ w7 ⟨rfl, hb⟩
            have HB7 := Aside0.mk (below_step HB6.out hb)
            clear hb
            go_wp2_with (fail)
            refine (milestonelaw03_CoinPurses.nilLeft _).mono ?_
            rintro e_ w8 ⟨rfl, hb⟩
            have HB8 := Aside0.mk (below_step HB7.out hb)
            clear hb
            go_wp2_with (fail)
            refine (milestonelaw03_CoinPurses.nilFault _).mono ?_
            rintro e_ w9 ⟨rfl, hb⟩
            have HB9 := Aside0.mk (below_step HB8.out hb)
            clear hb
            go_wp2_with (fail)
            refine (milestonelaw03_CoinPurses.nilEnd _).mono ?_
            rintro e_ w10 ⟨rfl, hb⟩
            have HB10 := Aside0.mk (below_step HB9.out hb)
            clear hb
            go_wp2_with (fail)
            go_ret
            exact ⟨rfl, HB10.out⟩
          · have HEND := Aside0.mk (show coin_Purse_End.f l 0 = some (0, l, 0) by unfold coin_Purse_End.f; rw [if_pos rfl, if_neg (by omega)])
            have e4 : decide (0 < (l.length : Int)) = false := decide_eq_false (by omega)
            have e5 : decide (0 < l.length) = false := decide_eq_false c2
            go_wp2_with (fail)
            refine (coin_Purse_Fault.calls g l 0 0 l 0 wo _ HI.out HB2.out rfl).mono ?_
            rintro e_ w3 ⟨rfl, hi3, hb3, hk3⟩
            have HI3 := Aside0.mk hi3
            have HB3 := Aside0.mk hb3
            clear hi3 hb3 hk3
            go_wp2_with (fail)
            refine (coin_Purse_Left.calls g l 0 (l.length : Int) l 0 wo _ HI3.out HB3.out rfl).mono ?_
            rintro e_ w4 ⟨rfl, hi4, hb4, hk4⟩
            have HI4 := Aside0.mk hi4
            have HB4 := Aside0.mk hb4
            clear hi4 hb4 hk4
            go_wp2_with (fail)
            refine (coin_Purse_End.calls g l 0 0 l 0 wo _ HI4.out HB4.out HEND.out).mono ?_
            rintro e_ w5 ⟨rfl, hi5, hb5, hk5⟩
            have HB5 := Aside0.mk (below_step HB.out hb5)
            clear hi5 hb5 hk5
            go_wp2_with (fail)
            refine (milestonelaw03_CoinPurses.nilTake _).mono ?_
            rintro e_ w6 ⟨rfl, hb⟩
            have HB6 := Aside0.mk (below_step HB5.out hb)
            clear hb
            go_wp2_with (fail)
            refine (milestonelaw03_CoinPurses.nilBytes _).mono ?_
            rintro e_ w7 ⟨rfl, hb⟩
            have HB7 := Aside0.mk (below_step HB6.out hb)
            clear hb
            go_wp2_with (fail)
            refine (milestonelaw03_CoinPurses.nilLeft _).mono ?_
            rintro e_ w8 ⟨rfl, hb⟩
            have HB8 := Aside0.mk (below_step HB7.out hb)
            clear hb
            go_wp2_with (fail)
            refine (milestonelaw03_CoinPurses.nilFault _).mono ?_
            rintro e_ w9 ⟨rfl, hb⟩
            have HB9 := Aside0.mk (below_step HB8.out hb)
            clear hb
            go_wp2_with (fail)
            refine (milestonelaw03_CoinPurses.nilEnd _).mono ?_
            rintro e_ w10 ⟨rfl, hb⟩
            have HB10 := Aside0.mk (below_step HB9.out hb)
            clear hb
            go_wp2_with (fail)
            go_ret
            exact ⟨rfl, HB10.out⟩
        · have HEND := Aside0.mk (show coin_Purse_End.f l e = some (e, l, e) by unfold coin_Purse_End.f; rw [if_neg c1])
          have e4 : (e == 0) = false := beq_eq_false_iff_ne.mpr c1
          have e5 : (e == e) = true := by simp
          go_wp2_with (fail)
          refine (coin_Purse_Fault.calls g l e e l e wo _ HI.out HB2.out rfl).mono ?_
          rintro e_ w3 ⟨rfl, hi3, hb3, hk3⟩
          have HI3 := Aside0.mk hi3
          have HB3 := Aside0.mk hb3
          clear hi3 hb3 hk3
          go_wp2_with (fail)
          refine (coin_Purse_Left.calls g l e (l.length : Int) l e wo _ HI3.out HB3.out rfl).mono ?_
          rintro e_ w4 ⟨rfl, hi4, hb4, hk4⟩
          have HI4 := Aside0.mk hi4
          have HB4 := Aside0.mk hb4
          clear hi4 hb4 hk4
          go_wp2_with (fail)
          refine (coin_Purse_End.calls g l e e l e wo _ HI4.out HB4.out HEND.out).mono ?_
          rintro e_ w5 ⟨rfl, hi5, hb5, hk5⟩
          have HB5 := Aside0.mk (below_step HB.out hb5)
          clear hi5 hb5 hk5
          go_wp2_with (fail)
          refine (milestonelaw03_CoinPurses.nilTake _).mono ?_
          rintro e_ w6 ⟨rfl, hb⟩
          have HB6 := Aside0.mk (below_step HB5.out hb)
          clear hb
          go_wp2_with (fail)
          refine (milestonelaw03_CoinPurses.nilBytes _).mono ?_
          rintro e_ w7 ⟨rfl, hb⟩
          have HB7 := Aside0.mk (below_step HB6.out hb)
          clear hb
          go_wp2_with (fail)
          refine (milestonelaw03_CoinPurses.nilLeft _).mono ?_
          rintro e_ w8 ⟨rfl, hb⟩
          have HB8 := Aside0.mk (below_step HB7.out hb)
          clear hb
          go_wp2_with (fail)
          refine (milestonelaw03_CoinPurses.nilFault _).mono ?_
          rintro e_ w9 ⟨rfl, hb⟩
          have HB9 := Aside0.mk (below_step HB8.out hb)
          clear hb
          go_wp2_with (fail)
          refine (milestonelaw03_CoinPurses.nilEnd _).mono ?_
          rintro e_ w10 ⟨rfl, hb⟩
          have HB10 := Aside0.mk (below_step HB9.out hb)
          clear hb
          go_wp2_with (fail)
          go_ret
          exact ⟨rfl, HB10.out⟩
  · by_cases h1 : l0.length ≤ 100
    · have e1 : decide (100 < (l0.length : Int)) = false := decide_eq_false (by omega)
      have e2 : decide (100 < l0.length) = false := decide_eq_false (by omega)
      have e3 : decide (40 < (l1.length : Int)) = true := decide_eq_true (by omega)
      have e4 : decide (40 < l1.length) = true := decide_eq_true (by omega)
      go_enter Try.func8, Try.ntmps8
      go_wp2_with (fail)
      refine (milestonelaw03_awake.calls ka true _ HA.out).mono ?_
      rintro e w1 ⟨rfl, hb⟩
      have HB := Aside0.mk hb
      clear hb
      go_wp2_with (fail)
      refine (milestonelaw03_awake.calls ka true _ HA.out).mono ?_
      rintro e w2 ⟨rfl, hb⟩
      have HB2 := Aside0.mk (below_step HB.out hb)
      clear hb
      go_wp2_with (fail)
      go_ret
      exact ⟨rfl, HB2.out⟩
    · have e1 : decide (100 < (l0.length : Int)) = true := decide_eq_true (by omega)
      have e2 : decide (100 < l0.length) = true := decide_eq_true (by omega)
      go_enter Try.func8, Try.ntmps8
      go_wp2_with (fail)
      refine (milestonelaw03_awake.calls ka true _ HA.out).mono ?_
      rintro e w1 ⟨rfl, hb⟩
      have HB := Aside0.mk hb
      clear hb
      go_wp2_with (fail)
      refine (milestonelaw03_awake.calls ka true _ HA.out).mono ?_
      rintro e w2 ⟨rfl, hb⟩
      have HB2 := Aside0.mk (below_step HB.out hb)
      clear hb
      go_wp2_with (fail)
      go_ret
      exact ⟨rfl, HB2.out⟩

end Go.Proofs.Ytghgaehcejechaa.QCoinPurses
