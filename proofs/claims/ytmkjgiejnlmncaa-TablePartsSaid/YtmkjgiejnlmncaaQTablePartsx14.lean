-- Lines by a program of this session, for this claim.
import Derived.Test.YtmkjgiejnlmncaaQTablePartsx0
import Derived.Test.YtmkjgiejnlmncaaQTablePartsx3
import Derived.Test.YtmkjgiejnlmncaaQTablePartsx7
import Derived.Test.YtmkjgiejnlmncaaQTablePartsx8
import Derived.Test.YtmkjgiejnlmncaaQTablePartsx9
import Derived.Test.YtmkjgiejnlmncaaQTablePartsx11
import Derived.Test.YtmkjgiejnlmncaaQTablePartsx13
namespace Go.Proofs.Ytmkjgiejnlmncaa.QTableParts
open Go.RowKit Go.Proofs.YtmkjgiejnlmncaaW.PrintWords Go.Proofs.YtmkjgiejnlmncaaW.PrintLast Go.Proofs.YtmkjgiejnlmncaaW.PrintMore
attribute [local go_sem] max2_int min2_int max_two min_two max_three min_three max_four min_four   -- for this text's walks alone
set_option linter.unusedVariables false
set_option linter.unusedSimpArgs false

/-! ### gl_TableParts: function 4 -/
def gl_TableParts.Pure : Prop := gl_awake.f = some true ∧ ∀ l0 : List S68, l0.length ≤ 50 → (∀ x ∈ l0, ((Lit.int .u8 x.f0).wf = true ∧ ((Lit.int .u8 x.f1).wf = true ∧ ((Lit.int .u8 x.f2).wf = true ∧ ((Lit.int .u8 x.f3).wf = true ∧ (Lit.int .u8 x.f4).wf = true))))) → ∃ (k : Nat) (all : List S38), gb_History.f k l0 = some all ∧ all.length ≤ 1000 ∧ ∀ n : Nat, n ≤ all.length →
  ∃ (k1 k2 k4 : Nat) (T1 T2 : (List S43 × Int × Int)) (b cc : List Int), gl_of.f (all.take n) = some T1 ∧ (∀ x ∈ T1.1, table_Table_Encode.okR x) ∧ table_Table_Encode.f k1 T1 = some b ∧ table_Decode.f k2 b = some (some T1, 0) ∧ gl_of.l (all.drop n) T1 = some T2 ∧ gl_of.f all = some T2 ∧ (∀ x ∈ T2.1, table_Table_Encode.okR x) ∧ table_Table_Encode.f k4 T2 = some cc
theorem gl_TableParts.slice_C {W : World} {base : Nat} {ok : Nat → Prop} {A : Option Addr} {n c : Nat} {xs : List S38} (h : Kd.R k38 38 W base ok (.slice A n c) xs) : Kd.C k38 W A n xs := by
  obtain ⟨A', c', e, _, hC⟩ := Kd.R_reads h
  injection e with e1 e2 e3
  subst e1; subst e2; exact hC
theorem gl_TableParts.wk {w w0 W : World} {g : Nat} {T : (List S43 × Int × Int)} (hb : w.heap.size ≤ w0.heap.size) : IsS70 w0 W g T → IsS70 w W g T := fun ⟨v, e, hg, hr, hi⟩ => ⟨v, e, Nat.le_trans hb hg, Kd.R_lower hr hb, hi⟩
set_option maxHeartbeats 8000000 in
set_option maxRecDepth 100000 in
theorem gl_TableParts.walk (P : gl_TableParts.Pure) (a0 : Option Addr) (cap0 : Nat) (l0 : List S68) (a1 : Int) (w : World) (hr0 : Kd.C k68 w a0 l0.length l0) (hc0 : l0.length ≤ cap0) (hm0 : l0.length ≤ maxLen) (hw0 : (∀ x ∈ l0, ((Lit.int .u8 x.f0).wf = true ∧ ((Lit.int .u8 x.f1).wf = true ∧ ((Lit.int .u8 x.f2).wf = true ∧ ((Lit.int .u8 x.f3).wf = true ∧ (Lit.int .u8 x.f4).wf = true)))))) (w1 : (Lit.int .u8 a1).wf = true) :
    Calls Try.prog 4 #[.slice a0 l0.length cap0, .int .u8 a1] w fun e w' => e = .returned (.bool true) ∧ Below w.heap.size w w' := by
  have hu24 := Try.underlying24; have hu38 := Try.underlying38; obtain ⟨pa, hP⟩ := P; have PAW := Aside0.mk pa; have HP := Aside0.mk hP; have HR0 := Aside0.mk hr0; have HW0 := Aside0.mk hw0; have b1 := Go.bounds_u8 w1; clear pa hP hr0 hw0 w1 hm0
  go_enter Try.func4, Try.ntmps4
  go_wp2_with (fail)
  refine (gl_awake.calls true _ PAW.out).mono ?_; rintro e w5 ⟨rfl, hb⟩; have HB := Aside0.mk hb; clear hb
  by_cases hlen : ¬ l0.length ≤ 50
  · have q1 : decide ((l0.length : Int) > 50) = true := decide_eq_true (by omega)
    have q2 : decide (50 < (l0.length : Int)) = true := decide_eq_true (by omega)
    go_wp2_with (fail)
    refine (gl_awake.calls true _ PAW.out).mono ?_; rintro e w6 ⟨rfl, hb⟩; have HB6 := Aside0.mk (below_step HB.out hb); clear hb
    go_wp2_with (fail)
    go_ret; exact ⟨rfl, HB6.out⟩
  have hlen' : l0.length ≤ 50 := Decidable.not_not.1 hlen; have q1 : decide ((l0.length : Int) > 50) = false := decide_eq_false (by omega); have q2 : decide (50 < (l0.length : Int)) = false := decide_eq_false (by omega); clear hlen; obtain ⟨k, all, hh, ha, hn⟩ := HP.out l0 hlen' HW0.out; obtain ⟨n3, rfl⟩ := Int.eq_ofNat_of_zero_le b1.1
  obtain ⟨n, hnn⟩ : ∃ n : Nat, n = n3 % (all.length + 1) := ⟨_, rfl⟩
  have hnl : n ≤ all.length := by rw [hnn]; exact Nat.lt_succ_iff.1 (Nat.mod_lt _ (Nat.succ_pos _))
  have r1 : (n3 : Int) % ((all.length : Int) + 1) = (n : Int) := by rw [hnn]; push_cast; rfl
  have r2 : Int.tmod (n3 : Int) ((all.length : Int) + 1) = (n : Int) := by rw [Int.tmod_eq_emod_of_nonneg (Int.natCast_nonneg _)]; exact r1
  obtain ⟨k1, k2, k4, T1, T2, b, cc, h1, h2, h3, h4, h5, h6, h7, h8⟩ := hn n hnl; have HH := Aside0.mk hh; have H1 := Aside0.mk h1; have HOK1 := Aside0.mk h2; have HE1 := Aside0.mk h3; have HD := Aside0.mk h4; have HF := Aside0.mk h5; have H6 := Aside0.mk h6; have HOK2 := Aside0.mk h7; have HE2 := Aside0.mk h8; clear hh hn h1 h2 h3 h4 h5 h6 h7 h8 hnn HP HW0
  go_wp2_with (fail)
  refine (gb_History.calls k a0 cap0 l0 all _ (Kd.C_below HR0.out HB.out) hc0 HH.out).mono ?_; rintro e w6 ⟨v6, rfl, ho, hb⟩; have HA := Aside0.mk (Kd.R_lower ho HB.out.size); have HB6 := Aside0.mk (below_step HB.out hb); obtain ⟨A6, c6, e6, hl6, hC6⟩ := Kd.R_reads ho; subst e6; obtain ⟨i38, hi38, _, _, _⟩ := info_parts info38; have hcut := cut_to (P := Try.prog) 24 38 .i64 Try.underlying24 hi38 A6 all.length c6 (n : Int) (by omega) (by omega) hl6
  have htk : (all.take n).length = n := by rw [List.length_take]; omega
  have hof := gl_of.calls A6 c6 (all.take n) T1 w w6 HB6.out (Kd.C_take hC6 hnl) (by rw [htk]; omega) H1.out; rw [htk] at hof; rw [Int.toNat_natCast] at hcut; have HOF := Aside0.mk hof; clear hb ho hi38 hC6 hof HB HR0 HH H1 htk; have z0 : ((all.length : Int) + 1 == 0) = false := beq_eq_false_iff_ne.mpr (by omega)
  go_wp2_with (fail)
  refine HOF.out.mono ?_; rintro e w7 ⟨gt, rfl, hi, hb, hb2⟩; have HIt := Aside0.mk hi; have HB := Aside0.mk hb; have n0_ := Aside0.mk (Kd.R_below HA.out hb2); clear HA; have HA := n0_; clear n0_; clear hi hb hb2 hcut r1 r2 z0 HOF HB6
  go_wp2_with (fail)
  refine (table_Table_Encode.calls k1 gt T1 b w w7 HIt.out HOK1.out HE1.out).mono ?_; rintro e w8 ⟨v8, rfl, ho, hb2⟩; obtain ⟨A8, c8, e8, hl8, hC8⟩ := Kd.R_reads ho; subst e8; have HC8 := Aside0.mk hC8; have n0_ := Aside0.mk (Kd.R_below HA.out hb2); have n1_ := Aside0.mk (below_step HB.out hb2); clear HA HB; have HA := n0_; have HB := n1_; clear n0_ n1_; clear ho hb2 hC8 HIt HOK1 HE1
  go_wp2_with (fail)
  refine (table_Decode.calls k2 A8 c8 b (some T1) 0 w8 HC8.out hl8 HD.out).mono ?_; rintro e w9 ⟨⟨gu, rfl, hi⟩, hb2⟩; have HIu := Aside0.mk (gl_TableParts.wk HB.out.size hi); have n0_ := Aside0.mk (Kd.R_below HA.out hb2); have n1_ := Aside0.mk (below_step HB.out hb2); clear HA HB; have HA := n0_; have HB := n1_; clear n0_ n1_; clear hi hb2 HC8 HD hl8
  go_wp2_with (fail)
  go_loopg [10] all.length (fun kx s10 wr => ∃ (j : Nat) (T : (List S43 × Int × Int)), s10 = .int .i64 j ∧ j ≤ all.length ∧ all.length - j ≤ kx ∧ Aside0 (IsS70 w wr gu T) ∧ Aside0 (gl_of.l (all.drop j) T = some T2) ∧ Aside0 (Kd.R k38 38 wr w.heap.size (fun _ => True) (.slice A6 all.length c6) all) ∧ Aside0 (Below w.heap.size w wr))
  case atStart => exact ⟨n, T1, rfl, hnl, by omega, HIu, HF, HA, HB⟩
  case round =>
    clear HIu HF HA HB; obtain ⟨j, T, rfl, hj, hgas, HIu, HF, HA, HB⟩ := hrel; have hC6 := gl_TableParts.slice_C HA.out
    by_cases hlt : j < all.length
    · have p1 : decide ((j : Int) < (all.length : Int)) = true := decide_eq_true (by omega)
      have p2 : decide (0 ≤ (j : Int)) = true := decide_eq_true (by omega); obtain ⟨ad, e0, hx0, hx1, hx2, hx3, hx4, hx5, hx6, hx7⟩ := at_T38 hC6 (j : Int) (by omega) (by omega); cases e0
      simp only [Int.toNat_natCast] at hx0 hx1 hx2 hx3 hx4 hx5 hx6 hx7
      have hdrop : all.drop j = rd_T38 all (j : Int) :: all.drop (j + 1) := by
        rw [List.drop_eq_getElem_cons hlt]
        congr 1
        show all[j] = all.getD (j : Int).toNat z38
        rw [Int.toNat_natCast, List.getD_eq_getElem?_getD, List.getElem?_eq_getElem hlt]; rfl
      have hf := HF.out; rw [hdrop] at hf; obtain ⟨⟨e1, T3⟩, hput, hf2⟩ := Option.bind_eq_some_iff.mp (show ((table_Table_Apply.f T (rd_T38 all (j : Int)).f0 (rd_T38 all (j : Int)).f1 (rd_T38 all (j : Int)).f2 (rd_T38 all (j : Int)).f3.f0.f0 (rd_T38 all (j : Int)).f3.f0.f1 (rd_T38 all (j : Int)).f3.f1 (rd_T38 all (j : Int)).f3.f2 (rd_T38 all (j : Int)).f3.f3).bind fun x => if x.1 = 0 then gl_of.l (all.drop (j + 1)) x.2 else none) = some T2 from hf)
      have hz : e1 = 0 := by
        by_cases hz : e1 = 0
        · exact hz
        · rw [if_neg hz] at hf2; cases hf2
      subst hz; have HPUT := Aside0.mk hput; have HF2 := Aside0.mk (show gl_of.l (all.drop (j + 1)) T3 = some T2 from hf2); clear hput hf2 hf hdrop HF hC6
      go_wp2_with (fail)
      refine (table_Table_Apply.calls gu T (rd_T38 all (j : Int)).f0 (rd_T38 all (j : Int)).f1 (rd_T38 all (j : Int)).f2 (rd_T38 all (j : Int)).f3.f0.f0 (rd_T38 all (j : Int)).f3.f0.f1 (rd_T38 all (j : Int)).f3.f1 (rd_T38 all (j : Int)).f3.f2 (rd_T38 all (j : Int)).f3.f3 0 T3 w _ HIu.out HB.out HPUT.out).mono ?_; rintro e w8' ⟨rfl, hi, hb, hk⟩; have HI3 := Aside0.mk hi
      have HA3 := Aside0.mk (Kd.R_keepT HA.out hk (fun q hq => by
        have hq2 : q = 38 := List.mem_singleton.1 (show q ∈ [38] from hq); subst hq2
        decide))
      have HB3 := Aside0.mk hb; clear hi hb hk hx0 hx1 hx2 hx3 hx4 hx5 hx6 hx7
      go_wp2_with (fail)
      go_roundg (all.length - (j + 1))
      case measure => omega
      case rel => exact ⟨j + 1, T3, by go_num, by omega, Nat.le_refl _, HI3, HF2, HA3, HB3⟩
    · have p1 : decide ((j : Int) < (all.length : Int)) = false := decide_eq_false (by omega)
      have hdrop : all.drop j = [] := List.drop_eq_nil_of_le (by omega); have hf := HF.out; rw [hdrop] at hf; have e : T = T2 := Option.some.inj hf; subst e; clear hf HF hdrop; have hof := gl_of.calls A6 c6 all T w wr HB.out hC6 hl6 H6.out; have HOF := Aside0.mk hof; clear hof hC6
      go_wp2_with (fail)
      refine HOF.out.mono ?_; rintro e wl ⟨gw, rfl, hi, hb, hb2⟩; have HIw := Aside0.mk hi; have HB2 := Aside0.mk hb; have n0_ := Aside0.mk (IsS70.below HIu.out hb2); clear HIu; have HIu := n0_; clear n0_; clear hi hb hb2 HOF HA HB; have HB := HB2; clear HB2
      go_upto_region 15 with (fail)
      have n0_ := Aside0.mk (IsS70.drew HIu.out); have n1_ := Aside0.mk (IsS70.drew HIw.out); have n2_ := Aside0.mk (below_drew1 HB.out); clear HIu HIw HB; have HIu := n0_; have HIw := n1_; have HB := n2_; clear n0_ n1_ n2_
      obtain ⟨X, hX⟩ : ∃ X : ByteArray, strOfNums cc = X := ⟨_, rfl⟩
      have HX := Aside0.mk hX; clear hX; refine start_ (n := 16) (S := fun w' => True) (ds := []) #[O,O,O,O,O,O,O,O,O,O,O,O,O,O,O,O] (by kernel_rfl) rfl rfl trivial (fun hHeld => ?_); generalize wl.drew = wd at HIu HIw HB hHeld ⊢; refine pure_ (i := 0) (N := some 60) (v := ?_) (a' := ?_) #[I,O,O,O,O,O,O,O,O,O,O,O,O,O,O,O] rfl rfl (by kernel_rfl) (fun _ _ _ h => h) (Or.inl ⟨by rfl, ?_⟩) ?_ ?_; rotate_left; · intro w'; go_simp; with_reducible rfl
      rotate_left; · simp only [Act.put, la0, la1, la2, i64_w, i32_w]; rfl
      refine pure_ (i := 1) (N := some 61) (v := ?_) (a' := ?_) #[I,I,O,O,O,O,O,O,O,O,O,O,O,O,O,O] rfl rfl (by kernel_rfl) (fun _ _ _ h => h) (Or.inl ⟨by rfl, ?_⟩) ?_ ?_; rotate_left; · intro w'; go_simp; with_reducible rfl
      rotate_left; · simp only [Act.put, la0, la1, la2, i64_w, i32_w]; rfl
      refine pure_ (i := 2) (N := some 62) (v := ?_) (a' := ?_) #[I,I,I,O,O,O,O,O,O,O,O,O,O,O,O,O] rfl rfl (by kernel_rfl) (fun _ _ _ h => h) (Or.inl ⟨by rfl, ?_⟩) ?_ ?_; rotate_left; · intro w'; go_simp; with_reducible rfl
      rotate_left; · simp only [Act.put, la0, la1, la2, i64_w, i32_w]; rfl
      refine pure_ (i := 3) (N := some 63) (v := ?_) (a' := ?_) #[I,I,I,I,O,O,O,O,O,O,O,O,O,O,O,O] rfl rfl (by kernel_rfl) (fun _ _ _ h => h) (Or.inl ⟨by rfl, ?_⟩) ?_ ?_; rotate_left; · intro w'; go_simp; with_reducible rfl
      rotate_left; · simp only [Act.put, la0, la1, la2, i64_w, i32_w]; rfl
      refine pure_ (i := 4) (N := some 64) (v := ?_) (a' := ?_) #[I,I,I,I,I,O,O,O,O,O,O,O,O,O,O,O] rfl rfl (by kernel_rfl) (fun _ _ _ h => h) (Or.inl ⟨by rfl, ?_⟩) ?_ ?_; rotate_left; · intro w'; go_simp; with_reducible rfl
      rotate_left; · simp only [Act.put, la0, la1, la2, i64_w, i32_w]; rfl
      refine pure_ (i := 5) (N := some 65) (v := ?_) (a' := ?_) #[I,I,I,I,I,I,O,O,O,O,O,O,O,O,O,O] rfl rfl (by kernel_rfl) (fun _ _ _ h => h) (Or.inl ⟨by rfl, ?_⟩) ?_ ?_; rotate_left; · intro w'; go_simp; with_reducible rfl
      rotate_left; · simp only [Act.put, la0, la1, la2, i64_w, i32_w]; rfl
      refine pure_ (i := 6) (N := some 66) (v := ?_) (a' := ?_) #[I,I,I,I,I,I,I,O,O,O,O,O,O,O,O,O] rfl rfl (by kernel_rfl) (fun _ _ _ h => h) (Or.inl ⟨by rfl, ?_⟩) ?_ ?_; rotate_left; · intro w'; go_simp; with_reducible rfl
      rotate_left; · simp only [Act.put, la0, la1, la2, i64_w, i32_w]; rfl
      refine pure_ (i := 7) (N := some 67) (v := ?_) (a' := ?_) #[I,I,I,I,I,I,I,I,O,O,O,O,O,O,O,O] rfl rfl (by kernel_rfl) (fun _ _ _ h => h) (Or.inl ⟨by rfl, ?_⟩) ?_ ?_; rotate_left; · intro w'; go_simp; with_reducible rfl
      rotate_left; · simp only [Act.put, la0, la1, la2, i64_w, i32_w]; rfl
      refine pure_ (i := 10) (N := some 70) (v := ?_) (a' := ?_) #[I,I,I,I,I,I,I,I,O,O,I,O,O,O,O,O] rfl rfl (by kernel_rfl) (fun _ _ _ h => h) (Or.inl ⟨by rfl, ?_⟩) ?_ ?_; rotate_left; · intro w'; go_simp; with_reducible rfl
      rotate_left; · simp only [Act.put, la0, la1, la2, i64_w, i32_w]; rfl
      refine one_ (i := 8) (N := some 68) #[I,I,I,I,I,I,I,I,I,O,I,O,O,O,O,O] rfl rfl (by kernel_rfl) (by decide) (fun K hK => ?_); refine goes_ Try.func20 (by kernel_rfl) rfl #[.pointer (some ⟨gu, 0, none⟩)] (by rfl) rfl rfl (by simp only [List.map_toArray, List.map_cons, List.map_nil]; rfl) ?_
      with_reducible refine (table_Table_Encode.calls k4 gu T cc w _ HIu.out HOK2.out HE2.out).mono ?_
      rintro e_ wu ⟨v_, rfl, ho, hb⟩; obtain ⟨Au, cu, ev, hl_, hC_⟩ := Kd.R_reads ho; subst ev; refine ⟨_, rfl, ?_⟩; have n0_ := Aside0.mk (IsS70.below HIu.out hb); have n1_ := Aside0.mk (IsS70.below HIw.out hb); have n2_ := Aside0.mk (below_step HB.out hb); clear HIu HIw HB; have HIu := n0_; have HIw := n1_; have HB := n2_; clear n0_ n1_ n2_; have HCu := Aside0.mk hC_
      (try (have q_ := Aside0.mk (Kd.C_below HCw.out hb); clear HCw; have HCw := q_; clear q_))
      clear ho hb hC_ hl_; refine hK.out _ _ trivial (fun hHeld => ?_); clear hK K; refine norm_ (a' := ?_) ?_ ?_; rotate_left
      · show Act.put _ (some 68) _ = _
        simp only [Act.put, la0, la1, la2, i64_w, i32_w]
        rfl
      refine two_ (i := 9) (j := 11) (Ni := some 69) (Nj := some 71) #[I,I,I,I,I,I,I,I,I,I,I,O,O,O,O,O] #[I,I,I,I,I,I,I,I,I,O,I,I,O,O,O,O] rfl rfl rfl rfl (by kernel_rfl) (by decide) (by decide) (fun K hK => ?_) (fun K hK => ?_)
      · skip
        have hcv := Kd.C_string (P := Try.prog) (src := 59) (dst := 9) (A := Au) (c := cu) Try.underlying59 Try.underlying5 Try.underlying9 HCu.out; rw [HX.out] at hcv; refine value_ (w1 := ?_) (v := ?_) (by rfl) rfl ?_ ?_; rotate_left 2
        · go_simp
          constructor
          · rfl
          · rfl
        clear hcv; refine hK.out _ _ trivial (fun hHeld => ?_); clear hK K; refine norm_ (a' := ?_) ?_ ?_; rotate_left
        · show Act.put _ (some 69) _ = _
          simp only [Act.put, la0, la1, la2, i64_w, i32_w]
          rfl
        refine one_ (i := 11) (N := some 71) #[I,I,I,I,I,I,I,I,I,I,I,I,O,O,O,O] rfl rfl (by kernel_rfl) (by decide) (fun K hK => ?_); refine goes_ Try.func20 (by kernel_rfl) rfl #[.pointer (some ⟨gw, 0, none⟩)] (by rfl) rfl rfl (by simp only [List.map_toArray, List.map_cons, List.map_nil]; rfl) ?_
        with_reducible refine (table_Table_Encode.calls k4 gw T cc w _ HIw.out HOK2.out HE2.out).mono ?_
        rintro e_ ww ⟨v_, rfl, ho, hb⟩; obtain ⟨Aw, cw, ev, hl_, hC_⟩ := Kd.R_reads ho; subst ev; refine ⟨_, rfl, ?_⟩; have n0_ := Aside0.mk (IsS70.below HIu.out hb); have n1_ := Aside0.mk (IsS70.below HIw.out hb); have n2_ := Aside0.mk (below_step HB.out hb); clear HIu HIw HB; have HIu := n0_; have HIw := n1_; have HB := n2_; clear n0_ n1_ n2_; have HCw := Aside0.mk hC_
        (try (have q_ := Aside0.mk (Kd.C_below HCu.out hb); clear HCu; have HCu := q_; clear q_))
        clear ho hb hC_ hl_; refine hK.out _ _ trivial (fun hHeld => ?_); clear hK K; refine norm_ (a' := ?_) ?_ ?_; rotate_left
        · show Act.put _ (some 71) _ = _
          simp only [Act.put, la0, la1, la2, i64_w, i32_w]
          rfl
        refine one_ (i := 12) (N := some 72) #[I,I,I,I,I,I,I,I,I,I,I,I,I,O,O,O] rfl rfl (by kernel_rfl) (by decide) (fun K hK => ?_); have hcv := Kd.C_string (P := Try.prog) (src := 59) (dst := 9) (A := Aw) (c := cw) Try.underlying59 Try.underlying5 Try.underlying9 HCw.out; rw [HX.out] at hcv; refine value_ (w1 := ?_) (v := ?_) (by rfl) rfl ?_ ?_; rotate_left 2
        · go_simp
          constructor
          · rfl
          · rfl
        clear hcv; refine hK.out _ _ trivial (fun hHeld => ?_); clear hK K; refine norm_ (a' := ?_) ?_ ?_; rotate_left
        · show Act.put _ (some 72) _ = _
          simp only [Act.put, la0, la1, la2, i64_w, i32_w]
          rfl
        refine pure_ (i := 13) (N := some 73) (v := ?_) (a' := ?_) #[I,I,I,I,I,I,I,I,I,I,I,I,I,I,O,O] rfl rfl (by kernel_rfl) (fun _ _ _ h => h) (Or.inl ⟨by rfl, ?_⟩) ?_ ?_; rotate_left; · intro w'; go_simp; with_reducible rfl
        rotate_left; · simp only [Act.put, la0, la1, la2, i64_w, i32_w]; rfl
        refine pure_ (i := 14) (N := some 74) (v := ?_) (a' := ?_) #[I,I,I,I,I,I,I,I,I,I,I,I,I,I,I,O] rfl rfl (by kernel_rfl) (fun _ _ _ h => h) (Or.inl ⟨by rfl, ?_⟩) ?_ ?_; rotate_left; · intro w'; go_simp; with_reducible rfl
        rotate_left; · simp only [Act.put, la0, la1, la2, i64_w, i32_w]; rfl
        refine pure_ (i := 15) (N := some 4) (v := ?_) (a' := ?_) #[I,I,I,I,I,I,I,I,I,I,I,I,I,I,I,I] rfl rfl (by kernel_rfl) (fun _ _ _ h => h) (Or.inl ⟨by rfl, ?_⟩) ?_ ?_; rotate_left; · intro w'; go_simp; with_reducible rfl
        rotate_left; · simp only [Act.put, la0, la1, la2, i64_w, i32_w]; rfl
        refine done_ (by kernel_rfl) ?_
        go_wp2_with (fail)
        go_ret; exact ⟨by first | rfl | simp, HB.out⟩
      · skip
        refine goes_ Try.func20 (by kernel_rfl) rfl #[.pointer (some ⟨gw, 0, none⟩)] (by rfl) rfl rfl (by simp only [List.map_toArray, List.map_cons, List.map_nil]; rfl) ?_
        with_reducible refine (table_Table_Encode.calls k4 gw T cc w _ HIw.out HOK2.out HE2.out).mono ?_
        rintro e_ ww ⟨v_, rfl, ho, hb⟩; obtain ⟨Aw, cw, ev, hl_, hC_⟩ := Kd.R_reads ho; subst ev; refine ⟨_, rfl, ?_⟩; have n0_ := Aside0.mk (IsS70.below HIu.out hb); have n1_ := Aside0.mk (IsS70.below HIw.out hb); have n2_ := Aside0.mk (below_step HB.out hb); clear HIu HIw HB; have HIu := n0_; have HIw := n1_; have HB := n2_; clear n0_ n1_ n2_; have HCw := Aside0.mk hC_
        (try (have q_ := Aside0.mk (Kd.C_below HCu.out hb); clear HCu; have HCu := q_; clear q_))
        clear ho hb hC_ hl_; refine hK.out _ _ trivial (fun hHeld => ?_); clear hK K; refine norm_ (a' := ?_) ?_ ?_; rotate_left
        · show Act.put _ (some 71) _ = _
          simp only [Act.put, la0, la1, la2, i64_w, i32_w]
          rfl
        refine two_ (i := 9) (j := 12) (Ni := some 69) (Nj := some 72) #[I,I,I,I,I,I,I,I,I,I,I,I,O,O,O,O] #[I,I,I,I,I,I,I,I,I,O,I,I,I,O,O,O] rfl rfl rfl rfl (by kernel_rfl) (by decide) (by decide) (fun K hK => ?_) (fun K hK => ?_)
        · skip
          have hcv := Kd.C_string (P := Try.prog) (src := 59) (dst := 9) (A := Au) (c := cu) Try.underlying59 Try.underlying5 Try.underlying9 HCu.out; rw [HX.out] at hcv; refine value_ (w1 := ?_) (v := ?_) (by rfl) rfl ?_ ?_; rotate_left 2
          · go_simp
            constructor
            · rfl
            · rfl
          clear hcv; refine hK.out _ _ trivial (fun hHeld => ?_); clear hK K; refine norm_ (a' := ?_) ?_ ?_; rotate_left
          · show Act.put _ (some 69) _ = _
            simp only [Act.put, la0, la1, la2, i64_w, i32_w]
            rfl
          refine one_ (i := 12) (N := some 72) #[I,I,I,I,I,I,I,I,I,I,I,I,I,O,O,O] rfl rfl (by kernel_rfl) (by decide) (fun K hK => ?_); have hcv := Kd.C_string (P := Try.prog) (src := 59) (dst := 9) (A := Aw) (c := cw) Try.underlying59 Try.underlying5 Try.underlying9 HCw.out; rw [HX.out] at hcv; refine value_ (w1 := ?_) (v := ?_) (by rfl) rfl ?_ ?_; rotate_left 2
          · go_simp
            constructor
            · rfl
            · rfl
          clear hcv; refine hK.out _ _ trivial (fun hHeld => ?_); clear hK K; refine norm_ (a' := ?_) ?_ ?_; rotate_left
          · show Act.put _ (some 72) _ = _
            simp only [Act.put, la0, la1, la2, i64_w, i32_w]
            rfl
          refine pure_ (i := 13) (N := some 73) (v := ?_) (a' := ?_) #[I,I,I,I,I,I,I,I,I,I,I,I,I,I,O,O] rfl rfl (by kernel_rfl) (fun _ _ _ h => h) (Or.inl ⟨by rfl, ?_⟩) ?_ ?_; rotate_left; · intro w'; go_simp; with_reducible rfl
          rotate_left; · simp only [Act.put, la0, la1, la2, i64_w, i32_w]; rfl
          refine pure_ (i := 14) (N := some 74) (v := ?_) (a' := ?_) #[I,I,I,I,I,I,I,I,I,I,I,I,I,I,I,O] rfl rfl (by kernel_rfl) (fun _ _ _ h => h) (Or.inl ⟨by rfl, ?_⟩) ?_ ?_; rotate_left; · intro w'; go_simp; with_reducible rfl
          rotate_left; · simp only [Act.put, la0, la1, la2, i64_w, i32_w]; rfl
          refine pure_ (i := 15) (N := some 4) (v := ?_) (a' := ?_) #[I,I,I,I,I,I,I,I,I,I,I,I,I,I,I,I] rfl rfl (by kernel_rfl) (fun _ _ _ h => h) (Or.inl ⟨by rfl, ?_⟩) ?_ ?_; rotate_left; · intro w'; go_simp; with_reducible rfl
          rotate_left; · simp only [Act.put, la0, la1, la2, i64_w, i32_w]; rfl
          refine done_ (by kernel_rfl) ?_
          go_wp2_with (fail)
          go_ret; exact ⟨by first | rfl | simp, HB.out⟩
        · skip
          have hcv := Kd.C_string (P := Try.prog) (src := 59) (dst := 9) (A := Aw) (c := cw) Try.underlying59 Try.underlying5 Try.underlying9 HCw.out; rw [HX.out] at hcv; refine value_ (w1 := ?_) (v := ?_) (by rfl) rfl ?_ ?_; rotate_left 2
          · go_simp
            constructor
            · rfl
            · rfl
          clear hcv; refine hK.out _ _ trivial (fun hHeld => ?_); clear hK K; refine norm_ (a' := ?_) ?_ ?_; rotate_left
          · show Act.put _ (some 72) _ = _
            simp only [Act.put, la0, la1, la2, i64_w, i32_w]
            rfl
          refine one_ (i := 9) (N := some 69) #[I,I,I,I,I,I,I,I,I,I,I,I,I,O,O,O] rfl rfl (by kernel_rfl) (by decide) (fun K hK => ?_); have hcv := Kd.C_string (P := Try.prog) (src := 59) (dst := 9) (A := Au) (c := cu) Try.underlying59 Try.underlying5 Try.underlying9 HCu.out; rw [HX.out] at hcv; refine value_ (w1 := ?_) (v := ?_) (by rfl) rfl ?_ ?_; rotate_left 2
          · go_simp
            constructor
            · rfl
            · rfl
          clear hcv; refine hK.out _ _ trivial (fun hHeld => ?_); clear hK K; refine norm_ (a' := ?_) ?_ ?_; rotate_left
          · show Act.put _ (some 69) _ = _
            simp only [Act.put, la0, la1, la2, i64_w, i32_w]
            rfl
          refine pure_ (i := 13) (N := some 73) (v := ?_) (a' := ?_) #[I,I,I,I,I,I,I,I,I,I,I,I,I,I,O,O] rfl rfl (by kernel_rfl) (fun _ _ _ h => h) (Or.inl ⟨by rfl, ?_⟩) ?_ ?_; rotate_left; · intro w'; go_simp; with_reducible rfl
          rotate_left; · simp only [Act.put, la0, la1, la2, i64_w, i32_w]; rfl
          refine pure_ (i := 14) (N := some 74) (v := ?_) (a' := ?_) #[I,I,I,I,I,I,I,I,I,I,I,I,I,I,I,O] rfl rfl (by kernel_rfl) (fun _ _ _ h => h) (Or.inl ⟨by rfl, ?_⟩) ?_ ?_; rotate_left; · intro w'; go_simp; with_reducible rfl
          rotate_left; · simp only [Act.put, la0, la1, la2, i64_w, i32_w]; rfl
          refine pure_ (i := 15) (N := some 4) (v := ?_) (a' := ?_) #[I,I,I,I,I,I,I,I,I,I,I,I,I,I,I,I] rfl rfl (by kernel_rfl) (fun _ _ _ h => h) (Or.inl ⟨by rfl, ?_⟩) ?_ ?_; rotate_left; · intro w'; go_simp; with_reducible rfl
          rotate_left; · simp only [Act.put, la0, la1, la2, i64_w, i32_w]; rfl
          refine done_ (by kernel_rfl) ?_
          go_wp2_with (fail)
          go_ret; exact ⟨by first | rfl | simp, HB.out⟩

end Go.Proofs.Ytmkjgiejnlmncaa.QTableParts
