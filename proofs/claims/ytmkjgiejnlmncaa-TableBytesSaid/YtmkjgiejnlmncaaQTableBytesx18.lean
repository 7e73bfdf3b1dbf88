-- Lines by a program of this session, for this claim.
import Derived.Test.YtmkjgiejnlmncaaQTableBytesx0
import Derived.Test.YtmkjgiejnlmncaaQTableBytesx4
import Derived.Test.YtmkjgiejnlmncaaQTableBytesx9
import Derived.Test.YtmkjgiejnlmncaaQTableBytesx10
import Derived.Test.YtmkjgiejnlmncaaQTableBytesx12
import Derived.Test.YtmkjgiejnlmncaaQTableBytesx14
import Derived.Test.YtmkjgiejnlmncaaQTableBytesx16
import Derived.Test.YtmkjgiejnlmncaaQTableBytesx17
namespace Go.Proofs.Ytmkjgiejnlmncaa.QTableBytes
open Go.RowKit Go.Proofs.YtmkjgiejnlmncaaW.PrintWords Go.Proofs.YtmkjgiejnlmncaaW.PrintLast Go.Proofs.YtmkjgiejnlmncaaW.PrintMore
attribute [local go_sem] max2_int min2_int max_two min_two max_three min_three max_four min_four   -- for this text's walks alone
set_option linter.unusedVariables false
set_option linter.unusedSimpArgs false

/-! ### gl_TableBytes: function 5 -/
def gl_TableBytes.Any (k : Nat) : Prop := ∀ q : List Int, (∀ n ∈ q, (Lit.int .u8 n).wf = true) → q.length ≤ 500000 → ∃ (o : Option (List S43 × Int × Int)) (f : Int), table_Decode.f k q = some (o, f) ∧ (f = 0 → ∃ T', o = some T' ∧ (∀ x ∈ T'.1, table_Table_Encode.okR x) ∧ table_Table_Encode.f k T' = some q) ∧ (f ≠ 0 → o = none)
def gl_TableBytes.Row (k : Nat) (X : S43) (u v : List Int) : Prop := table_Table_Encode.okR X ∧ u.length ≤ 100000 ∧ ∃ c, ga_Coins.f k [X.f0.f0, X.f0.f1, X.f3.f0, X.f3.f1] = some c ∧ c.length ≤ 100 ∧ (X.f1 = false → v = u ++ (c ++ [0])) ∧ (X.f1 = true → ∃ d, ga_Coins.f k [X.f2.f1 + 1, X.f2.f2, X.f2.f3] = some d ∧ d.length ≤ 100 ∧ v = u ++ (c ++ d))
def gl_TableBytes.Pure : Prop := gl_awake.f = some true ∧ ∀ l0 : List S68, l0.length ≤ 40 → (∀ x ∈ l0, ((Lit.int .u8 x.f0).wf = true ∧ ((Lit.int .u8 x.f1).wf = true ∧ ((Lit.int .u8 x.f2).wf = true ∧ ((Lit.int .u8 x.f3).wf = true ∧ (Lit.int .u8 x.f4).wf = true))))) → ∃ (k : Nat) (all : List S38) (T : (List S43 × Int × Int)) (b : List Int) (no time : Int) (rows rr : List S43) (F : Nat → List Int), gb_History.f k l0 = some all ∧ gl_of.f all = some T ∧ (∀ x ∈ T.1, table_Table_Encode.okR x) ∧ table_Table_Encode.f k T = some b ∧ table_Table_Last.f T = some (no, time, T) ∧ gb_Rows.f k all = some rows ∧ rows.length ≤ 1000 ∧ ga_Coins.f k [no, time, (rows.length : Int)] = some (F 0) ∧ (∀ i : Nat, i < rows.length → gl_TableBytes.Row k (rd_T43 rows (i : Int)) (F i) (F (i + 1))) ∧ F rows.length = b ∧ table_Decode.f k b = some (some T, 0) ∧ table_Table_Rows.f T = some (rr, T) ∧ gb_SameRows.f k rr rows = some true ∧ 0 < b.length ∧ b.length ≤ 100000 ∧ (∀ n ∈ b, (Lit.int .u8 n).wf = true) ∧ gl_TableBytes.Any k
theorem gl_TableBytes.wk {w w0 W : World} {g : Nat} {T : (List S43 × Int × Int)} (hb : w.heap.size ≤ w0.heap.size) : IsS70 w0 W g T → IsS70 w W g T := fun ⟨v, e, hg, hr, hi⟩ => ⟨v, e, Nat.le_trans hb hg, Kd.R_lower hr hb, hi⟩
theorem gl_TableBytes.cvt {W : World} {A : Option Addr} {c : Nat} {xs : List Int} {X : ByteArray} (hX : strOfNums xs = X) (h : Kd.C (Kd.int .u8) W A xs.length xs) : Go.Sem.run Try.prog (convert 59 9 (.slice A xs.length c)) W = .ok (.string X) W := by
 rw [← hX]; exact Kd.C_string Try.underlying59 Try.underlying5 Try.underlying9 h
theorem gl_TableBytes.blk_grown {W W' : World} {g t : Nat} {cs : Array Value} {r : Option Nat} (h : W.heap[g]? = some (.cells cs t (0, 0))) (hg : W.grownBy W' r) (hn : some g ≠ r) : W'.heap[g]? = some (.cells cs t (0, 0)) := (hg.block g (blk_lt h) hn).trans h
set_option maxHeartbeats 8000000 in
set_option maxRecDepth 100000 in
theorem gl_TableBytes.walk (P : gl_TableBytes.Pure) (a0 : Option Addr) (cap0 : Nat) (l0 : List S68) (a1 : Option Addr) (len1 cap1 : Nat) (z1 : List Int) (a2 a3 : Int) (w : World) (hr0 : Kd.C k68 w a0 l0.length l0) (hc0 : l0.length ≤ cap0) (hm0 : l0.length ≤ maxLen) (hw0 : (∀ x ∈ l0, ((Lit.int .u8 x.f0).wf = true ∧ ((Lit.int .u8 x.f1).wf = true ∧ ((Lit.int .u8 x.f2).wf = true ∧ ((Lit.int .u8 x.f3).wf = true ∧ (Lit.int .u8 x.f4).wf = true)))))) (w1 : (a1 = none ∧ len1 = 0 ∧ cap1 = 0 ∧ z1 = []) ∨ ∃ x, a1 = some x ∧ len1 ≤ cap1 ∧ cap1 ≤ maxLen ∧ z1.length = cap1 ∧ (∀ i, i < z1.length → w.cell? (x.add i) = some (.int .u8 (z1.getD i 0))) ∧ ∀ n ∈ z1, (Lit.int .u8 n).wf = true) (y1 : len1 * 1 ≤ 140737488351232) (w2 : (Lit.int .u16 a2).wf = true) (w3 : (Lit.int .u8 a3).wf = true) :
 Calls Try.prog 5 #[.slice a0 l0.length cap0, .slice a1 len1 cap1, .int .u16 a2, .int .u8 a3] w fun e w' => e = .returned (.bool true) ∧ Below w.heap.size w w' := by
 have hu24 := Try.underlying24; have hu43 := Try.underlying43; have hu59 := Try.underlying59; have hu64 := Try.underlying64; obtain ⟨l1, rfl, hr1, hm1, hw1, hc1⟩ := ReadsInt.ofRowC w1; clear w1 z1; obtain ⟨pa, hP⟩ := P; have PAW := Ad pa; have HP := Ad hP; have HR0 := Ad hr0; have HW0 := Ad hw0; have HR1 := Ad (Kd.C_of_reads (d := (0 : Int)) (h1 := fun _ => rfl) hr1); have HC1 := Ad hc1; have HW1 := Ad hw1; have b2 := Go.bounds_u16 w2; have b3 := Go.bounds_u8 w3; have HW3 := Ad w3; clear pa hP hr0 hw0 hr1 hc1 hw1 w2 w3 hm0
 go_enter Try.func5, Try.ntmps5
 go_wp2_with (fail)
 refine (gl_awake.calls true _ PAW.out).mono ?_; rintro e w5 ⟨rfl, hb⟩; have HB := Ad hb; clear hb
 by_cases hlen : ¬ (l0.length ≤ 40 ∧ l1.length ≤ 100)
 · by_cases h40 : l0.length ≤ 40
   · have q1 : decide ((l0.length : Int) > 40) = false := decide_eq_false (by omega)
     have q2 : decide (40 < (l0.length : Int)) = false := decide_eq_false (by omega); have q3 : decide ((l1.length : Int) > 100) = true := decide_eq_true (by omega); have q4 : decide (100 < (l1.length : Int)) = true := decide_eq_true (by omega)
     go_wp2_with (fail)
     refine (gl_awake.calls true _ PAW.out).mono ?_; rintro e w6 ⟨rfl, hb⟩; have HB6 := Ad (below_step HB.out hb); clear hb
     go_wp2_with (fail)
     go_ret; exact ⟨rfl, HB6.out⟩
   · have q1 : decide ((l0.length : Int) > 40) = true := decide_eq_true (by omega)
     have q2 : decide (40 < (l0.length : Int)) = true := decide_eq_true (by omega)
     go_wp2_with (fail)
     refine (gl_awake.calls true _ PAW.out).mono ?_; rintro e w6 ⟨rfl, hb⟩; have HB6 := Ad (below_step HB.out hb); clear hb
     go_wp2_with (fail)
     go_ret; exact ⟨rfl, HB6.out⟩
 obtain ⟨h40, h100⟩ := Decidable.not_not.1 hlen; have q1 : decide ((l0.length : Int) > 40) = false := decide_eq_false (by omega); have q2 : decide (40 < (l0.length : Int)) = false := decide_eq_false (by omega); have q3 : decide ((l1.length : Int) > 100) = false := decide_eq_false (by omega); have q4 : decide (100 < (l1.length : Int)) = false := decide_eq_false (by omega); clear hlen; obtain ⟨k, all, T, b, no, time, rows, rr, F, p1, p2, p3, p4, p5, p6, hrl, p8, p9, p10, p11, p12, p13, hb0, hbl, p14, p15⟩ := HP.out l0 h40 HW0.out; have HHI := Ad p1; have HOF0 := Ad p2; have HOK := Ad p3; have HE := Ad p4; have HLA := Ad p5; have HRS := Ad p6; have HF0 := Ad p8; have HROW := Ad p9; have HFB := Ad p10; have HD := Ad p11; have HRO := Ad p12; have HSAME := Ad p13; have HWB := Ad p14; have HANY := Ad p15; clear p1 p2 p3 p4 p5 p6 p8 p9 p10 p11 p12 p13 p14 p15 HP HW0
 go_wp2_with (fail)
 refine (gb_History.calls k a0 cap0 l0 all _ (Kd.C_below HR0.out HB.out) hc0 HHI.out).mono ?_; rintro e w6 ⟨v6, rfl, ho, hb⟩; obtain ⟨A6, c6, e6, hl6, hC6⟩ := Kd.R_reads ho; subst e6; have HA := Ad hC6; replace HB := Ad (below_step HB.out hb); clear ho hb hC6 HR0 HHI q1 q2 q3 q4
 go_wp2_with (fail)
 refine (gl_of.calls A6 c6 all T w w6 HB.out HA.out hl6 HOF0.out).mono ?_; rintro e w7 ⟨gt, rfl, hi, hb0', hb⟩; have HIt := Ad hi; replace HA := Ad (Kd.C_below HA.out hb); replace HB := Ad (below_step HB.out hb); clear hi hb hb0' HOF0
 go_wp2_with (fail)
 refine (table_Table_Encode.calls k gt T b w w7 HIt.out HOK.out HE.out).mono ?_; rintro e w8 ⟨v8, rfl, ho, hb⟩; obtain ⟨A8, c8, e8, hl8, _⟩ := Kd.R_reads ho; subst e8; have HRb := Ad (Kd.R_lower ho HB.out.size); replace HA := Ad (Kd.C_below HA.out hb); replace HB := Ad (below_step HB.out hb); replace HIt := Ad (IsS70.below HIt.out hb); clear ho hb
 go_wp2_with (fail)
 refine (table_Table_Last.calls gt T no time T w w8 HIt.out HB.out HLA.out).mono ?_; rintro e w9 ⟨rfl, _, _, hb⟩; replace HA := Ad (Kd.C_below HA.out hb); replace HB := Ad (below_step HB.out hb); replace HRb := Ad (Kd.R_below HRb.out hb); clear hb HIt HLA
 go_wp2_with (fail)
 refine (gb_Rows.calls k A6 c6 all rows w9 HA.out hl6 HRS.out).mono ?_; rintro e wa ⟨v10, rfl, ho, hb⟩; obtain ⟨A10, c10, e10, hl10, hC10⟩ := Kd.R_reads ho; subst e10; have HCr := Ad hC10; replace HB := Ad (below_step HB.out hb); replace HRb := Ad (Kd.R_below HRb.out hb); clear ho hb hC10 HA HRS
 have wq1 : IntKind.u64.wrap (rows.length : Int) = (rows.length : Int) := by show (_ % 18446744073709551616 : Int) = _; omega
 have HBW := Ad (Below.refl wa.heap.size wa)
 go_wp2_with ((with_reducible refine gate_dst (N := 57) rfl ?_); refine Kd.R_lit (Kd.int .u64) _ 28 ?hg (N := 57) ?hd (xs := ([no, time, (rows.length : Int)] : List Int)) (inner := [.int .u64 no, .int .u64 time, .int .u64 (rows.length : Int)]) (ok := fun _ => True) (okp := fun _ => True) ?hr ?hp (fun _ hk => hk) trivial (Below.refl _ _) (Nat.le_refl _) (by simp) ?_; (case hd => rfl); (case hg => rfl); (case hr => first | (go_simp; done)); (case hp => exact (Reps.one (show Kd.M (Kd.int .u64) _ _ _ no [.int .u64 no] from rfl) (Reps.one (show Kd.M (Kd.int .u64) _ _ _ time [.int .u64 time] from rfl) (Reps.one (show Kd.M (Kd.int .u64) _ _ _ (rows.length : Int) [.int .u64 (rows.length : Int)] from rfl) (Reps.none _ _))))))
 intro v0 w0 ho hb _ _ _ _; obtain ⟨A0, c0, e_, hl0, hC0⟩ := Kd.R_reads ho; subst e_; have HC0 := Ad hC0; clear ho hC0; replace HBW := Ad (below_step HBW.out hb); clear hb
 go_wp2_with (fail)
 refine (ga_Coins.calls k A0 c0 ([no, time, (rows.length : Int)] : List Int) (F 0) _ HC0.out hl0 HF0.out).mono ?_; rintro e_ wc0 ⟨vc0, rfl, ho, hb⟩; have ho0 := ho; have HBW0 := HBW; replace HBW := Ad (below_step HBW.out hb); clear ho hb HC0 hl0; have HO := Ad (Kd.R_lower ho0 HBW0.out.size); clear ho0 HBW0 wq1
 go_wp2_with (fail)
 go_loopg [15, 16] rows.length (fun kx s15 s16 wr => ∃ (j : Nat) (v : Value), v = s15 ∧ s16 = .int .i64 j ∧ j ≤ rows.length ∧ rows.length - j ≤ kx ∧ Aside0 (Kd.R (Kd.int .u8) 5 wr wa.heap.size (fun _ => True) v (F j)) ∧ Aside0 (Below wa.heap.size wa wr))
 case atStart => exact ⟨0, _, rfl, rfl, Nat.zero_le _, Nat.le_refl _, HO, HBW⟩
 case round =>
  clear HO HBW; obtain ⟨j, v, rfl, rfl, hj, hgas, HO, HBW⟩ := hrel
  by_cases hlt : j < rows.length
  · have p1 : decide ((j : Int) < (rows.length : Int)) = true := decide_eq_true (by omega)
    have p2 : decide (0 ≤ (j : Int)) = true := decide_eq_true (by omega); obtain ⟨ad, e0, hx0, hx1, hx2, hx3, hx4, hx5, hx6, hx7, hx8, hx9⟩ := at_T43 (Kd.C_below HCr.out HBW.out) (j : Int) (by omega) (by omega); cases e0
    simp only [Int.toNat_natCast] at hx0 hx1 hx2 hx3 hx4 hx5 hx6 hx7 hx8 hx9
    have hrow := HROW.out j hlt
    obtain ⟨X, hX⟩ : ∃ X : S43, X = rd_T43 rows (j : Int) := ⟨_, rfl⟩
    rw [← hX] at hx0 hx1 hx2 hx3 hx4 hx5 hx6 hx7 hx8 hx9 hrow; clear hX; obtain ⟨⟨o1, o2, o3, o4, o5, o6, o7⟩, hul, c, hco, hcl, hF0, hF1⟩ := hrow; have HCO := Ad hco; have HF0' := Ad hF0; have HF1' := Ad hF1; clear hco hF0 hF1
    go_upto_region 15 with (fail)
    obtain ⟨g5, hg5⟩ : ∃ x : Nat, x = wr.heap.size := ⟨_, rfl⟩
    obtain ⟨V, hV⟩ : ∃ x : World, x = wr.alloc (.cells #[.int .u32 X.f0.f0, .int .u8 X.f0.f1, .bool X.f1, .int .u32 X.f2.f0.f0, .int .u8 X.f2.f0.f1, .int .i64 X.f2.f1, .int .u16 X.f2.f2, .int .u16 X.f2.f3, .int .u16 X.f3.f0, .int .u16 X.f3.f1] 43 (0, 0)) := ⟨_, rfl⟩
    rw [← hV, ← hg5]; have BK5 := Ad (show V.heap[g5]? = some (.cells #[.int .u32 X.f0.f0, .int .u8 X.f0.f1, .bool X.f1, .int .u32 X.f2.f0.f0, .int .u8 X.f2.f0.f1, .int .i64 X.f2.f1, .int .u16 X.f2.f2, .int .u16 X.f2.f3, .int .u16 X.f3.f0, .int .u16 X.f3.f1] 43 (0, 0)) from by rw [hV, hg5]; exact heap_alloc_new _ _)
    have hb : Below wr.heap.size wr V := by rw [hV]; exact below_alloc (Below.refl _ _) _
    replace HO := Ad (Kd.R_below HO.out hb); replace HBW := Ad (below_step HBW.out hb); clear hV hg5 hb hx0 hx1 hx2 hx3 hx4 hx5 hx6 hx7 hx8 hx9
    have wq1 : IntKind.u64.wrap X.f0.f0 = X.f0.f0 := by show (_ % 18446744073709551616 : Int) = _; omega
    have wq2 : IntKind.u64.wrap X.f0.f1 = X.f0.f1 := by show (_ % 18446744073709551616 : Int) = _; omega
    have wq3 : IntKind.u64.wrap X.f3.f0 = X.f3.f0 := by show (_ % 18446744073709551616 : Int) = _; omega
    have wq4 : IntKind.u64.wrap X.f3.f1 = X.f3.f1 := by show (_ % 18446744073709551616 : Int) = _; omega
    have t0 : V.cell? ⟨g5, 0, none⟩ = some (.int .u32 X.f0.f0) := (blk_cell BK5.out 0).trans rfl; have t1 : V.cell? ⟨g5, 1, none⟩ = some (.int .u8 X.f0.f1) := (blk_cell BK5.out 1).trans rfl; have t8 : V.cell? ⟨g5, 8, none⟩ = some (.int .u16 X.f3.f0) := (blk_cell BK5.out 8).trans rfl; have t9 : V.cell? ⟨g5, 9, none⟩ = some (.int .u16 X.f3.f1) := (blk_cell BK5.out 9).trans rfl
    go_wp2_with ((with_reducible refine gate_dst (N := 86) rfl ?_); refine Kd.R_lit (Kd.int .u64) _ 28 ?hg (N := 86) ?hd (xs := ([X.f0.f0, X.f0.f1, X.f3.f0, X.f3.f1] : List Int)) (inner := [.int .u64 X.f0.f0, .int .u64 X.f0.f1, .int .u64 X.f3.f0, .int .u64 X.f3.f1]) (ok := fun _ => True) (okp := fun _ => True) ?hr ?hp (fun _ hk => hk) trivial (Below.refl _ _) (Nat.le_refl _) (by simp) ?_; (case hd => rfl); (case hg => rfl); (case hr => first | (go_simp; done)); (case hp => exact (Reps.one (show Kd.M (Kd.int .u64) _ _ _ X.f0.f0 [.int .u64 X.f0.f0] from rfl) (Reps.one (show Kd.M (Kd.int .u64) _ _ _ X.f0.f1 [.int .u64 X.f0.f1] from rfl) (Reps.one (show Kd.M (Kd.int .u64) _ _ _ X.f3.f0 [.int .u64 X.f3.f0] from rfl) (Reps.one (show Kd.M (Kd.int .u64) _ _ _ X.f3.f1 [.int .u64 X.f3.f1] from rfl) (Reps.none _ _)))))))
    intro v1 w1 ho hb _ _ _ _; obtain ⟨A1, c1, e_, hl1, hC1⟩ := Kd.R_reads ho; subst e_; have HC1 := Ad hC1; clear ho hC1; replace HO := Ad (Kd.R_below HO.out hb); replace HBW := Ad (below_step HBW.out hb); replace BK5 := Ad (blk_below BK5.out hb); clear hb
    go_wp2_with (fail)
    refine (ga_Coins.calls k A1 c1 ([X.f0.f0, X.f0.f1, X.f3.f0, X.f3.f1] : List Int) c _ HC1.out hl1 HCO.out).mono ?_; rintro e_ wc1 ⟨vc1, rfl, ho, hb⟩; obtain ⟨Ac1, cc1, e_, hlc1, hCc1⟩ := Kd.R_reads ho; subst e_; have HCc1 := Ad hCc1; replace HO := Ad (Kd.R_below HO.out hb); replace HBW := Ad (below_step HBW.out hb); replace BK5 := Ad (blk_below BK5.out hb); clear ho hb hCc1 HC1 hl1; clear wq1 wq2 wq3 wq4 t0 t1 t8 t9
    go_wp2_with ((with_reducible refine gate_builtin (b := .append) (xs := #[.tmp 69, .tmp 87]) rfl ?_); at_builtin; refine Kd.R_append_rows (Kd.int .u8) (w0 := wa) wa.heap.size rfl (.tmp 69) (.tmp 87) 59 5 (.int .u8 0) 1 rfl Try.underlying59 info5 rfl (by decide) (by omega) v (F j) c Ac1 c.length cc1 (fun _ => True) (fun _ => False) rfl rfl HO.out HCc1.out (fun _ _ h => h) (fun _ h => h.elim) (fun _ _ => trivial) HBW.out (below_size HBW.out) (by omega) ?_)
    intro va1 wa1 ho hb hg _; have BK5' := Ad (gl_TableBytes.blk_grown BK5.out hg (Kd.R_ne HO.out BK5.out (by decide))); clear BK5; have BK5 := BK5'; clear BK5'; clear HO HBW; have HO := Ad ho; have HBW := Ad hb; clear ho hb hg HCc1 hlc1
    by_cases hh : X.f1 = true
    · obtain ⟨d, hd, hdl, hv⟩ := HF1'.out hh
      have HDC := Ad hd; have HV := Ad hv; clear hd hv HF0' HF1'; have z2 : wa1.cell? ⟨g5, 2, none⟩ = some (.bool X.f1) := (blk_cell BK5.out 2).trans rfl; rw [hh] at z2; have z5 : wa1.cell? ⟨g5, 5, none⟩ = some (.int .i64 X.f2.f1) := (blk_cell BK5.out 5).trans rfl; have z6 : wa1.cell? ⟨g5, 6, none⟩ = some (.int .u16 X.f2.f2) := (blk_cell BK5.out 6).trans rfl; have z7 : wa1.cell? ⟨g5, 7, none⟩ = some (.int .u16 X.f2.f3) := (blk_cell BK5.out 7).trans rfl
      have wq0 : IntKind.u64.wrap X.f2.f1 = X.f2.f1 := by show (_ % 18446744073709551616 : Int) = _; omega
      have wq1 : IntKind.u64.wrap (X.f2.f1 + 1) = X.f2.f1 + 1 := by show (_ % 18446744073709551616 : Int) = _; omega
      have wq2 : IntKind.u64.wrap X.f2.f2 = X.f2.f2 := by show (_ % 18446744073709551616 : Int) = _; omega
      have wq3 : IntKind.u64.wrap X.f2.f3 = X.f2.f3 := by show (_ % 18446744073709551616 : Int) = _; omega
      clear hh
      go_wp2_with ((with_reducible refine gate_dst (N := 109) rfl ?_); refine Kd.R_lit (Kd.int .u64) _ 28 ?hg (N := 109) ?hd (xs := ([(X.f2.f1 + 1), X.f2.f2, X.f2.f3] : List Int)) (inner := [.int .u64 (X.f2.f1 + 1), .int .u64 X.f2.f2, .int .u64 X.f2.f3]) (ok := fun _ => True) (okp := fun _ => True) ?hr ?hp (fun _ hk => hk) trivial (Below.refl _ _) (Nat.le_refl _) (by simp) ?_; (case hd => rfl); (case hg => rfl); (case hr => first | (go_simp; done)); (case hp => exact (Reps.one (show Kd.M (Kd.int .u64) _ _ _ (X.f2.f1 + 1) [.int .u64 (X.f2.f1 + 1)] from rfl) (Reps.one (show Kd.M (Kd.int .u64) _ _ _ X.f2.f2 [.int .u64 X.f2.f2] from rfl) (Reps.one (show Kd.M (Kd.int .u64) _ _ _ X.f2.f3 [.int .u64 X.f2.f3] from rfl) (Reps.none _ _))))))
      intro v2 w2 ho hb _ _ _ _; obtain ⟨A2, c2, e_, hl2, hC2⟩ := Kd.R_reads ho; subst e_; have HC2 := Ad hC2; clear ho hC2; replace HO := Ad (Kd.R_below HO.out hb); replace HBW := Ad (below_step HBW.out hb); replace BK5 := Ad (blk_below BK5.out hb); clear hb
      go_wp2_with (fail)
      refine (ga_Coins.calls k A2 c2 ([(X.f2.f1 + 1), X.f2.f2, X.f2.f3] : List Int) d _ HC2.out hl2 HDC.out).mono ?_; rintro e_ wc2 ⟨vc2, rfl, ho, hb⟩; obtain ⟨Ac2, cc2, e_, hlc2, hCc2⟩ := Kd.R_reads ho; subst e_; have HCc2 := Ad hCc2; replace HO := Ad (Kd.R_below HO.out hb); replace HBW := Ad (below_step HBW.out hb); replace BK5 := Ad (blk_below BK5.out hb); clear ho hb hCc2 HC2 hl2; clear z2 z5 z6 z7 wq0 wq1 wq2 wq3; have hul2 : (F j ++ c).length = (F j).length + c.length := List.length_append
      go_wp2_with ((with_reducible refine gate_builtin (b := .append) (xs := #[.tmp 95, .tmp 110]) rfl ?_); at_builtin; refine Kd.R_append_rows (Kd.int .u8) (w0 := wa) wa.heap.size rfl (.tmp 95) (.tmp 110) 59 5 (.int .u8 0) 1 rfl Try.underlying59 info5 rfl (by decide) (by omega) va1 (F j ++ c) d Ac2 d.length cc2 (fun _ => True) (fun _ => False) rfl rfl HO.out HCc2.out (fun _ _ h => h) (fun _ h => h.elim) (fun _ _ => trivial) HBW.out (below_size HBW.out) (by omega) ?_)
      intro va2 wa2 ho hb hg _; clear HO HBW; have HO := Ad ho; have HBW := Ad hb; clear ho hb hg HCc2 hlc2; rw [← HV.out] at HO
      go_wp2_with (fail)
      go_roundg (rows.length - (j + 1))
      case measure => omega
      case rel => exact ⟨j + 1, _, rfl, by go_num, by omega, Nat.le_refl _, HO, HBW⟩
    · have hh2 : X.f1 = false := by simpa using hh
      have HV := Ad (HF0'.out hh2); have z2 : wa1.cell? ⟨g5, 2, none⟩ = some (.bool X.f1) := (blk_cell BK5.out 2).trans rfl; rw [hh2] at z2; clear hh hh2 HF0' HF1'; have hul2 : (F j ++ c).length = (F j).length + c.length := List.length_append; have hul3 : ([0] : List Int).length = 1 := rfl
      go_wp2_with ((with_reducible refine gate_dst (N := 93) rfl ?_); refine Kd.R_lit (Kd.int .u8) _ 5 ?hg (N := 93) ?hd (xs := ([0] : List Int)) (inner := [.int .u8 0]) (ok := fun _ => True) (okp := fun _ => True) ?hr ?hp (fun _ hk => hk) trivial (Below.refl _ _) (Nat.le_refl _) (by simp) ?_; (case hd => rfl); (case hg => rfl); (case hr => first | (go_simp; done)); (case hp => exact (Reps.one (show Kd.M (Kd.int .u8) _ _ _ 0 [.int .u8 0] from rfl) (Reps.none _ _))))
      intro v3 w3' ho hb _ _ _ _; obtain ⟨Ac3, cc3, e_, hlc3, hC3⟩ := Kd.R_reads ho; subst e_; have HCc3 := Ad hC3; clear ho hC3; replace HO := Ad (Kd.R_below HO.out hb); replace HBW := Ad (below_step HBW.out hb); replace BK5 := Ad (blk_below BK5.out hb); clear hb z2
      go_wp2_with ((with_reducible refine gate_builtin (b := .append) (xs := #[.tmp 92, .tmp 93]) rfl ?_); at_builtin; refine Kd.R_append_rows (Kd.int .u8) (w0 := wa) wa.heap.size rfl (.tmp 92) (.tmp 93) 59 5 (.int .u8 0) 1 rfl Try.underlying59 info5 rfl (by decide) (by omega) va1 (F j ++ c) [0] Ac3 [0].length cc3 (fun _ => True) (fun _ => False) rfl rfl HO.out HCc3.out (fun _ _ h => h) (fun _ h => h.elim) (fun _ _ => trivial) HBW.out (below_size HBW.out) (by omega) ?_)
      intro va3 wa3 ho hb hg _; clear HO HBW; have HO := Ad ho; have HBW := Ad hb; clear ho hb hg HCc3 hlc3; rw [← HV.out] at HO
      go_wp2_with (fail)
      go_roundg (rows.length - (j + 1))
      case measure => omega
      case rel => exact ⟨j + 1, _, rfl, by go_num, by omega, Nat.le_refl _, HO, HBW⟩
  · have p1 : decide ((j : Int) < (rows.length : Int)) = false := decide_eq_false (by omega)
    obtain rfl : j = rows.length := by omega
    clear hlt hgas HROW; rw [HFB.out] at HO; obtain ⟨Aw, cw, ew, hlw, hCw⟩ := Kd.R_reads HO.out; subst ew; have HCw := Ad hCw; have hb := HBW.out; replace HRb := Ad (Kd.R_below HRb.out hb); replace HCr := Ad (Kd.C_below HCr.out hb); replace HB := Ad (below_step HB.out hb); clear hb HBW HO hCw HFB
    go_wp2_with (fail)
    refine (table_Decode.calls k A8 c8 b (some T) 0 _ (Kd.R_reads' HRb.out).2.2 hl8 HD.out).mono ?_; rintro e wu ⟨⟨gu, rfl, hi⟩, hb⟩; have HIu := Ad (gl_TableBytes.wk HB.out.size hi); replace HRb := Ad (Kd.R_below HRb.out hb); replace HCr := Ad (Kd.C_below HCr.out hb); replace HCw := Ad (Kd.C_below HCw.out hb); replace HB := Ad (below_step HB.out hb); clear hi hb HD
    go_upto_region 20 with (fail)
    go_cut [140] (fun s140 wx => s140 = .bool false ∧ Aside0 (Kd.R (Kd.int .u8) 5 wx w.heap.size (fun _ => True) (.slice A8 b.length c8) b) ∧ Aside0 (Below w.heap.size w wx))
    case first =>
     replace HIu := Ad (IsS70.drew HIu.out); replace HRb := Ad (Kd.R_drew HRb.out); replace HCw := Ad (Kd.C_drew HCw.out); replace HCr := Ad (Kd.C_drew HCr.out); replace HB := Ad (below_drew1 HB.out)
     obtain ⟨X, hX⟩ : ∃ X : ByteArray, strOfNums b = X := ⟨_, rfl⟩
     have HX := Ad hX; clear hX; refine start_ (n := 24) (S := fun w' => Go.Sem.run Try.prog (convert 59 9 (.slice A8 b.length c8)) w' = .ok (.string X) w' ∧ Go.Sem.run Try.prog (convert 59 9 (.slice Aw b.length cw)) w' = .ok (.string X) w') (ds := []) (tf 24 0) (by kernel_rfl) rfl rfl ⟨gl_TableBytes.cvt HX.out (Kd.R_reads' HRb.out).2.2, gl_TableBytes.cvt HX.out HCw.out⟩ (fun hHeld => ?_); generalize wu.drew = wd at HIu HRb HCw HCr HB hHeld ⊢; refine pu 0 117 ?_ (tf 24 1) rfl rfl (by kernel_rfl) (fun _ _ _ h => h) (by rfl) ?_ ?_ ?_ ?_; rotate_left; · intro w'; go_simp; with_reducible rfl
     rotate_left; · simp only [Act.put, lz]; rfl
     refine pu 2 119 ?_ #[I,O,I,O,O,O,O,O,O,O,O,O,O,O,O,O,O,O,O,O,O,O,O,O] rfl rfl (by kernel_rfl) (fun _ _ _ h => h) (by rfl) ?_ ?_ ?_ ?_; rotate_left; · intro w'; go_simp; with_reducible rfl
     rotate_left; · simp only [Act.put, lz]; rfl
     refine tu 1 118 ?_ (tf 24 3) rfl rfl (by kernel_rfl) (fun _ _ _ h => h) (by rfl) ?_ hHeld ?_ ?_ ?_; rotate_left; · rintro w' ⟨s0, s1⟩; go_simp; with_reducible rfl
     rotate_left; · simp only [Act.put, lz]; rfl
     refine tu 3 120 ?_ (tf 24 4) rfl rfl (by kernel_rfl) (fun _ _ _ h => h) (by rfl) ?_ hHeld ?_ ?_ ?_; rotate_left; · rintro w' ⟨s0, s1⟩; go_simp; with_reducible rfl
     rotate_left; · simp only [Act.put, lz]; rfl
     refine pu 4 121 ?_ (tf 24 5) rfl rfl (by kernel_rfl) (fun _ _ _ h => h) (by rfl) ?_ ?_ ?_ ?_; rotate_left; · intro w'; go_simp; with_reducible rfl
     rotate_left; · simp only [Act.put, lz]; rfl
     refine pu 5 122 ?_ (tf 24 6) rfl rfl (by kernel_rfl) (fun _ _ _ h => h) (by rfl) ?_ ?_ ?_ ?_; rotate_left; · intro w'; go_simp; with_reducible rfl
     rotate_left; · simp only [Act.put, lz]; rfl
     refine pu 6 123 ?_ (tf 24 7) rfl rfl (by kernel_rfl) (fun _ _ _ h => h) (by rfl) ?_ ?_ ?_ ?_; rotate_left; · intro w'; go_simp; with_reducible rfl
     rotate_left; · simp only [Act.put, lz]; rfl
     refine pu 7 124 ?_ (tf 24 8) rfl rfl (by kernel_rfl) (fun _ _ _ h => h) (by rfl) ?_ ?_ ?_ ?_; rotate_left; · intro w'; go_simp; with_reducible rfl
     rotate_left; · simp only [Act.put, lz]; rfl
     refine pu 8 125 ?_ (tf 24 9) rfl rfl (by kernel_rfl) (fun _ _ _ h => h) (by rfl) ?_ ?_ ?_ ?_; rotate_left; · intro w'; go_simp; with_reducible rfl
     rotate_left; · simp only [Act.put, lz]; rfl
     refine pu 9 126 ?_ (tf 24 10) rfl rfl (by kernel_rfl) (fun _ _ _ h => h) (by rfl) ?_ ?_ ?_ ?_; rotate_left; · intro w'; go_simp; with_reducible rfl
     rotate_left; · simp only [Act.put, lz]; rfl
     refine pu 10 127 ?_ (tf 24 11) rfl rfl (by kernel_rfl) (fun _ _ _ h => h) (by rfl) ?_ ?_ ?_ ?_; rotate_left; · intro w'; go_simp; with_reducible rfl
     rotate_left; · simp only [Act.put, lz]; rfl
     refine pu 13 130 ?_ #[I,I,I,I,I,I,I,I,I,I,I,O,O,I,O,O,O,O,O,O,O,O,O,O] rfl rfl (by kernel_rfl) (fun _ _ _ h => h) (by rfl) ?_ ?_ ?_ ?_; rotate_left; · intro w'; go_simp; with_reducible rfl
     rotate_left; · simp only [Act.put, lz]; rfl
     refine tu 14 131 ?_ #[I,I,I,I,I,I,I,I,I,I,I,O,O,I,I,O,O,O,O,O,O,O,O,O] rfl rfl (by kernel_rfl) (fun _ _ _ h => h) (by rfl) ?_ hHeld ?_ ?_ ?_; rotate_left; · rintro w' ⟨s0, s1⟩; go_simp; with_reducible rfl
     rotate_left; · simp only [Act.put, lz]; rfl
     refine one_ (i := 11) (N := some 128) #[I,I,I,I,I,I,I,I,I,I,I,I,O,I,I,O,O,O,O,O,O,O,O,O] rfl rfl (by kernel_rfl) (by decide) (fun K hK => ?_); refine goes_ Try.func20 (by kernel_rfl) rfl #[.pointer (some ⟨gu, 0, none⟩)] (by rfl) rfl rfl (by simp only [List.map_toArray, List.map_cons, List.map_nil]; rfl) ?_
     with_reducible refine (table_Table_Encode.calls k gu T b w _ HIu.out HOK.out HE.out).mono ?_
     rintro e_ we ⟨v_, rfl, ho, hb⟩; obtain ⟨Ae, ce, ev, hle, hC_⟩ := Kd.R_reads ho; subst ev; refine ⟨_, rfl, ?_⟩; replace HIu := Ad (IsS70.below HIu.out hb); replace HRb := Ad (Kd.R_below HRb.out hb); replace HCw := Ad (Kd.C_below HCw.out hb); replace HCr := Ad (Kd.C_below HCr.out hb); replace HB := Ad (below_step HB.out hb); have HCe := Ad hC_; clear ho hb hC_; refine hK.out _ _ ⟨gl_TableBytes.cvt HX.out (Kd.R_reads' HRb.out).2.2, gl_TableBytes.cvt HX.out HCw.out⟩ (fun hHeld => ?_); clear hK K; refine norm_ (a' := ?_) ?_ ?_; rotate_left
     · show Act.put _ (some 128) _ = _; simp only [Act.put, lz]; rfl
     refine one_ (i := 12) (N := some 129) (tf 24 15) rfl rfl (by kernel_rfl) (by decide) (fun K hK => ?_); have hcv := Kd.C_string (P := Try.prog) (src := 59) (dst := 9) (A := Ae) (c := ce) Try.underlying59 Try.underlying5 Try.underlying9 HCe.out; rw [HX.out] at hcv; refine value_ (w1 := ?_) (v := ?_) (by rfl) rfl ?_ ?_; rotate_left 2
     · go_simp
       constructor
       · rfl
       · rfl
     clear hcv; refine hK.out _ _ ⟨gl_TableBytes.cvt HX.out (Kd.R_reads' HRb.out).2.2, gl_TableBytes.cvt HX.out HCw.out⟩ (fun hHeld => ?_); clear hK K; refine norm_ (a' := ?_) ?_ ?_; rotate_left
     · show Act.put _ (some 129) _ = _; simp only [Act.put, lz]; rfl
     refine pu 15 132 ?_ (tf 24 16) rfl rfl (by kernel_rfl) (fun _ _ _ h => h) (by rfl) ?_ ?_ ?_ ?_; rotate_left; · intro w'; go_simp; with_reducible rfl
     rotate_left; · simp only [Act.put, lz]; rfl
     refine pu 16 133 ?_ (tf 24 17) rfl rfl (by kernel_rfl) (fun _ _ _ h => h) (by rfl) ?_ ?_ ?_ ?_; rotate_left; · intro w'; go_simp; with_reducible rfl
     rotate_left; · simp only [Act.put, lz]; rfl
     refine pu 17 134 ?_ (tf 24 18) rfl rfl (by kernel_rfl) (fun _ _ _ h => h) (by rfl) ?_ ?_ ?_ ?_; rotate_left; · intro w'; go_simp; with_reducible rfl
     rotate_left; · simp only [Act.put, lz]; rfl
     refine pu 18 135 ?_ (tf 24 19) rfl rfl (by kernel_rfl) (fun _ _ _ h => h) (by rfl) ?_ ?_ ?_ ?_; rotate_left; · intro w'; go_simp; with_reducible rfl
     rotate_left; · simp only [Act.put, lz]; rfl
     refine pu 20 137 ?_ #[I,I,I,I,I,I,I,I,I,I,I,I,I,I,I,I,I,I,I,O,I,O,O,O] rfl rfl (by kernel_rfl) (fun _ _ _ h => h) (by rfl) ?_ ?_ ?_ ?_; rotate_left; · intro w'; go_simp; with_reducible rfl
     rotate_left; · simp only [Act.put, lz]; rfl
     refine one_ (i := 19) (N := some 136) (tf 24 21) rfl rfl (by kernel_rfl) (by decide) (fun K hK => ?_); refine goes_ Try.func14 (by kernel_rfl) rfl #[.pointer (some ⟨gu, 0, none⟩)] (by rfl) rfl rfl (by simp only [List.map_toArray, List.map_cons, List.map_nil]; rfl) ?_
     with_reducible refine (table_Table_Rows.calls gu T rr T w _ HIu.out HB.out HRO.out).mono ?_
     rintro e_ wr ⟨v_, rfl, ho, _, _, hb⟩; obtain ⟨Ar, cr, ev, hlr, hC_⟩ := Kd.R_reads ho; subst ev; refine ⟨_, rfl, ?_⟩; replace HIu := Ad (IsS70.below HIu.out hb); replace HRb := Ad (Kd.R_below HRb.out hb); replace HCw := Ad (Kd.C_below HCw.out hb); replace HCr := Ad (Kd.C_below HCr.out hb); replace HB := Ad (below_step HB.out hb); have HCrr := Ad hC_; clear ho hb hC_; refine hK.out _ _ ⟨gl_TableBytes.cvt HX.out (Kd.R_reads' HRb.out).2.2, gl_TableBytes.cvt HX.out HCw.out⟩ (fun hHeld => ?_); clear hK K; refine norm_ (a' := ?_) ?_ ?_; rotate_left
     · show Act.put _ (some 136) _ = _; simp only [Act.put, lz]; rfl
     refine one_ (i := 21) (N := some 138) (tf 24 22) rfl rfl (by kernel_rfl) (by decide) (fun K hK => ?_); refine goes_ Try.func13 (by kernel_rfl) rfl #[.slice Ar rr.length cr, .slice A10 rows.length c10] (by rfl) rfl rfl (by simp only [List.map_toArray, List.map_cons, List.map_nil]; rfl) ?_
     with_reducible refine (gb_SameRows.calls k Ar cr rr A10 c10 rows true _ HCrr.out hlr HCr.out hl10 HSAME.out).mono ?_
     rintro e_ ws ⟨rfl, hb0⟩; refine ⟨_, rfl, ?_⟩; have hb := hb0.below; replace HIu := Ad (IsS70.below HIu.out hb); replace HRb := Ad (Kd.R_below HRb.out hb); replace HCw := Ad (Kd.C_below HCw.out hb); replace HCr := Ad (Kd.C_below HCr.out hb); replace HB := Ad (below_step HB.out hb); clear hb hb0; refine hK.out _ _ ⟨gl_TableBytes.cvt HX.out (Kd.R_reads' HRb.out).2.2, gl_TableBytes.cvt HX.out HCw.out⟩ (fun hHeld => ?_); clear hK K; refine norm_ (a' := ?_) ?_ ?_; rotate_left
     · show Act.put _ (some 138) _ = _; simp only [Act.put, lz]; rfl
     refine pu 22 139 ?_ (tf 24 23) rfl rfl (by kernel_rfl) (fun _ _ _ h => h) (by rfl) ?_ ?_ ?_ ?_; rotate_left; · intro w'; go_simp; with_reducible rfl
     rotate_left; · simp only [Act.put, lz]; rfl
     refine pu 23 140 ?_ (tf 24 24) rfl rfl (by kernel_rfl) (fun _ _ _ h => h) (by rfl) ?_ ?_ ?_ ?_; rotate_left; · intro w'; go_simp; with_reducible rfl
     rotate_left; · simp only [Act.put, lz]; rfl
     refine done_ (by kernel_rfl) ?_
     go_wp2_with (fail)
     go_meet; exact ⟨rfl, HRb, HB⟩
    case rest =>
     clear HIu HRb HCw HCr HB HE HOK HRO HSAME; obtain ⟨rfl, HRb, HB⟩ := hcut; obtain ⟨gb, cb', eb, hgb, _, _⟩ := Kd.R_form HRb.out hb0
     injection eb with eb1 eb2 eb3
     subst eb1; clear eb2 eb3; obtain ⟨n2, rfl⟩ := Int.eq_ofNat_of_zero_le b2.1
     obtain ⟨m, hm⟩ : ∃ m : Nat, m = n2 % b.length := ⟨_, rfl⟩
     have hml : m < b.length := by rw [hm]; exact Nat.mod_lt _ hb0
     have r1 : (n2 : Int) % (b.length : Int) = (m : Int) := by rw [hm]; push_cast; rfl
     have r2 : Int.tmod (n2 : Int) (b.length : Int) = (m : Int) := by rw [Int.tmod_eq_emod_of_nonneg (Int.natCast_nonneg _)]; exact r1
     have z0 : ((b.length : Int) == 0) = false := beq_eq_false_iff_ne.mpr (by omega); have i1 : decide ((m : Int) < (b.length : Int)) = true := decide_eq_true (by omega); have i2 : decide (0 ≤ (m : Int)) = true := decide_eq_true (by omega)
     have z1 : ¬ (b = []) := fun e => by rw [e] at hb0; exact absurd hb0 (Nat.lt_irrefl 0)
     obtain ⟨x0, x1⟩ := Kd.R_cell (0 : Int) HRb.out (m : Int) (by omega) (by omega); rw [Int.toNat_natCast] at x0 x1; clear hm hb0
     go_upto_region 23 with (fail)
     obtain ⟨Y, hY⟩ : ∃ Y : Int, Y = bits BinOp.xor IntKind.u8 (rdOf 0 b (m : Int)) a3 := ⟨_, rfl⟩
     have hYw : (Lit.int .u8 Y).wf = true := by rw [hY]; exact wf_bits _ _ _ _
     obtain ⟨wl, hwl⟩ : ∃ x : World, x = wc.setCell ⟨gb, m, none⟩ (.int .u8 Y) := ⟨_, rfl⟩
     have hput := Kd.R_putn HRb.out (m : Int) Y; rw [Int.toNat_natCast, ← hwl] at hput; rw [← hY, ← hwl]
     obtain ⟨d, hd⟩ : ∃ x : List Int, x = b.set m Y := ⟨_, rfl⟩
     rw [← hd] at hput
     have hdl : b.length = d.length := by rw [hd, List.length_set]
     have HWd := Ad (show ∀ n ∈ d, (Lit.int .u8 n).wf = true from fun n hn => by
      rw [hd] at hn
      rcases List.mem_or_eq_of_mem_set hn with hn | rfl
      · exact HWB.out n hn
      · exact hYw)
     rw [hdl] at hput hbl hl8 ⊢; have HCd := Ad (Kd.R_reads' hput).2.2
     have hbl2 : Below w.heap.size w wl := by rw [hwl]; exact below_set HB.out hgb
     have HC1w := Ad (Kd.C_below HR1.out hbl2); clear HB; have HB := Ad hbl2; clear hbl2 hput HRb HWB hY hYw hwl hd hdl x0 x1 z0 z1 r1 r2 i1 i2 hml HR1
     go_wp2_with (fail)
     have hblk : (wl.alloc (.cells #[.slice a1 l1.length cap1, .slice (some ⟨gb, 0, none⟩) d.length c8] 59 (0, 0))).heap[wl.heap.size]? = some (.cells #[.slice a1 l1.length cap1, .slice (some ⟨gb, 0, none⟩) d.length c8] 59 (0, 0)) := by simpa using heap_alloc_new wl _
     have HBK := Ad hblk; clear hblk
     go_loopw [156] (fun v156 wr => ∃ i : Nat, i ≤ 2 ∧ v156 = .int .i64 i ∧ Aside0 (wr.heap[wl.heap.size]? = some (.cells #[.slice a1 l1.length cap1, .slice (some ⟨gb, 0, none⟩) d.length c8] 59 (0, 0))) ∧ Aside0 (Below wl.heap.size wl wr)) (fun v156 _ => 2 - (intOf v156).toNat)
     case atStart => exact ⟨0, by omega, rfl, HBK, ⟨below_alloc (Below.refl _ _) _⟩⟩
     case round =>
      clear HBK; obtain ⟨i, hi, rfl, HBK, HBl⟩ := hrel; have hcell0 : wr.cell? ⟨wl.heap.size, 0, none⟩ = some (.slice a1 l1.length cap1) := blk_cell HBK.out 0; have hcell1 : wr.cell? ⟨wl.heap.size, 1, none⟩ = some (.slice (some ⟨gb, 0, none⟩) d.length c8) := blk_cell HBK.out 1
      obtain rfl | rfl | rfl : i = 0 ∨ i = 1 ∨ i = 2 := by omega
      · have HCq := Ad (Kd.C_below HC1w.out HBl.out)
        obtain ⟨o, f, hd, hz, hn⟩ := HANY.out l1 HW1.out (by omega); have HDq := Ad hd; clear hd HANY
        by_cases hf : f = 0
        · subst hf
          obtain ⟨T', rfl, hok, he⟩ := hz rfl; have HOKx := Ad hok; have HEx := Ad he; clear hz hn hok he
          go_wp2_with (fail)
          refine (table_Decode.calls k a1 cap1 l1 (some T') 0 _ HCq.out HC1.out HDq.out).mono ?_; rintro e_ wx2 ⟨⟨gx, rfl, hi⟩, hb⟩; have HIx := Ad (gl_TableBytes.wk (Nat.le_trans HB.out.size HBl.out.size) hi); replace HCq := Ad (Kd.C_below HCq.out hb); replace HBK := Ad (blk_below HBK.out hb); replace HBl := Ad (below_step HBl.out hb); clear hi hb HDq
          go_upto_region 27 with (fail)
          replace HIx := Ad (IsS70.drew HIx.out); replace HCq := Ad (Kd.C_drew HCq.out); replace HBK := Ad (blk_drew HBK.out); replace HBl := Ad (below_drew1 HBl.out)
          obtain ⟨Xq, hXq⟩ : ∃ Xq : ByteArray, strOfNums l1 = Xq := ⟨_, rfl⟩
          have HXq := Ad hXq; clear hXq; refine start_ (n := 18) (S := fun w' => Go.Sem.run Try.prog (convert 59 9 (.slice a1 l1.length cap1)) w' = .ok (.string Xq) w') (ds := []) (tf 18 0) (by kernel_rfl) rfl rfl (gl_TableBytes.cvt HXq.out HCq.out) (fun hHeld => ?_); generalize wx2.drew = wd at HIx HCq HBK HBl hHeld ⊢; refine pu 0 165 ?_ (tf 18 1) rfl rfl (by kernel_rfl) (fun _ _ _ h => h) (by rfl) ?_ ?_ ?_ ?_; rotate_left; · intro w'; go_simp; with_reducible rfl
          rotate_left; · simp only [Act.put, lz]; rfl
          refine pu 1 166 ?_ (tf 18 2) rfl rfl (by kernel_rfl) (fun _ _ _ h => h) (by rfl) ?_ ?_ ?_ ?_; rotate_left; · intro w'; go_simp; with_reducible rfl
          rotate_left; · simp only [Act.put, lz]; rfl
          refine pu 2 167 ?_ (tf 18 3) rfl rfl (by kernel_rfl) (fun _ _ _ h => h) (by rfl) ?_ ?_ ?_ ?_; rotate_left; · intro w'; go_simp; with_reducible rfl
          rotate_left; · simp only [Act.put, lz]; rfl
          refine pu 3 168 ?_ (tf 18 4) rfl rfl (by kernel_rfl) (fun _ _ _ h => h) (by rfl) ?_ ?_ ?_ ?_; rotate_left; · intro w'; go_simp; with_reducible rfl
          rotate_left; · simp only [Act.put, lz]; rfl
          refine pu 6 171 ?_ #[I,I,I,I,O,O,I,O,O,O,O,O,O,O,O,O,O,O] rfl rfl (by kernel_rfl) (fun _ _ _ h => h) (by rfl) ?_ ?_ ?_ ?_; rotate_left; · intro w'; go_simp; with_reducible rfl
          rotate_left; · simp only [Act.put, lz]; rfl
          refine tu 7 172 ?_ #[I,I,I,I,O,O,I,I,O,O,O,O,O,O,O,O,O,O] rfl rfl (by kernel_rfl) (fun _ _ _ h => h) (by rfl) ?_ hHeld ?_ ?_ ?_; rotate_left; · intro w' s0; go_simp; with_reducible rfl
          rotate_left; · simp only [Act.put, lz]; rfl
          refine one_ (i := 4) (N := some 169) #[I,I,I,I,I,O,I,I,O,O,O,O,O,O,O,O,O,O] rfl rfl (by kernel_rfl) (by decide) (fun K hK => ?_); refine goes_ Try.func20 (by kernel_rfl) rfl #[.pointer (some ⟨gx, 0, none⟩)] (by rfl) rfl rfl (by simp only [List.map_toArray, List.map_cons, List.map_nil]; rfl) ?_
          with_reducible refine (table_Table_Encode.calls k gx T' l1 w _ HIx.out HOKx.out HEx.out).mono ?_
          rintro e_ we ⟨v_, rfl, ho, hb⟩; obtain ⟨Ae, ce, ev, hle, hC_⟩ := Kd.R_reads ho; subst ev; refine ⟨_, rfl, ?_⟩; replace HCq := Ad (Kd.C_below HCq.out hb); replace HBK := Ad (blk_below HBK.out hb); replace HBl := Ad (below_step HBl.out hb); have HCe := Ad hC_; clear ho hb hC_ HIx; refine hK.out _ _ (gl_TableBytes.cvt HXq.out HCq.out) (fun hHeld => ?_); clear hK K; refine norm_ (a' := ?_) ?_ ?_; rotate_left
          · show Act.put _ (some 169) _ = _; simp only [Act.put, lz]; rfl
          refine one_ (i := 5) (N := some 170) (tf 18 8) rfl rfl (by kernel_rfl) (by decide) (fun K hK => ?_); have hcv := Kd.C_string (P := Try.prog) (src := 59) (dst := 9) (A := Ae) (c := ce) Try.underlying59 Try.underlying5 Try.underlying9 HCe.out; rw [HXq.out] at hcv; refine value_ (w1 := ?_) (v := ?_) (by rfl) rfl ?_ ?_; rotate_left 2
          · go_simp
            constructor
            · rfl
            · rfl
          clear hcv; refine hK.out _ _ (gl_TableBytes.cvt HXq.out HCq.out) (fun hHeld => ?_); clear hK K; refine norm_ (a' := ?_) ?_ ?_; rotate_left
          · show Act.put _ (some 170) _ = _; simp only [Act.put, lz]; rfl
          refine pu 8 173 ?_ (tf 18 9) rfl rfl (by kernel_rfl) (fun _ _ _ h => h) (by rfl) ?_ ?_ ?_ ?_; rotate_left; · intro w'; go_simp; with_reducible rfl
          rotate_left; · simp only [Act.put, lz]; rfl
          refine pu 9 174 ?_ (tf 18 10) rfl rfl (by kernel_rfl) (fun _ _ _ h => h) (by rfl) ?_ ?_ ?_ ?_; rotate_left; · intro w'; go_simp; with_reducible rfl
          rotate_left; · simp only [Act.put, lz]; rfl
          refine pu 10 175 ?_ (tf 18 11) rfl rfl (by kernel_rfl) (fun _ _ _ h => h) (by rfl) ?_ ?_ ?_ ?_; rotate_left; · intro w'; go_simp; with_reducible rfl
          rotate_left; · simp only [Act.put, lz]; rfl
          refine pu 11 176 ?_ (tf 18 12) rfl rfl (by kernel_rfl) (fun _ _ _ h => h) (by rfl) ?_ ?_ ?_ ?_; rotate_left; · intro w'; go_simp; with_reducible rfl
          rotate_left; · simp only [Act.put, lz]; rfl
          refine pu 12 177 ?_ (tf 18 13) rfl rfl (by kernel_rfl) (fun _ _ _ h => h) (by rfl) ?_ ?_ ?_ ?_; rotate_left; · intro w'; go_simp; with_reducible rfl
          rotate_left; · simp only [Act.put, lz]; rfl
          refine pu 13 178 ?_ (tf 18 14) rfl rfl (by kernel_rfl) (fun _ _ _ h => h) (by rfl) ?_ ?_ ?_ ?_; rotate_left; · intro w'; go_simp; with_reducible rfl
          rotate_left; · simp only [Act.put, lz]; rfl
          refine un 14 179 (tf 18 15) rfl rfl (by kernel_rfl) (fun _ _ _ h => h) (by rfl) ?_ ?_ ?_; rotate_left; · simp only [Act.put, lz]; rfl
          refine un 15 180 (tf 18 16) rfl rfl (by kernel_rfl) (fun _ _ _ h => h) (by rfl) ?_ ?_ ?_; rotate_left; · simp only [Act.put, lz]; rfl
          refine pu 16 181 ?_ (tf 18 17) rfl rfl (by kernel_rfl) (fun _ _ _ h => h) (by rfl) ?_ ?_ ?_ ?_; rotate_left; · intro w'; go_simp; with_reducible rfl
          rotate_left; · simp only [Act.put, lz]; rfl
          refine pu 17 182 ?_ (tf 18 18) rfl rfl (by kernel_rfl) (fun _ _ _ h => h) (by rfl) ?_ ?_ ?_ ?_; rotate_left; · intro w'; go_simp; with_reducible rfl
          rotate_left; · simp only [Act.put, lz]; rfl
          refine done_ (by kernel_rfl) ?_
          go_wp2_with (fail)
          go_roundw
          case rel => exact ⟨1, by omega, by go_num, HBK, HBl⟩
          case measure => simp [intOf]
        · obtain rfl := hn hf
          clear hz hn; have f0 : (f == 0) = false := beq_eq_false_iff_ne.mpr hf; have f1 : (f != 0) = true := bne_iff_ne.mpr hf
          go_wp2_with (fail)
          refine (table_Decode.calls k a1 cap1 l1 none f _ HCq.out HC1.out HDq.out).mono ?_; rintro e_ wx2 ⟨rfl, hb⟩; replace HBK := Ad (blk_below HBK.out hb); replace HBl := Ad (below_step HBl.out hb); clear hb HDq HCq
          go_upto_region 27 with (fail)
          replace HBK := Ad (blk_drew HBK.out); replace HBl := Ad (below_drew1 HBl.out); refine start_ (n := 18) (S := fun w' => True) (ds := []) (tf 18 0) (by kernel_rfl) rfl rfl trivial (fun hHeld => ?_); generalize wx2.drew = wd at HBK HBl hHeld ⊢; refine pu 0 165 ?_ (tf 18 1) rfl rfl (by kernel_rfl) (fun _ _ _ h => h) (by rfl) ?_ ?_ ?_ ?_; rotate_left; · intro w'; go_simp; with_reducible rfl
          rotate_left; · simp only [Act.put, lz]; rfl
          refine pu 1 166 ?_ (tf 18 2) rfl rfl (by kernel_rfl) (fun _ _ _ h => h) (by rfl) ?_ ?_ ?_ ?_; rotate_left; · intro w'; go_simp; with_reducible rfl
          rotate_left; · simp only [Act.put, lz]; rfl
          refine pu 2 167 ?_ (tf 18 3) rfl rfl (by kernel_rfl) (fun _ _ _ h => h) (by rfl) ?_ ?_ ?_ ?_; rotate_left; · intro w'; go_simp; with_reducible rfl
          rotate_left; · simp only [Act.put, lz]; rfl
          refine un 3 168 (tf 18 4) rfl rfl (by kernel_rfl) (fun _ _ _ h => h) (by rfl) ?_ ?_ ?_; rotate_left; · simp only [Act.put, lz]; rfl
          refine un 4 169 (tf 18 5) rfl rfl (by kernel_rfl) (fun _ _ _ h => h) (by rfl) ?_ ?_ ?_; rotate_left; · simp only [Act.put, lz]; rfl
          refine un 5 170 (tf 18 6) rfl rfl (by kernel_rfl) (fun _ _ _ h => h) (by rfl) ?_ ?_ ?_; rotate_left; · simp only [Act.put, lz]; rfl
          refine un 6 171 (tf 18 7) rfl rfl (by kernel_rfl) (fun _ _ _ h => h) (by rfl) ?_ ?_ ?_; rotate_left; · simp only [Act.put, lz]; rfl
          refine un 7 172 (tf 18 8) rfl rfl (by kernel_rfl) (fun _ _ _ h => h) (by rfl) ?_ ?_ ?_; rotate_left; · simp only [Act.put, lz]; rfl
          refine un 8 173 (tf 18 9) rfl rfl (by kernel_rfl) (fun _ _ _ h => h) (by rfl) ?_ ?_ ?_; rotate_left; · simp only [Act.put, lz]; rfl
          refine pu 9 174 ?_ (tf 18 10) rfl rfl (by kernel_rfl) (fun _ _ _ h => h) (by rfl) ?_ ?_ ?_ ?_; rotate_left; · intro w'; go_simp; with_reducible rfl
          rotate_left; · simp only [Act.put, lz]; rfl
          refine pu 10 175 ?_ (tf 18 11) rfl rfl (by kernel_rfl) (fun _ _ _ h => h) (by rfl) ?_ ?_ ?_ ?_; rotate_left; · intro w'; go_simp; with_reducible rfl
          rotate_left; · simp only [Act.put, lz]; rfl
          refine pu 11 176 ?_ (tf 18 12) rfl rfl (by kernel_rfl) (fun _ _ _ h => h) (by rfl) ?_ ?_ ?_ ?_; rotate_left; · intro w'; go_simp; with_reducible rfl
          rotate_left; · simp only [Act.put, lz]; rfl
          refine pu 12 177 ?_ (tf 18 13) rfl rfl (by kernel_rfl) (fun _ _ _ h => h) (by rfl) ?_ ?_ ?_ ?_; rotate_left; · intro w'; go_simp; with_reducible rfl
          rotate_left; · simp only [Act.put, lz]; rfl
          refine pu 13 178 ?_ (tf 18 14) rfl rfl (by kernel_rfl) (fun _ _ _ h => h) (by rfl) ?_ ?_ ?_ ?_; rotate_left; · intro w'; go_simp; with_reducible rfl
          rotate_left; · simp only [Act.put, lz]; rfl
          refine pu 14 179 ?_ (tf 18 15) rfl rfl (by kernel_rfl) (fun _ _ _ h => h) (by rfl) ?_ ?_ ?_ ?_; rotate_left; · intro w'; go_simp; with_reducible rfl
          rotate_left; · simp only [Act.put, lz]; rfl
          refine pu 15 180 ?_ (tf 18 16) rfl rfl (by kernel_rfl) (fun _ _ _ h => h) (by rfl) ?_ ?_ ?_ ?_; rotate_left; · intro w'; go_simp; with_reducible rfl
          rotate_left; · simp only [Act.put, lz]; rfl
          refine pu 16 181 ?_ (tf 18 17) rfl rfl (by kernel_rfl) (fun _ _ _ h => h) (by rfl) ?_ ?_ ?_ ?_; rotate_left; · intro w'; go_simp; with_reducible rfl
          rotate_left; · simp only [Act.put, lz]; rfl
          refine pu 17 182 ?_ (tf 18 18) rfl rfl (by kernel_rfl) (fun _ _ _ h => h) (by rfl) ?_ ?_ ?_ ?_; rotate_left; · intro w'; go_simp; with_reducible rfl
          rotate_left; · simp only [Act.put, lz]; rfl
          refine done_ (by kernel_rfl) ?_
          go_wp2_with (fail)
          go_roundw
          case rel => exact ⟨1, by omega, by go_num, HBK, HBl⟩
          case measure => simp [intOf]
      · have HCq := Ad (Kd.C_below HCd.out HBl.out)
        obtain ⟨o, f, hd, hz, hn⟩ := HANY.out d HWd.out (by omega); have HDq := Ad hd; clear hd HANY
        by_cases hf : f = 0
        · subst hf
          obtain ⟨T', rfl, hok, he⟩ := hz rfl; have HOKx := Ad hok; have HEx := Ad he; clear hz hn hok he
          go_wp2_with (fail)
          refine (table_Decode.calls k (some ⟨gb, 0, none⟩) c8 d (some T') 0 _ HCq.out hl8 HDq.out).mono ?_; rintro e_ wx2 ⟨⟨gx, rfl, hi⟩, hb⟩; have HIx := Ad (gl_TableBytes.wk (Nat.le_trans HB.out.size HBl.out.size) hi); replace HCq := Ad (Kd.C_below HCq.out hb); replace HBK := Ad (blk_below HBK.out hb); replace HBl := Ad (below_step HBl.out hb); clear hi hb HDq
          go_upto_region 27 with (fail)
          replace HIx := Ad (IsS70.drew HIx.out); replace HCq := Ad (Kd.C_drew HCq.out); replace HBK := Ad (blk_drew HBK.out); replace HBl := Ad (below_drew1 HBl.out)
          obtain ⟨Xq, hXq⟩ : ∃ Xq : ByteArray, strOfNums d = Xq := ⟨_, rfl⟩
          have HXq := Ad hXq; clear hXq; refine start_ (n := 18) (S := fun w' => Go.Sem.run Try.prog (convert 59 9 (.slice (some ⟨gb, 0, none⟩) d.length c8)) w' = .ok (.string Xq) w') (ds := []) (tf 18 0) (by kernel_rfl) rfl rfl (gl_TableBytes.cvt HXq.out HCq.out) (fun hHeld => ?_); generalize wx2.drew = wd at HIx HCq HBK HBl hHeld ⊢; refine pu 0 165 ?_ (tf 18 1) rfl rfl (by kernel_rfl) (fun _ _ _ h => h) (by rfl) ?_ ?_ ?_ ?_; rotate_left; · intro w'; go_simp; with_reducible rfl
          rotate_left; · simp only [Act.put, lz]; rfl
          refine pu 1 166 ?_ (tf 18 2) rfl rfl (by kernel_rfl) (fun _ _ _ h => h) (by rfl) ?_ ?_ ?_ ?_; rotate_left; · intro w'; go_simp; with_reducible rfl
          rotate_left; · simp only [Act.put, lz]; rfl
          refine pu 2 167 ?_ (tf 18 3) rfl rfl (by kernel_rfl) (fun _ _ _ h => h) (by rfl) ?_ ?_ ?_ ?_; rotate_left; · intro w'; go_simp; with_reducible rfl
          rotate_left; · simp only [Act.put, lz]; rfl
          refine pu 3 168 ?_ (tf 18 4) rfl rfl (by kernel_rfl) (fun _ _ _ h => h) (by rfl) ?_ ?_ ?_ ?_; rotate_left; · intro w'; go_simp; with_reducible rfl
          rotate_left; · simp only [Act.put, lz]; rfl
          refine pu 6 171 ?_ #[I,I,I,I,O,O,I,O,O,O,O,O,O,O,O,O,O,O] rfl rfl (by kernel_rfl) (fun _ _ _ h => h) (by rfl) ?_ ?_ ?_ ?_; rotate_left; · intro w'; go_simp; with_reducible rfl
          rotate_left; · simp only [Act.put, lz]; rfl
          refine tu 7 172 ?_ #[I,I,I,I,O,O,I,I,O,O,O,O,O,O,O,O,O,O] rfl rfl (by kernel_rfl) (fun _ _ _ h => h) (by rfl) ?_ hHeld ?_ ?_ ?_; rotate_left; · intro w' s0; go_simp; with_reducible rfl
          rotate_left; · simp only [Act.put, lz]; rfl
          refine one_ (i := 4) (N := some 169) #[I,I,I,I,I,O,I,I,O,O,O,O,O,O,O,O,O,O] rfl rfl (by kernel_rfl) (by decide) (fun K hK => ?_); refine goes_ Try.func20 (by kernel_rfl) rfl #[.pointer (some ⟨gx, 0, none⟩)] (by rfl) rfl rfl (by simp only [List.map_toArray, List.map_cons, List.map_nil]; rfl) ?_
          with_reducible refine (table_Table_Encode.calls k gx T' d w _ HIx.out HOKx.out HEx.out).mono ?_
          rintro e_ we ⟨v_, rfl, ho, hb⟩; obtain ⟨Ae, ce, ev, hle, hC_⟩ := Kd.R_reads ho; subst ev; refine ⟨_, rfl, ?_⟩; replace HCq := Ad (Kd.C_below HCq.out hb); replace HBK := Ad (blk_below HBK.out hb); replace HBl := Ad (below_step HBl.out hb); have HCe := Ad hC_; clear ho hb hC_ HIx; refine hK.out _ _ (gl_TableBytes.cvt HXq.out HCq.out) (fun hHeld => ?_); clear hK K; refine norm_ (a' := ?_) ?_ ?_; rotate_left
          · show Act.put _ (some 169) _ = _; simp only [Act.put, lz]; rfl
          refine one_ (i := 5) (N := some 170) (tf 18 8) rfl rfl (by kernel_rfl) (by decide) (fun K hK => ?_); have hcv := Kd.C_string (P := Try.prog) (src := 59) (dst := 9) (A := Ae) (c := ce) Try.underlying59 Try.underlying5 Try.underlying9 HCe.out; rw [HXq.out] at hcv; refine value_ (w1 := ?_) (v := ?_) (by rfl) rfl ?_ ?_; rotate_left 2
          · go_simp
            constructor
            · rfl
            · rfl
          clear hcv; refine hK.out _ _ (gl_TableBytes.cvt HXq.out HCq.out) (fun hHeld => ?_); clear hK K; refine norm_ (a' := ?_) ?_ ?_; rotate_left
          · show Act.put _ (some 170) _ = _; simp only [Act.put, lz]; rfl
          refine pu 8 173 ?_ (tf 18 9) rfl rfl (by kernel_rfl) (fun _ _ _ h => h) (by rfl) ?_ ?_ ?_ ?_; rotate_left; · intro w'; go_simp; with_reducible rfl
          rotate_left; · simp only [Act.put, lz]; rfl
          refine pu 9 174 ?_ (tf 18 10) rfl rfl (by kernel_rfl) (fun _ _ _ h => h) (by rfl) ?_ ?_ ?_ ?_; rotate_left; · intro w'; go_simp; with_reducible rfl
          rotate_left; · simp only [Act.put, lz]; rfl
          refine pu 10 175 ?_ (tf 18 11) rfl rfl (by kernel_rfl) (fun _ _ _ h => h) (by rfl) ?_ ?_ ?_ ?_; rotate_left; · intro w'; go_simp; with_reducible rfl
          rotate_left; · simp only [Act.put, lz]; rfl
          refine pu 11 176 ?_ (tf 18 12) rfl rfl (by kernel_rfl) (fun _ _ _ h => h) (by rfl) ?_ ?_ ?_ ?_; rotate_left; · intro w'; go_simp; with_reducible rfl
          rotate_left; · simp only [Act.put, lz]; rfl
          refine pu 12 177 ?_ (tf 18 13) rfl rfl (by kernel_rfl) (fun _ _ _ h => h) (by rfl) ?_ ?_ ?_ ?_; rotate_left; · intro w'; go_simp; with_reducible rfl
          rotate_left; · simp only [Act.put, lz]; rfl
          refine pu 13 178 ?_ (tf 18 14) rfl rfl (by kernel_rfl) (fun _ _ _ h => h) (by rfl) ?_ ?_ ?_ ?_; rotate_left; · intro w'; go_simp; with_reducible rfl
          rotate_left; · simp only [Act.put, lz]; rfl
          refine un 14 179 (tf 18 15) rfl rfl (by kernel_rfl) (fun _ _ _ h => h) (by rfl) ?_ ?_ ?_; rotate_left; · simp only [Act.put, lz]; rfl
          refine un 15 180 (tf 18 16) rfl rfl (by kernel_rfl) (fun _ _ _ h => h) (by rfl) ?_ ?_ ?_; rotate_left; · simp only [Act.put, lz]; rfl
          refine pu 16 181 ?_ (tf 18 17) rfl rfl (by kernel_rfl) (fun _ _ _ h => h) (by rfl) ?_ ?_ ?_ ?_; rotate_left; · intro w'; go_simp; with_reducible rfl
          rotate_left; · simp only [Act.put, lz]; rfl
          refine pu 17 182 ?_ (tf 18 18) rfl rfl (by kernel_rfl) (fun _ _ _ h => h) (by rfl) ?_ ?_ ?_ ?_; rotate_left; · intro w'; go_simp; with_reducible rfl
          rotate_left; · simp only [Act.put, lz]; rfl
          refine done_ (by kernel_rfl) ?_
          go_wp2_with (fail)
          go_roundw
          case rel => exact ⟨2, by omega, by go_num, HBK, HBl⟩
          case measure => simp [intOf]
        · obtain rfl := hn hf
          clear hz hn; have f0 : (f == 0) = false := beq_eq_false_iff_ne.mpr hf; have f1 : (f != 0) = true := bne_iff_ne.mpr hf
          go_wp2_with (fail)
          refine (table_Decode.calls k (some ⟨gb, 0, none⟩) c8 d none f _ HCq.out hl8 HDq.out).mono ?_; rintro e_ wx2 ⟨rfl, hb⟩; replace HBK := Ad (blk_below HBK.out hb); replace HBl := Ad (below_step HBl.out hb); clear hb HDq HCq
          go_upto_region 27 with (fail)
          replace HBK := Ad (blk_drew HBK.out); replace HBl := Ad (below_drew1 HBl.out); refine start_ (n := 18) (S := fun w' => True) (ds := []) (tf 18 0) (by kernel_rfl) rfl rfl trivial (fun hHeld => ?_); generalize wx2.drew = wd at HBK HBl hHeld ⊢; refine pu 0 165 ?_ (tf 18 1) rfl rfl (by kernel_rfl) (fun _ _ _ h => h) (by rfl) ?_ ?_ ?_ ?_; rotate_left; · intro w'; go_simp; with_reducible rfl
          rotate_left; · simp only [Act.put, lz]; rfl
          refine pu 1 166 ?_ (tf 18 2) rfl rfl (by kernel_rfl) (fun _ _ _ h => h) (by rfl) ?_ ?_ ?_ ?_; rotate_left; · intro w'; go_simp; with_reducible rfl
          rotate_left; · simp only [Act.put, lz]; rfl
          refine pu 2 167 ?_ (tf 18 3) rfl rfl (by kernel_rfl) (fun _ _ _ h => h) (by rfl) ?_ ?_ ?_ ?_; rotate_left; · intro w'; go_simp; with_reducible rfl
          rotate_left; · simp only [Act.put, lz]; rfl
          refine un 3 168 (tf 18 4) rfl rfl (by kernel_rfl) (fun _ _ _ h => h) (by rfl) ?_ ?_ ?_; rotate_left; · simp only [Act.put, lz]; rfl
          refine un 4 169 (tf 18 5) rfl rfl (by kernel_rfl) (fun _ _ _ h => h) (by rfl) ?_ ?_ ?_; rotate_left; · simp only [Act.put, lz]; rfl
          refine un 5 170 (tf 18 6) rfl rfl (by kernel_rfl) (fun _ _ _ h => h) (by rfl) ?_ ?_ ?_; rotate_left; · simp only [Act.put, lz]; rfl
          refine un 6 171 (tf 18 7) rfl rfl (by kernel_rfl) (fun _ _ _ h => h) (by rfl) ?_ ?_ ?_; rotate_left; · simp only [Act.put, lz]; rfl
          refine un 7 172 (tf 18 8) rfl rfl (by kernel_rfl) (fun _ _ _ h => h) (by rfl) ?_ ?_ ?_; rotate_left; · simp only [Act.put, lz]; rfl
          refine un 8 173 (tf 18 9) rfl rfl (by kernel_rfl) (fun _ _ _ h => h) (by rfl) ?_ ?_ ?_; rotate_left; · simp only [Act.put, lz]; rfl
          refine pu 9 174 ?_ (tf 18 10) rfl rfl (by kernel_rfl) (fun _ _ _ h => h) (by rfl) ?_ ?_ ?_ ?_; rotate_left; · intro w'; go_simp; with_reducible rfl
          rotate_left; · simp only [Act.put, lz]; rfl
          refine pu 10 175 ?_ (tf 18 11) rfl rfl (by kernel_rfl) (fun _ _ _ h => h) (by rfl) ?_ ?_ ?_ ?_; rotate_left; · intro w'; go_simp; with_reducible rfl
          rotate_left; · simp only [Act.put, lz]; rfl
          refine pu 11 176 ?_ (tf 18 12) rfl rfl (by kernel_rfl) (fun _ _ _ h => h) (by rfl) ?_ ?_ ?_ ?_; rotate_left; · intro w'; go_simp; with_reducible rfl
          rotate_left; · simp only [Act.put, lz]; rfl
          refine pu 12 177 ?_ (tf 18 13) rfl rfl (by kernel_rfl) (fun _ _ _ h => h) (by rfl) ?_ ?_ ?_ ?_; rotate_left; · intro w'; go_simp; with_reducible rfl
          rotate_left; · simp only [Act.put, lz]; rfl
          refine pu 13 178 ?_ (tf 18 14) rfl rfl (by kernel_rfl) (fun _ _ _ h => h) (by rfl) ?_ ?_ ?_ ?_; rotate_left; · intro w'; go_simp; with_reducible rfl
          rotate_left; · simp only [Act.put, lz]; rfl
          refine pu 14 179 ?_ (tf 18 15) rfl rfl (by kernel_rfl) (fun _ _ _ h => h) (by rfl) ?_ ?_ ?_ ?_; rotate_left; · intro w'; go_simp; with_reducible rfl
          rotate_left; · simp only [Act.put, lz]; rfl
          refine pu 15 180 ?_ (tf 18 16) rfl rfl (by kernel_rfl) (fun _ _ _ h => h) (by rfl) ?_ ?_ ?_ ?_; rotate_left; · intro w'; go_simp; with_reducible rfl
          rotate_left; · simp only [Act.put, lz]; rfl
          refine pu 16 181 ?_ (tf 18 17) rfl rfl (by kernel_rfl) (fun _ _ _ h => h) (by rfl) ?_ ?_ ?_ ?_; rotate_left; · intro w'; go_simp; with_reducible rfl
          rotate_left; · simp only [Act.put, lz]; rfl
          refine pu 17 182 ?_ (tf 18 18) rfl rfl (by kernel_rfl) (fun _ _ _ h => h) (by rfl) ?_ ?_ ?_ ?_; rotate_left; · intro w'; go_simp; with_reducible rfl
          rotate_left; · simp only [Act.put, lz]; rfl
          refine done_ (by kernel_rfl) ?_
          go_wp2_with (fail)
          go_roundw
          case rel => exact ⟨2, by omega, by go_num, HBK, HBl⟩
          case measure => simp [intOf]
      · go_wp2; go_ret; exact ⟨rfl, below_step HB.out HBl.out⟩


end Go.Proofs.Ytmkjgiejnlmncaa.QTableBytes
