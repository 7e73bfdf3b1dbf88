-- Lines by a program of this session, for this claim.
import Derived.Test.YtkngncckidlniaaQSourceSinksx0
import Derived.Test.YtkngncckidlniaaQSourceSinksx1
import Derived.Test.YtkngncckidlniaaQSourceSinksx2
import Derived.Test.YtkngncckidlniaaQSourceSinksx3
import Derived.Test.YtkngncckidlniaaQSourceSinksx4
namespace Go.Proofs.Ytkngncckidlniaa.QSourceSinks
open Go.RowKit Go.Proofs.YtkngncckidlniaaW.PrintWords Go.Proofs.YtkngncckidlniaaW.PrintLast Go.Proofs.YtkngncckidlniaaW.PrintMore
attribute [local go_sem] max2_int min2_int max_two min_two max_three min_three max_four min_four   -- for this text's walks alone
set_option linter.unusedVariables false
set_option linter.unusedSimpArgs false

/-! ### milestonelaw15_SourceSinks: function 3 -/
theorem milestonelaw15_SourceSinks.feas (k g b : Nat) (pa pn ms mm : Int) (cur : Option (Int × Int)) (rn : Bool) (w : World) (hs : source_Source_Lower.St w b g pa pn cur) (hcp : prefix_Compare.f k pa pn pa pn = some 0) (hnr : serial_Nearer.f ms mm (cur.getD (0, 0)).1 (cur.getD (0, 0)).2 = some rn) :
    Calls Try.prog 11 #[.pointer (some ⟨g, 0, none⟩), .agg #[.int .u32 pa, .int .u8 pn], .agg #[.int .u16 ms, .int .u16 mm]] w fun e w' => e = .returned (.bool ((mm == 65535) || (!cur.isSome || rn))) ∧ Below w.heap.size w w' := by
  obtain ⟨v, hg, hbg, hR⟩ := hs
  obtain ⟨A, c, rfl, hlc, hC⟩ := Kd.R_reads hR
  cases cur with
  | none => exact source_Source_Feasible.calls k g A c [] pa pn 0 (fun _ => 1) 0 0 ms mm false rn w hg hC (by simp) (Nat.le_refl _) (fun j hj => absurd hj (Nat.not_lt_zero _)) (.inr ⟨by simp, rfl, rfl, rfl⟩) hnr
  | some m => exact source_Source_Feasible.calls k g A c [⟨⟨pa, pn⟩, ⟨m.1, m.2⟩⟩] pa pn 0 (fun _ => 0) m.1 m.2 ms mm true rn w hg hC (by simp) (Nat.zero_le _) (fun j hj => by
      obtain rfl : j = 0 := by simpa using hj
      exact ⟨hcp, by simp⟩) (.inl ⟨by simp, rfl, rfl, rfl, rfl⟩) hnr
theorem milestonelaw15_SourceSinks.feas2 (k g b : Nat) (pa pn ms mm : Int) (cur : Option (Int × Int)) (rn nw : Bool) (w : World) (hs : source_Source_Lower.St w b g pa pn cur) (hcp : prefix_Compare.f k pa pn pa pn = some 0) (hnr : serial_Nearer.f ms mm (cur.getD (0, 0)).1 (cur.getD (0, 0)).2 = some rn) (hnw : ((mm == 65535) || (!cur.isSome || rn)) = nw) :
    Calls Try.prog 11 #[.pointer (some ⟨g, 0, none⟩), .agg #[.int .u32 pa, .int .u8 pn], .agg #[.int .u16 ms, .int .u16 mm]] w fun e w' => e = .returned (.bool nw) ∧ Below w.heap.size w w' := by
  subst hnw
  exact milestonelaw15_SourceSinks.feas k g b pa pn ms mm cur rn w hs hcp hnr
set_option maxHeartbeats 4000000 in
set_option maxRecDepth 100000 in
theorem milestonelaw15_SourceSinks.awake (k : Nat) (hrt : prefix_Right.f 167772160 8 = some true) (hcp : prefix_Compare.f k 167772160 8 167772160 8 = some 0) (n1 : serial_Nearer.f 1 95 1 96 = some true) (n2 : serial_Nearer.f 2 500 1 96 = some true) (n3 : serial_Nearer.f 1 96 1 96 = some false) (w : World) :
    Calls Try.prog 6 #[] w fun e w' => e = .returned (.bool true) ∧ Below w.heap.size w w' := by
  have hu31 := Try.underlying31
  have hu36 := Try.underlying36
  go_enter Try.func6, Try.ntmps6
  go_wp2_with (fail)
  refine (source_Source_Lower.new w).mono ?_
  rintro e w1 ⟨g, rfl, hg, hge, hb⟩
  have HST := Aside0.mk (show source_Source_Lower.St w1 w.heap.size g 167772160 8 none from ⟨_, hg, hge, Kd.R_nil _ _ _ _ _⟩)
  have HB1 := Aside0.mk hb
  clear hb hg
  go_upto_region 3 with (first | ((with_reducible refine gate_dst (N := 2) rfl ?_); (try (refine gate_guard (by rfl) ?_; dsimp only)); refine box_event ?hg (N := 2) ?hd (cs := #[.int .u32 0, .int .u8 0]) (t := 31) ?hr ?_; (case hd => rfl); (case hg => rfl); (case hr => first | (go_simp; done) | (go_simp; rfl)); intro g2 hg w2 hbox hb; have BK2 := Aside0.mk hbox; have GE2 := Aside0.mk hg; have HB12 := Aside0.mk hb; clear hb hbox hg; have z0 : w2.cell? ⟨g2, 0, none⟩ = some (.int .u32 0) := (blk_cell BK2.out 0).trans rfl; have z1 : w2.cell? ⟨g2, 1, none⟩ = some (.int .u8 0) := (blk_cell BK2.out 1).trans rfl; have y0 := blk_frozen BK2.out 0; have y1 := blk_frozen BK2.out 1))
  obtain ⟨W, hW⟩ : ∃ W : World, W = ((w2.setCell ⟨g2, 0, none⟩ (.int .u32 167772160)).setCell ⟨g2, 1, none⟩ (.int .u8 8)) := ⟨_, rfl⟩
  rw [← hW]
  have BKW := Aside0.mk (show W.heap[g2]? = some (.cells #[.int .u32 167772160, .int .u8 8] 31 (0, 0)) from by rw [hW]; refine blk_put (cs := #[.int .u32 167772160, .int .u8 0]) ?_ 1 _ rfl; refine blk_put (cs := #[.int .u32 0, .int .u8 0]) ?_ 0 _ rfl; exact BK2.out)
  have HBW := Aside0.mk (show Below w1.heap.size w1 W from by rw [hW]; exact below_set (below_set HB12.out (by rw [GE2.out]; exact Nat.le_refl _)) (by rw [GE2.out]; exact Nat.le_refl _))
  have HSW := Aside0.mk (source_Source_Lower.St_fr HST.out HBW.out)
  have HB0W := Aside0.mk (below_step HB1.out HBW.out)
  clear hW z0 z1 y0 y1 BK2 HB12 HST HB1 HBW
  have c0 : W.cell? ⟨g2, 0, none⟩ = some (.int .u32 167772160) := (blk_cell BKW.out 0).trans rfl
  have c1 : W.cell? ⟨g2, 1, none⟩ = some (.int .u8 8) := (blk_cell BKW.out 1).trans rfl
  go_wp2_with (fail)
  refine (source_Source_Lower.one k g w.heap.size 167772160 8 1 96 none 0 0 w W HSW.out HB0W.out.size HB0W.out hrt hcp (fun m h => by cases h)).mono ?_
  rintro e w3 ⟨rfl, hs, hb, hf⟩
  have HS3 := Aside0.mk (show source_Source_Lower.St w3 w.heap.size g 167772160 8 (some (1, 96)) from hs)
  have HB3 := Aside0.mk hb
  have BK3 := Aside0.mk ((hf.2 g2 31 _ BKW.out (by decide) (by decide)).trans BKW.out)
  clear hs hb hf c0 c1 BKW HSW HB0W
  have c0 : w3.cell? ⟨g2, 0, none⟩ = some (.int .u32 167772160) := (blk_cell BK3.out 0).trans rfl
  have c1 : w3.cell? ⟨g2, 1, none⟩ = some (.int .u8 8) := (blk_cell BK3.out 1).trans rfl
  go_wp2_with (fail)
  refine (milestonelaw15_SourceSinks.feas k g w.heap.size 167772160 8 1 95 (some (1, 96)) true w3 HS3.out hcp n1).mono ?_
  rintro e w4 ⟨rfl, hb⟩
  have HS4 := Aside0.mk (source_Source_Lower.St_fr HS3.out hb)
  have HB4 := Aside0.mk (below_then HB3.out HB3.out.size hb)
  have BK4 := Aside0.mk (blk_below BK3.out hb)
  clear hb c0 c1 BK3 HS3 HB3
  have c0 : w4.cell? ⟨g2, 0, none⟩ = some (.int .u32 167772160) := (blk_cell BK4.out 0).trans rfl
  have c1 : w4.cell? ⟨g2, 1, none⟩ = some (.int .u8 8) := (blk_cell BK4.out 1).trans rfl
  go_wp2_with (fail)
  refine (milestonelaw15_SourceSinks.feas k g w.heap.size 167772160 8 2 500 (some (1, 96)) true w4 HS4.out hcp n2).mono ?_
  rintro e w5 ⟨rfl, hb⟩
  have HS5 := Aside0.mk (source_Source_Lower.St_fr HS4.out hb)
  have HB5 := Aside0.mk (below_then HB4.out HB4.out.size hb)
  have BK5 := Aside0.mk (blk_below BK4.out hb)
  clear hb c0 c1 BK4 HS4 HB4
  have c0 : w5.cell? ⟨g2, 0, none⟩ = some (.int .u32 167772160) := (blk_cell BK5.out 0).trans rfl
  have c1 : w5.cell? ⟨g2, 1, none⟩ = some (.int .u8 8) := (blk_cell BK5.out 1).trans rfl
  go_wp2_with (fail)
  refine (milestonelaw15_SourceSinks.feas k g w.heap.size 167772160 8 1 96 (some (1, 96)) false w5 HS5.out hcp n3).mono ?_
  rintro e w6 ⟨rfl, hb⟩
  have HB6 := Aside0.mk (below_then HB5.out HB5.out.size hb)
  clear hb
  go_wp2_with (fail)
  go_ret
  exact ⟨rfl, HB6.out⟩
def milestonelaw15_SourceSinks.Pure : Prop := (∃ k, prefix_Right.f 167772160 8 = some true ∧ prefix_Compare.f k 167772160 8 167772160 8 = some 0 ∧ serial_Nearer.f 1 95 1 96 = some true ∧ serial_Nearer.f 2 500 1 96 = some true ∧ serial_Nearer.f 1 96 1 96 = some false) ∧
  (∀ a : Int, (Lit.int .u8 a).wf = true → ∃ (k : Nat) (pa pn : Int), milestoneref07_Prefix.f k a = some (pa, pn) ∧ prefix_Right.f pa pn = some true ∧ prefix_Compare.f k pa pn pa pn = some 0) ∧
  ∃ Ser : Int → Prop, (∀ x : S25, ((Lit.int .u8 x.f0).wf = true ∧ ((Lit.int .u8 x.f1).wf = true ∧ (Lit.int .u16 x.f2).wf = true)) → ∃ r, milestonelaw15_mark.f x.f0 x.f1 x.f2 = some (r, x.f2) ∧ Ser r) ∧ (∀ a b c d : Int, ∃ t, serial_Nearer.f a b c d = some t) ∧
    (∀ a b c d : Int, Ser a → Ser c → ∃ e f, serial_Best.f a b c d = some (e, f) ∧ Ser e ∧ ∀ s m : Int, Ser s → serial_Nearer.f s m a b = some false → serial_Nearer.f s m e f = some false)
set_option maxHeartbeats 4000000 in
set_option maxRecDepth 100000 in
theorem milestonelaw15_SourceSinks.walk (P : milestonelaw15_SourceSinks.Pure) (a0 : Option Addr) (cap0 : Nat) (l0 : List (S25)) (a1_0 a1_1 a1_2 : Int) (w : World) (hr0 : Kd.C k25 w a0 l0.length l0) (hc0 : l0.length ≤ cap0) (hm0 : l0.length ≤ maxLen) (hw0 : ∀ x ∈ l0, ((Lit.int .u8 x.f0).wf = true ∧ ((Lit.int .u8 x.f1).wf = true ∧ (Lit.int .u16 x.f2).wf = true))) (w1_0 : (Lit.int .u8 a1_0).wf = true) (w1_1 : (Lit.int .u8 a1_1).wf = true) (w1_2 : (Lit.int .u16 a1_2).wf = true) :
    Calls Try.prog 3 #[.slice a0 l0.length cap0, .agg #[.int .u8 a1_0, .int .u8 a1_1, .int .u16 a1_2]] w fun e w' => e = .returned (.bool true) ∧ Below w.heap.size w w' := by
  have hu31 := Try.underlying31
  have hu36 := Try.underlying36
  have hu25 := Try.underlying25
  obtain ⟨⟨ka, pa1, pa2, pa3, pa4, pa5⟩, hPX, Ser, hMK, hNR, hBE⟩ := P
  obtain ⟨kp, pa, pn, hp1, hp2, hp3⟩ := hPX a1_0 w1_0
  have HR := Aside0.mk hr0
  have HW := Aside0.mk hw0
  have HP1 := Aside0.mk hp1
  have HMK := Aside0.mk hMK
  have HNR := Aside0.mk hNR
  have HBE := Aside0.mk hBE
  clear hr0 hw0 hp1 hMK hNR hBE hPX
  go_enter Try.func3, Try.ntmps3
  go_wp2_with (((with_reducible refine gate_dst (N := 3) rfl ?_); (try (refine gate_guard (by rfl) ?_; dsimp only)); refine box_event ?hg (N := 3) ?hd (cs := #[.int .u8 a1_0, .int .u8 a1_1, .int .u16 a1_2]) (t := 25) ?hr ?_; (case hd => rfl); (case hg => rfl); (case hr => first | (go_simp; done) | (go_simp; rfl)); intro g3 hg w3 hbox hb; have BK3 := Aside0.mk hbox; have HB3 := Aside0.mk hb; clear hb hbox hg))
  refine (milestonelaw15_SourceSinks.awake ka pa1 pa2 pa3 pa4 pa5 w3).mono ?_
  rintro e w4 ⟨rfl, hb⟩
  have BK4 := Aside0.mk (blk_below BK3.out hb)
  have HB4 := Aside0.mk (below_step HB3.out hb)
  clear hb BK3 HB3
  by_cases hlen : ¬ l0.length ≤ 60
  · have q1 : decide ((l0.length : Int) > 60) = true := decide_eq_true (by omega)
    have q2 : decide (60 < (l0.length : Int)) = true := decide_eq_true (by omega)
    go_wp2_with (fail)
    refine (milestonelaw15_SourceSinks.awake ka pa1 pa2 pa3 pa4 pa5 w4).mono ?_
    rintro e w5 ⟨rfl, hb⟩
    have HB5 := Aside0.mk (below_step HB4.out hb)
    clear hb
    go_wp2_with (fail)
    go_ret
    exact ⟨rfl, HB5.out⟩
  have hlen' : l0.length ≤ 60 := Decidable.not_not.1 hlen
  have q1 : decide ((l0.length : Int) > 60) = false := decide_eq_false (by omega)
  have q2 : decide (60 < (l0.length : Int)) = false := decide_eq_false (by omega)
  go_wp2_with (fail)
  refine (source_Source_Lower.new w4).mono ?_
  rintro e w5 ⟨g, rfl, hg, hge, hb⟩
  have HST := Aside0.mk (show source_Source_Lower.St w5 w4.heap.size g pa pn none from ⟨_, hg, hge, Kd.R_nil _ _ _ _ _⟩)
  have HB5 := Aside0.mk hb
  have BK5 := Aside0.mk (blk_below BK4.out hb)
  clear hb hg
  have x0 : w5.cell? ⟨g3, 0, none⟩ = some (.int .u8 a1_0) := (blk_cell BK5.out 0).trans rfl
  have x1 : w5.cell? ⟨g3, 1, none⟩ = some (.int .u8 a1_1) := (blk_cell BK5.out 1).trans rfl
  have x2 : w5.cell? ⟨g3, 2, none⟩ = some (.int .u16 a1_2) := (blk_cell BK5.out 2).trans rfl
  go_wp2_with (fail)
  refine (milestoneref07_Prefix.calls kp a1_0 pa pn _ HP1.out).mono ?_
  rintro e w6 ⟨rfl, hb⟩
  have HST6 := Aside0.mk (source_Source_Lower.St_fr HST.out hb)
  have HB6 := Aside0.mk (below_step HB5.out hb)
  have BK6 := Aside0.mk (blk_below BK5.out hb)
  clear hb x0 x1 x2 HST HB5 BK5
  go_upto_region 5 with (first | ((with_reducible refine gate_dst (N := 6) rfl ?_); (try (refine gate_guard (by rfl) ?_; dsimp only)); refine box_event ?hg (N := 6) ?hd (cs := #[.int .u32 0, .int .u8 0]) (t := 31) ?hr ?_; (case hd => rfl); (case hg => rfl); (case hr => first | (go_simp; done) | (go_simp; rfl)); intro g6 hg w7 hbox hb; have BK7 := Aside0.mk hbox; have GE7 := Aside0.mk hg; have HB67 := Aside0.mk hb; clear hb hbox hg; have z0 : w7.cell? ⟨g6, 0, none⟩ = some (.int .u32 0) := (blk_cell BK7.out 0).trans rfl; have z1 : w7.cell? ⟨g6, 1, none⟩ = some (.int .u8 0) := (blk_cell BK7.out 1).trans rfl; have y0 := blk_frozen BK7.out 0; have y1 := blk_frozen BK7.out 1))
  obtain ⟨W, hW⟩ : ∃ W : World, W = ((w7.setCell ⟨g6, 0, none⟩ (.int .u32 pa)).setCell ⟨g6, 1, none⟩ (.int .u8 pn)) := ⟨_, rfl⟩
  rw [← hW]
  have BKW := Aside0.mk (show W.heap[g6]? = some (.cells #[.int .u32 pa, .int .u8 pn] 31 (0, 0)) from by rw [hW]; refine blk_put (cs := #[.int .u32 pa, .int .u8 0]) ?_ 1 _ rfl; refine blk_put (cs := #[.int .u32 0, .int .u8 0]) ?_ 0 _ rfl; exact BK7.out)
  have HBW := Aside0.mk (show Below w6.heap.size w6 W from by rw [hW]; exact below_set (below_set HB67.out (by rw [GE7.out]; exact Nat.le_refl _)) (by rw [GE7.out]; exact Nat.le_refl _))
  have HSW := Aside0.mk (source_Source_Lower.St_fr HST6.out HBW.out)
  have HB4W := Aside0.mk (below_step HB6.out HBW.out)
  have BK3W := Aside0.mk (blk_below BK6.out HBW.out)
  clear hW z0 z1 y0 y1 BK7 HB67 HST6 HB6 HBW BK6
  obtain ⟨rx, hrx, hsx⟩ := HMK.out ⟨a1_0, a1_1, a1_2⟩ ⟨w1_0, w1_1, w1_2⟩
  have HRX := Aside0.mk hrx
  clear hrx
  go_wp2_with (fail)
  go_loopg [7, 8] l0.length (fun kx s7 s8 wr => ∃ (j : Nat) (cur : Option (Int × Int)) (was : Bool), s7 = .bool was ∧ s8 = .int .i64 j ∧ j ≤ l0.length ∧ l0.length - j ≤ kx ∧ Aside0 (source_Source_Lower.St wr w4.heap.size g pa pn cur) ∧ Aside0 (Below w4.heap.size w4 wr) ∧ Aside0 (wr.heap[g6]? = some (.cells #[.int .u32 pa, .int .u8 pn] 31 (0, 0))) ∧ Aside0 (wr.heap[g3]? = some (.cells #[.int .u8 a1_0, .int .u8 a1_1, .int .u16 a1_2] 25 (0, 0))) ∧ Aside0 (∀ m, cur = some m → Ser m.1) ∧ Aside0 (was = false → a1_2 ≠ 65535 ∧ ∃ m, cur = some m ∧ serial_Nearer.f rx a1_2 m.1 m.2 = some false))
  case atStart => exact ⟨0, none, true, rfl, rfl, Nat.zero_le _, Nat.le_refl _, HSW, HB4W, BKW, BK3W, ⟨fun m h => by cases h⟩, ⟨fun h => by cases h⟩⟩
  case round =>
    clear HSW HB4W BKW BK3W
    obtain ⟨j, cur, was, rfl, rfl, hj, hg, HS, HB, BK6, BK3, HSER, HWAS⟩ := hrel
    by_cases hlt : j < l0.length
    · have p1 : decide ((j : Int) < (l0.length : Int)) = true := decide_eq_true (by omega)
      have p2 : decide (0 ≤ (j : Int)) = true := decide_eq_true (by omega)
      obtain ⟨ad, e0, hx0, hx1, hx2⟩ := at_T25 (Kd.C_below HR.out (below_step HB4.out HB.out)) (j : Int) (by omega) (by omega)
      cases e0
      simp only [Int.toNat_natCast] at hx0 hx1 hx2
      have hwx := HW.out (rd_T25 l0 (j : Int)) (by
        show l0.getD (j : Int).toNat z25 ∈ l0
        rw [Int.toNat_natCast, List.getD_eq_getElem?_getD, List.getElem?_eq_getElem hlt]
        exact List.getElem_mem hlt)
      obtain ⟨r, hr, hsr⟩ := HMK.out ⟨a1_0, (rd_T25 l0 (j : Int)).f1, (rd_T25 l0 (j : Int)).f2⟩ ⟨w1_0, hwx.2⟩
      have HRR := Aside0.mk hr
      clear hr hwx
      have xx0 : wr.cell? ⟨g3, 0, none⟩ = some (.int .u8 a1_0) := (blk_cell BK3.out 0).trans rfl
      go_upto_region 10 with (fail)
      obtain ⟨g9, hg9⟩ : ∃ g9 : Nat, g9 = wr.heap.size := ⟨_, rfl⟩
      obtain ⟨V, hV⟩ : ∃ V : World, V = wr.alloc (.cells #[.int .u8 (rd_T25 l0 (j : Int)).f0, .int .u8 (rd_T25 l0 (j : Int)).f1, .int .u16 (rd_T25 l0 (j : Int)).f2] 25 (0, 0)) := ⟨_, rfl⟩
      rw [← hV, ← hg9]
      have BKV := Aside0.mk (show V.heap[g9]? = some (.cells #[.int .u8 (rd_T25 l0 (j : Int)).f0, .int .u8 (rd_T25 l0 (j : Int)).f1, .int .u16 (rd_T25 l0 (j : Int)).f2] 25 (0, 0)) from by rw [hV, hg9]; simpa using heap_alloc_new wr _)
      have HGE : wr.heap.size ≤ g9 := by rw [hg9]; exact Nat.le_refl _
      have HBV := Aside0.mk (show Below wr.heap.size wr V from by rw [hV]; exact below_alloc (Below.refl _ _) _)
      have BK3V := Aside0.mk (blk_below BK3.out HBV.out)
      have NE9 : g3 ≠ g9 := by have := blk_lt BK3.out; omega
      clear hV hg9 xx0
      have xx0 : V.cell? ⟨g3, 0, none⟩ = some (.int .u8 a1_0) := (blk_cell BK3V.out 0).trans rfl
      have z0 : V.cell? ⟨g9, 0, none⟩ = some (.int .u8 (rd_T25 l0 (j : Int)).f0) := (blk_cell BKV.out 0).trans rfl
      have y0 := blk_frozen BKV.out 0
      go_upto_region 11 with (fail)
      obtain ⟨U, hU⟩ : ∃ U : World, U = V.setCell ⟨g9, 0, none⟩ (.int .u8 a1_0) := ⟨_, rfl⟩
      rw [← hU]
      have BKU := Aside0.mk (show U.heap[g9]? = some (.cells #[.int .u8 a1_0, .int .u8 (rd_T25 l0 (j : Int)).f1, .int .u16 (rd_T25 l0 (j : Int)).f2] 25 (0, 0)) from by rw [hU]; refine blk_put (cs := #[.int .u8 (rd_T25 l0 (j : Int)).f0, .int .u8 (rd_T25 l0 (j : Int)).f1, .int .u16 (rd_T25 l0 (j : Int)).f2]) ?_ 0 _ rfl; exact BKV.out)
      have HBU := Aside0.mk (show Below wr.heap.size wr U from by rw [hU]; exact below_set HBV.out HGE)
      have BK3U := Aside0.mk (blk_below BK3.out HBU.out)
      have BK6U := Aside0.mk (blk_below BK6.out HBU.out)
      have HSU := Aside0.mk (source_Source_Lower.St_fr HS.out HBU.out)
      have HB4U := Aside0.mk (below_step HB.out HBU.out)
      clear hU y0 z0 xx0 BKV HBV BK3V HBU BK3 BK6 HS HB hx0 hx1 hx2
      have u0 : U.cell? ⟨g9, 0, none⟩ = some (.int .u8 a1_0) := (blk_cell BKU.out 0).trans rfl
      have u1 : U.cell? ⟨g9, 1, none⟩ = some (.int .u8 (rd_T25 l0 (j : Int)).f1) := (blk_cell BKU.out 1).trans rfl
      have u2 : U.cell? ⟨g9, 2, none⟩ = some (.int .u16 (rd_T25 l0 (j : Int)).f2) := (blk_cell BKU.out 2).trans rfl
      have c0 : U.cell? ⟨g6, 0, none⟩ = some (.int .u32 pa) := (blk_cell BK6U.out 0).trans rfl
      have c1 : U.cell? ⟨g6, 1, none⟩ = some (.int .u8 pn) := (blk_cell BK6U.out 1).trans rfl
      have BKD := Aside0.mk (blk_drew BKU.out)
      have BK3D := Aside0.mk (blk_drew BK3U.out)
      have BK6D := Aside0.mk (blk_drew BK6U.out)
      have HSD := Aside0.mk (source_Source_Lower.St_fr HSU.out (below_drew (Below.refl _ _)))
      have HBD := Aside0.mk (below_drew1 HB4U.out)
      clear u0 u1 u2 c0 c1 BKU BK3U BK6U HSU HB4U
      obtain ⟨b0, b1, hbb⟩ : ∃ b0 b1 : Int, ∀ m, cur = some m → serial_Best.f m.1 m.2 r (rd_T25 l0 (j : Int)).f2 = some (b0, b1) ∧ Ser b0 ∧ ∀ s m', Ser s → serial_Nearer.f s m' m.1 m.2 = some false → serial_Nearer.f s m' b0 b1 = some false := by
        cases cur with
        | none => exact ⟨0, 0, fun m h => by cases h⟩
        | some m =>
          obtain ⟨e, f, h1, h2, h3⟩ := HBE.out m.1 m.2 r (rd_T25 l0 (j : Int)).f2 (HSER.out m rfl) hsr
          exact ⟨e, f, fun m' h => by cases h; exact ⟨h1, h2, h3⟩⟩
      have HBB := Aside0.mk hbb
      clear hbb
      refine start_ (n := 5) (S := fun w' => w'.cell? ⟨g9, 0, none⟩ = some (.int .u8 a1_0) ∧ w'.cell? ⟨g9, 1, none⟩ = some (.int .u8 (rd_T25 l0 (j : Int)).f1) ∧ w'.cell? ⟨g9, 2, none⟩ = some (.int .u16 (rd_T25 l0 (j : Int)).f2) ∧ w'.cell? ⟨g6, 0, none⟩ = some (.int .u32 pa) ∧ w'.cell? ⟨g6, 1, none⟩ = some (.int .u8 pn)) (ds := []) #[false, false, false, false, false] (by kernel_rfl) rfl rfl ⟨(blk_cell BKD.out 0).trans rfl, (blk_cell BKD.out 1).trans rfl, (blk_cell BKD.out 2).trans rfl, (blk_cell BK6D.out 0).trans rfl, (blk_cell BK6D.out 1).trans rfl⟩ (fun hHeld => ?_)
      generalize U.drew = wd at BKD BK3D BK6D HSD HBD hHeld ⊢
      refine pure_ (i := 0) (N := some 36) (v := ?_) (a' := ?_) #[true, false, false, false, false] rfl rfl (by kernel_rfl) (fun _ _ _ h => h) (Or.inl ⟨by rfl, ?_⟩) ?_ ?_
      rotate_left
      · intro w'
        go_simp
        with_reducible rfl
      rotate_left
      · simp only [Act.put, List.setIfInBounds_toArray, List.set_cons_zero, List.set_cons_succ, i64_w, i32_w]
        rfl
      refine take_ (i := 1) (N := some 37) (v := ?_) (a' := ?_) #[true, true, false, false, false] rfl rfl (by kernel_rfl) (fun _ _ _ h => h) (Or.inl ⟨by rfl, ?_⟩) hHeld ?_ ?_
      rotate_left
      · rintro w' ⟨s0, s1, s2, s3, s4⟩
        go_simp
        with_reducible rfl
      rotate_left
      · simp only [Act.put, List.setIfInBounds_toArray, List.set_cons_zero, List.set_cons_succ, i64_w, i32_w]
        rfl
      refine take_ (i := 2) (N := some 38) (v := ?_) (a' := ?_) #[true, true, true, false, false] rfl rfl (by kernel_rfl) (fun _ _ _ h => h) (Or.inl ⟨by rfl, ?_⟩) hHeld ?_ ?_
      rotate_left
      · rintro w' ⟨s0, s1, s2, s3, s4⟩
        go_simp
        with_reducible rfl
      rotate_left
      · simp only [Act.put, List.setIfInBounds_toArray, List.set_cons_zero, List.set_cons_succ, i64_w, i32_w]
        rfl
      refine one_ (i := 3) (N := some 39) #[true, true, true, true, false] rfl rfl (by kernel_rfl) (by decide) (fun K hK => ?_)
      refine goes_ Try.func10 (by kernel_rfl) rfl #[.agg #[.int .u8 a1_0, .int .u8 (rd_T25 l0 (j : Int)).f1, .int .u16 (rd_T25 l0 (j : Int)).f2]] (by rfl) rfl rfl (by simp only [List.map_toArray, List.map_cons, List.map_nil]; rfl) ?_
      with_reducible refine (milestonelaw15_mark.calls a1_0 (rd_T25 l0 (j : Int)).f1 (rd_T25 l0 (j : Int)).f2 r (rd_T25 l0 (j : Int)).f2 _ HRR.out).mono ?_
      rintro e w10 ⟨rfl, hb⟩
      refine ⟨_, rfl, ?_⟩
      have n0_ := Aside0.mk (blk_below BKD.out hb)
      have n1_ := Aside0.mk (blk_below BK3D.out hb)
      have n2_ := Aside0.mk (blk_below BK6D.out hb)
      have n3_ := Aside0.mk (source_Source_Lower.St_fr HSD.out hb)
      have n4_ := Aside0.mk (below_then HBD.out HBD.out.size hb)
      clear BKD BK3D BK6D HSD HBD
      have BKD := n0_
      have BK3D := n1_
      have BK6D := n2_
      have HSD := n3_
      have HBD := n4_
      clear n0_ n1_ n2_ n3_ n4_
      clear hb
      refine hK.out _ _ ⟨(blk_cell BKD.out 0).trans rfl, (blk_cell BKD.out 1).trans rfl, (blk_cell BKD.out 2).trans rfl, (blk_cell BK6D.out 0).trans rfl, (blk_cell BK6D.out 1).trans rfl⟩ (fun hHeld => ?_)
      clear hK K
      refine norm_ (a' := ?_) ?_ ?_
      rotate_left
      · show Act.put _ (some 39) _ = _
        simp only [Act.put, List.setIfInBounds_toArray, List.set_cons_zero, List.set_cons_succ, i64_w, i32_w]
        rfl
      refine one_ (i := 4) (N := some 40) #[true, true, true, true, true] rfl rfl (by kernel_rfl) (by decide) (fun K hK => ?_)
      refine goes_ Try.func9 (by kernel_rfl) rfl #[.pointer (some ⟨g, 0, none⟩), .agg #[.int .u32 pa, .int .u8 pn], .agg #[.int .u16 r, .int .u16 (rd_T25 l0 (j : Int)).f2]] (by rfl) rfl rfl (by simp only [List.map_toArray, List.map_cons, List.map_nil]; rfl) ?_
      with_reducible refine (source_Source_Lower.one kp g w4.heap.size pa pn r (rd_T25 l0 (j : Int)).f2 cur b0 b1 w4 _ HSD.out HBD.out.size HBD.out hp2 hp3 (fun m h => (HBB.out m h).1)).mono ?_
      rintro e w11 ⟨he, hs, hb, hf⟩
      generalize (if (rd_T25 l0 (j : Int)).f2 = 65535 then (1 : Int) else 0) = ev at he
      subst he
      refine ⟨_, rfl, ?_⟩
      have n0_ := Aside0.mk ((hf.2 g9 25 _ BKD.out (by decide) (by decide)).trans BKD.out)
      have n1_ := Aside0.mk ((hf.2 g3 25 _ BK3D.out (by decide) (by decide)).trans BK3D.out)
      have n2_ := Aside0.mk ((hf.2 g6 31 _ BK6D.out (by decide) (by decide)).trans BK6D.out)
      have n3_ := Aside0.mk (hs)
      have n4_ := Aside0.mk (hb)
      clear BKD BK3D BK6D HSD HBD
      have BKD := n0_
      have BK3D := n1_
      have BK6D := n2_
      have HSD := n3_
      have HBD := n4_
      clear n0_ n1_ n2_ n3_ n4_
      clear hs hb hf
      refine hK.out _ _ ⟨(blk_cell BKD.out 0).trans rfl, (blk_cell BKD.out 1).trans rfl, (blk_cell BKD.out 2).trans rfl, (blk_cell BK6D.out 0).trans rfl, (blk_cell BK6D.out 1).trans rfl⟩ (fun hHeld => ?_)
      clear hK K
      refine norm_ (a' := ?_) ?_ ?_
      rotate_left
      · show Act.put _ (some 40) _ = _
        simp only [Act.put, List.setIfInBounds_toArray, List.set_cons_zero, List.set_cons_succ, i64_w, i32_w]
        rfl
      refine done_ (by kernel_rfl) ?_
      have hnx : (∀ m, source_Source_Lower.nextF cur r (rd_T25 l0 (j : Int)).f2 b0 b1 = some m → Ser m.1) ∧ (was = false → a1_2 ≠ 65535 ∧ ∃ m, source_Source_Lower.nextF cur r (rd_T25 l0 (j : Int)).f2 b0 b1 = some m ∧ serial_Nearer.f rx a1_2 m.1 m.2 = some false) := by
        unfold source_Source_Lower.nextF
        by_cases hm : (rd_T25 l0 (j : Int)).f2 = 65535
        · rw [if_pos hm]
          exact ⟨HSER.out, HWAS.out⟩
        · rw [if_neg hm]
          cases cur with
          | none =>
            refine ⟨fun m h => by cases h; exact hsr, fun h => ?_⟩
            obtain ⟨_, m, h1, _⟩ := HWAS.out h
            cases h1
          | some m =>
            obtain ⟨h1, h2, h3⟩ := HBB.out m rfl
            refine ⟨fun m' h => by cases h; exact h2, fun h => ?_⟩
            obtain ⟨h4, m', h5, h6⟩ := HWAS.out h
            cases h5
            exact ⟨h4, _, rfl, h3 _ _ hsx h6⟩
      generalize source_Source_Lower.nextF cur r (rd_T25 l0 (j : Int)).f2 b0 b1 = cur' at hnx HSD
      have HSER' := Aside0.mk hnx.1
      have HWAS' := Aside0.mk hnx.2
      clear hnx HSER HWAS HBB HRR
      obtain ⟨rn, hrn⟩ := HNR.out rx a1_2 (cur'.getD (0, 0)).1 (cur'.getD (0, 0)).2
      have hkey : was = false → ((a1_2 == 65535) || (!cur'.isSome || rn)) = false := fun h => by
        obtain ⟨h1, m, h2, h3⟩ := HWAS'.out h
        subst h2
        have h4 : some rn = some false := hrn.symm.trans h3
        injection h4 with h4
        simp [h1, h4]
      have hkey2 : ((a1_2 == 65535) || (!cur'.isSome || rn)) = false → a1_2 ≠ 65535 ∧ ∃ m, cur' = some m ∧ serial_Nearer.f rx a1_2 m.1 m.2 = some false := fun h => by
        rw [Bool.or_eq_false_iff, Bool.or_eq_false_iff] at h
        obtain ⟨h1, h2, h3⟩ := h
        refine ⟨by simpa using h1, ?_⟩
        cases cur' with
        | none => cases h2
        | some m => exact ⟨m, rfl, by rw [← h3]; exact hrn⟩
      obtain ⟨nw, hnw⟩ : ∃ nw : Bool, ((a1_2 == 65535) || (!cur'.isSome || rn)) = nw := ⟨_, rfl⟩
      rw [hnw] at hkey hkey2
      have HNW := Aside0.mk hnw
      have HK := Aside0.mk hkey
      have HK2 := Aside0.mk hkey2
      have HRN := Aside0.mk hrn
      clear hnw hkey hkey2 hrn hHeld
      go_upto_region 12 with (fail)
      have n0_ := Aside0.mk (blk_drew BK3D.out)
      have n1_ := Aside0.mk (blk_drew BK6D.out)
      have n2_ := Aside0.mk (source_Source_Lower.St_fr HSD.out (below_drew (Below.refl _ _)))
      have n3_ := Aside0.mk (below_drew1 HBD.out)
      clear BKD BK3D BK6D HSD HBD
      have BK3D := n0_
      have BK6D := n1_
      have HSD := n2_
      have HBD := n3_
      clear n0_ n1_ n2_ n3_
      refine start_ (n := 6) (S := fun w' => w'.cell? ⟨g3, 0, none⟩ = some (.int .u8 a1_0) ∧ w'.cell? ⟨g3, 1, none⟩ = some (.int .u8 a1_1) ∧ w'.cell? ⟨g3, 2, none⟩ = some (.int .u16 a1_2) ∧ w'.cell? ⟨g6, 0, none⟩ = some (.int .u32 pa) ∧ w'.cell? ⟨g6, 1, none⟩ = some (.int .u8 pn)) (ds := []) #[false, false, false, false, false, false] (by kernel_rfl) rfl rfl ⟨(blk_cell BK3D.out 0).trans rfl, (blk_cell BK3D.out 1).trans rfl, (blk_cell BK3D.out 2).trans rfl, (blk_cell BK6D.out 0).trans rfl, (blk_cell BK6D.out 1).trans rfl⟩ (fun hHeld => ?_)
      generalize w11.drew = wd2 at BK3D BK6D HSD HBD hHeld ⊢
      refine pure_ (i := 0) (N := some 41) (v := ?_) (a' := ?_) #[true, false, false, false, false, false] rfl rfl (by kernel_rfl) (fun _ _ _ h => h) (Or.inl ⟨by rfl, ?_⟩) ?_ ?_
      rotate_left
      · intro w'
        go_simp
        with_reducible rfl
      rotate_left
      · simp only [Act.put, List.setIfInBounds_toArray, List.set_cons_zero, List.set_cons_succ, i64_w, i32_w]
        rfl
      refine take_ (i := 1) (N := some 42) (v := ?_) (a' := ?_) #[true, true, false, false, false, false] rfl rfl (by kernel_rfl) (fun _ _ _ h => h) (Or.inl ⟨by rfl, ?_⟩) hHeld ?_ ?_
      rotate_left
      · rintro w' ⟨s0, s1, s2, s3, s4⟩
        go_simp
        with_reducible rfl
      rotate_left
      · simp only [Act.put, List.setIfInBounds_toArray, List.set_cons_zero, List.set_cons_succ, i64_w, i32_w]
        rfl
      refine take_ (i := 2) (N := some 43) (v := ?_) (a' := ?_) #[true, true, true, false, false, false] rfl rfl (by kernel_rfl) (fun _ _ _ h => h) (Or.inl ⟨by rfl, ?_⟩) hHeld ?_ ?_
      rotate_left
      · rintro w' ⟨s0, s1, s2, s3, s4⟩
        go_simp
        with_reducible rfl
      rotate_left
      · simp only [Act.put, List.setIfInBounds_toArray, List.set_cons_zero, List.set_cons_succ, i64_w, i32_w]
        rfl
      refine one_ (i := 3) (N := some 44) #[true, true, true, true, false, false] rfl rfl (by kernel_rfl) (by decide) (fun K hK => ?_)
      refine goes_ Try.func10 (by kernel_rfl) rfl #[.agg #[.int .u8 a1_0, .int .u8 a1_1, .int .u16 a1_2]] (by rfl) rfl rfl (by simp only [List.map_toArray, List.map_cons, List.map_nil]; rfl) ?_
      with_reducible refine (milestonelaw15_mark.calls a1_0 a1_1 a1_2 rx a1_2 _ HRX.out).mono ?_
      rintro e w12 ⟨rfl, hb⟩
      refine ⟨_, rfl, ?_⟩
      have n0_ := Aside0.mk (blk_below BK3D.out hb)
      have n1_ := Aside0.mk (blk_below BK6D.out hb)
      have n2_ := Aside0.mk (source_Source_Lower.St_fr HSD.out hb)
      have n3_ := Aside0.mk (below_then HBD.out HBD.out.size hb)
      clear BK3D BK6D HSD HBD
      have BK3D := n0_
      have BK6D := n1_
      have HSD := n2_
      have HBD := n3_
      clear n0_ n1_ n2_ n3_
      clear hb
      refine hK.out _ _ ⟨(blk_cell BK3D.out 0).trans rfl, (blk_cell BK3D.out 1).trans rfl, (blk_cell BK3D.out 2).trans rfl, (blk_cell BK6D.out 0).trans rfl, (blk_cell BK6D.out 1).trans rfl⟩ (fun hHeld => ?_)
      clear hK K
      refine norm_ (a' := ?_) ?_ ?_
      rotate_left
      · show Act.put _ (some 44) _ = _
        simp only [Act.put, List.setIfInBounds_toArray, List.set_cons_zero, List.set_cons_succ, i64_w, i32_w]
        rfl
      refine one_ (i := 4) (N := some 45) #[true, true, true, true, true, false] rfl rfl (by kernel_rfl) (by decide) (fun K hK => ?_)
      refine goes_ Try.func11 (by kernel_rfl) rfl #[.pointer (some ⟨g, 0, none⟩), .agg #[.int .u32 pa, .int .u8 pn], .agg #[.int .u16 rx, .int .u16 a1_2]] (by rfl) rfl rfl (by simp only [List.map_toArray, List.map_cons, List.map_nil]; rfl) ?_
      with_reducible refine (milestonelaw15_SourceSinks.feas2 kp g w4.heap.size pa pn rx a1_2 cur' rn nw _ HSD.out hp3 HRN.out HNW.out).mono ?_
      rintro e w13 ⟨rfl, hb⟩
      refine ⟨_, rfl, ?_⟩
      have n0_ := Aside0.mk (blk_below BK3D.out hb)
      have n1_ := Aside0.mk (blk_below BK6D.out hb)
      have n2_ := Aside0.mk (source_Source_Lower.St_fr HSD.out hb)
      have n3_ := Aside0.mk (below_then HBD.out HBD.out.size hb)
      clear BK3D BK6D HSD HBD
      have BK3D := n0_
      have BK6D := n1_
      have HSD := n2_
      have HBD := n3_
      clear n0_ n1_ n2_ n3_
      clear hb
      refine hK.out _ _ ⟨(blk_cell BK3D.out 0).trans rfl, (blk_cell BK3D.out 1).trans rfl, (blk_cell BK3D.out 2).trans rfl, (blk_cell BK6D.out 0).trans rfl, (blk_cell BK6D.out 1).trans rfl⟩ (fun hHeld => ?_)
      clear hK K
      refine norm_ (a' := ?_) ?_ ?_
      rotate_left
      · show Act.put _ (some 45) _ = _
        simp only [Act.put, List.setIfInBounds_toArray, List.set_cons_zero, List.set_cons_succ, i64_w, i32_w]
        rfl
      refine pure_ (i := 5) (N := some 10) (v := ?_) (a' := ?_) #[true, true, true, true, true, true] rfl rfl (by kernel_rfl) (fun _ _ _ h => h) (Or.inl ⟨by rfl, ?_⟩) ?_ ?_
      rotate_left
      · intro w'
        go_simp
        with_reducible rfl
      rotate_left
      · simp only [Act.put, List.setIfInBounds_toArray, List.set_cons_zero, List.set_cons_succ, i64_w, i32_w]
        rfl
      refine done_ (by kernel_rfl) ?_
      clear hHeld HNW
      cases nw
      · go_wp2_with (fail)
        go_roundg (l0.length - (j + 1))
        case measure => omega
        case rel => exact ⟨j + 1, cur', false, rfl, by go_num, by omega, Nat.le_refl _, HSD, HBD, BK6D, BK3D, HSER', ⟨fun _ => HK2.out (by trivial)⟩⟩
      · cases was
        · exact absurd (HK.out (by trivial)) (by decide)
        · go_wp2_with (fail)
          go_roundg (l0.length - (j + 1))
          case measure => omega
          case rel => exact ⟨j + 1, cur', true, rfl, by go_num, by omega, Nat.le_refl _, HSD, HBD, BK6D, BK3D, HSER', ⟨fun h => by cases h⟩⟩
    · have p1 : decide ((j : Int) < (l0.length : Int)) = false := decide_eq_false (by omega)
      go_wp2_with (fail)
      go_ret
      exact ⟨rfl, below_step HB4.out HB.out⟩

end Go.Proofs.Ytkngncckidlniaa.QSourceSinks
