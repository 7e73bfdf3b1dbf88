-- Lines by a program of this session, for this claim.
import Derived.Test.YtnfdgpmdakciiaaQMessageReadsx0
import Derived.Test.YtnfdgpmdakciiaaQMessageReadsx1
import Derived.Test.YtnfdgpmdakciiaaQMessageReadsx2
import Derived.Test.YtnfdgpmdakciiaaQMessageReadsx3
import Derived.Test.YtnfdgpmdakciiaaQMessageReadsx4
import Derived.Test.YtnfdgpmdakciiaaQMessageReadsx5
import Derived.Test.YtnfdgpmdakciiaaQMessageReadsx6
import Derived.Test.YtnfdgpmdakciiaaQMessageReadsx7
import Derived.Test.YtnfdgpmdakciiaaQMessageReadsx8
import Derived.Test.YtnfdgpmdakciiaaQMessageReadsx9
import Derived.Test.YtnfdgpmdakciiaaQMessageReadsx10
namespace Go.Proofs.Ytnfdgpmdakciiaa.QMessageReads
open Go.RowKit Go.Proofs.YtnfdgpmdakciiaaW.PrintWords Go.Proofs.YtnfdgpmdakciiaaW.PrintLast Go.Proofs.YtnfdgpmdakciiaaW.PrintMore
attribute [local go_sem] max2_int min2_int max_two min_two max_three min_three max_four min_four   -- for this text's walks alone
set_option linter.unusedVariables false
set_option linter.unusedSimpArgs false

def milestonelaw13_MessageReads.Pure : Prop := (∃ k, milestonelaw13_awake.f k = some true) ∧ (∀ a2_0 a2_1 a2_2 a2_3 a2_4 a2_5 a2_6 : Int, (Lit.int .u8 a2_0).wf = true → (Lit.int .u64 a2_1).wf = true → (Lit.int .i64 a2_2).wf = true → (Lit.int .u32 a2_3).wf = true → (Lit.int .u8 a2_4).wf = true → (Lit.int .u16 a2_5).wf = true → (Lit.int .u16 a2_6).wf = true → ∃ (k : Nat) (p1 p2 p3 p4 p5 p6 p7 : Int) (b : List Int), milestonelaw13_near.f k a2_0 a2_1 a2_2 a2_3 a2_4 a2_5 a2_6 = some (p1, p2, p3, p4, p5, p6, p7) ∧ milestonelaw13_bytes.f k p1 p2 p3 p4 p5 p6 p7 = some b ∧ (∀ n ∈ b, (Lit.int .u8 n).wf = true) ∧ b.length ≤ 100) ∧ (∀ l : List Int, (∀ n ∈ l, (Lit.int .u8 n).wf = true) → l.length ≤ 110 → ∃ (k : Nat) (pk : List Int) (fr : Int) (ps : List S28) (n e : Int), milestonelaw13_packet.f k l = some pk ∧ message_Decode.f k pk = some (fr, ps, n, e) ∧ (e = 0 → n = 0 → message_Encode.f k fr ps = some pk) ∧ (e ≠ 0 → fr = 0 ∧ ps = [] ∧ n = 0))
theorem xor8_bd (a b : Int) : 0 ≤ Go.bits .xor .u8 a b ∧ Go.bits .xor .u8 a b ≤ 255 := by
  have h : ∀ n : Int, 0 ≤ IntKind.u8.wrap n ∧ IntKind.u8.wrap n ≤ 255 := fun n => by show 0 ≤ n % 256 ∧ n % 256 ≤ 255; omega
  exact h _
set_option maxHeartbeats 8000000 in
set_option maxRecDepth 100000 in
theorem milestonelaw13_MessageReads.walk (P : milestonelaw13_MessageReads.Pure) (a0 : Option Addr) (len0 cap0 : Nat) (z0 : List Int) (a1 : Int) (a2_0 a2_1 a2_2 a2_3 a2_4 a2_5 a2_6 : Int) (a3 a4 : Int) (w : World) (w0 : (a0 = none ∧ len0 = 0 ∧ cap0 = 0 ∧ z0 = []) ∨ ∃ x, a0 = some x ∧ len0 ≤ cap0 ∧ cap0 ≤ maxLen ∧ z0.length = cap0 ∧ (∀ i, i < z0.length → w.cell? (x.add i) = some (.int .u8 (z0.getD i 0))) ∧ ∀ n ∈ z0, (Lit.int .u8 n).wf = true) (y0 : len0 * 1 ≤ 140737488351232) (w1 : (Lit.int .u8 a1).wf = true) (w2_0 : (Lit.int .u8 a2_0).wf = true) (w2_1 : (Lit.int .u64 a2_1).wf = true) (w2_2 : (Lit.int .i64 a2_2).wf = true) (w2_3 : (Lit.int .u32 a2_3).wf = true) (w2_4 : (Lit.int .u8 a2_4).wf = true) (w2_5 : (Lit.int .u16 a2_5).wf = true) (w2_6 : (Lit.int .u16 a2_6).wf = true) (w3 : (Lit.int .u8 a3).wf = true) (w4 : (Lit.int .u8 a4).wf = true) :
    Calls Try.prog 6 #[.slice a0 len0 cap0, .int .u8 a1, .agg #[.int .u8 a2_0, .int .u64 a2_1, .int .i64 a2_2, .int .u32 a2_3, .int .u8 a2_4, .int .u16 a2_5, .int .u16 a2_6], .int .u8 a3, .int .u8 a4] w fun e w' => e = .returned (.bool true) ∧ Below w.heap.size w w' := by
  obtain ⟨l0, rfl, hr0, hm0, hw0, hc0⟩ := ReadsInt.ofRowC w0
  clear w0 z0
  obtain ⟨⟨ka, hka⟩, P2, P3⟩ := P
  have HA := Aside0.mk hka
  have HR := Aside0.mk (Kd.C_of_reads (d := (0 : Int)) (h1 := fun _ => rfl) hr0)
  have HC := Aside0.mk hc0
  have HW := Aside0.mk hw0
  have HP2 := Aside0.mk (P2 a2_0 a2_1 a2_2 a2_3 a2_4 a2_5 a2_6 w2_0 w2_1 w2_2 w2_3 w2_4 w2_5 w2_6)
  have HP3 := Aside0.mk P3
  have hb1 := Go.bounds_u8 w1
  have hb3 := Go.bounds_u8 w3
  have hb4 := Go.bounds_u8 w4
  clear hka hr0 hc0 hw0 P2 P3 w1 w3 w4 w2_0 w2_1 w2_2 w2_3 w2_4 w2_5 w2_6
  by_cases hlen : l0.length ≤ 60
  · have e1 : decide (60 < (l0.length : Int)) = false := decide_eq_false (by omega)
    have e2 : decide (60 < l0.length) = false := decide_eq_false (by omega)
    obtain ⟨kb, p1, p2, p3, p4, p5, p6, p7, b, hN, hB, hbw, hbl⟩ := HP2.out
    have HN := Aside0.mk hN
    have HBY := Aside0.mk hB
    have HBW := Aside0.mk hbw
    clear hN hB hbw HP2
    go_enter Try.func6, Try.ntmps6
    go_wp2_with (((with_reducible refine gate_dst (N := 7) rfl ?_); (try (refine gate_guard (by rfl) ?_; dsimp only)); refine box_event ?hg (N := 7) ?hd (cs := #[.int .u8 a2_0, .int .u64 a2_1, .int .i64 a2_2, .int .u32 a2_3, .int .u8 a2_4, .int .u16 a2_5, .int .u16 a2_6]) (t := 28) ?hr ?_; (case hd => rfl); (case hg => rfl); (case hr => first | (go_simp; done) | (go_simp; rfl)); intro gx hg wx hbox hb; have BKX := Aside0.mk hbox; have HBX := Aside0.mk hb; clear hb hbox hg))
    refine (milestonelaw13_awake.calls ka true _ HA.out).mono ?_
    rintro e w1 ⟨rfl, hb⟩
    have HB := Aside0.mk (below_step HBX.out hb)
    have BKX1 := Aside0.mk (blk_below BKX.out hb)
    clear hb BKX
    have HS := Aside0.mk (show Kd.C (Kd.int .u8) w1 a0 l0.length l0 from Kd.C_below HR.out HB.out)
    have hx0 : w1.cell? ⟨gx, 0, none⟩ = some (.int .u8 a2_0) := (blk_cell BKX1.out 0).trans rfl
    have hx1 : w1.cell? ⟨gx, 1, none⟩ = some (.int .u64 a2_1) := (blk_cell BKX1.out 1).trans rfl
    have hx2 : w1.cell? ⟨gx, 2, none⟩ = some (.int .i64 a2_2) := (blk_cell BKX1.out 2).trans rfl
    have hx3 : w1.cell? ⟨gx, 3, none⟩ = some (.int .u32 a2_3) := (blk_cell BKX1.out 3).trans rfl
    have hx4 : w1.cell? ⟨gx, 4, none⟩ = some (.int .u8 a2_4) := (blk_cell BKX1.out 4).trans rfl
    have hx5 : w1.cell? ⟨gx, 5, none⟩ = some (.int .u16 a2_5) := (blk_cell BKX1.out 5).trans rfl
    have hx6 : w1.cell? ⟨gx, 6, none⟩ = some (.int .u16 a2_6) := (blk_cell BKX1.out 6).trans rfl
    go_wp2_with ((with_reducible refine gate_dst (N := 27) rfl ?_); refine Kd.R_lit (Kd.int .u8) _ 5 ?hg (N := 27) ?hd (xs := ([1, a1 % 16] : List Int)) (inner := [.int .u8 1, .int .u8 (a1 % 16)]) (ok := fun _ => True) (okp := fun _ => True) ?hr ?hp (fun _ hk => hk) trivial (Below.refl _ _) (Nat.le_refl _) (by simp) ?_; (case hd => rfl); (case hg => rfl); (case hr => first | (go_simp; done) | (go_simp; rfl)); (case hp => exact (Reps.one (show Kd.M (Kd.int .u8) _ _ _ _ [.int .u8 _] from rfl) (Reps.one (show Kd.M (Kd.int .u8) _ _ _ _ [.int .u8 _] from rfl) (Reps.none _ _)))))
    intro v2 w2 ho2 hb2 hg2 gb hgb hgl
    have HO2 := Aside0.mk ho2
    have HB2 := Aside0.mk hb2
    have BKX2 := Aside0.mk (blk_below BKX1.out hb2)
    clear ho2 hb2 hg2 hgb hgl hx0 hx1 hx2 hx3 hx4 hx5 hx6
    have hx0 : w2.cell? ⟨gx, 0, none⟩ = some (.int .u8 a2_0) := (blk_cell BKX2.out 0).trans rfl
    have hx1 : w2.cell? ⟨gx, 1, none⟩ = some (.int .u64 a2_1) := (blk_cell BKX2.out 1).trans rfl
    have hx2 : w2.cell? ⟨gx, 2, none⟩ = some (.int .i64 a2_2) := (blk_cell BKX2.out 2).trans rfl
    have hx3 : w2.cell? ⟨gx, 3, none⟩ = some (.int .u32 a2_3) := (blk_cell BKX2.out 3).trans rfl
    have hx4 : w2.cell? ⟨gx, 4, none⟩ = some (.int .u8 a2_4) := (blk_cell BKX2.out 4).trans rfl
    have hx5 : w2.cell? ⟨gx, 5, none⟩ = some (.int .u16 a2_5) := (blk_cell BKX2.out 5).trans rfl
    have hx6 : w2.cell? ⟨gx, 6, none⟩ = some (.int .u16 a2_6) := (blk_cell BKX2.out 6).trans rfl
    go_wp2_with (fail)
    refine (milestonelaw13_near.calls kb a2_0 a2_1 a2_2 a2_3 a2_4 a2_5 a2_6 p1 p2 p3 p4 p5 p6 p7 _ HN.out).mono ?_
    rintro e w3 ⟨rfl, hb⟩
    have HO3 := Aside0.mk (Kd.R_below HO2.out hb)
    have HB3 := Aside0.mk (below_step HB2.out hb)
    clear hb hx0 hx1 hx2 hx3 hx4 hx5 hx6
    go_wp2_with (fail)
    refine (milestonelaw13_bytes.calls kb p1 p2 p3 p4 p5 p6 p7 b _ HBY.out).mono ?_
    rintro e w4 ⟨v4, rfl, ho, hb⟩
    obtain ⟨Ab, cb, hv4, hlb, hCb⟩ := Kd.R_reads ho
    subst hv4
    have HCb := Aside0.mk hCb
    have HO4 := Aside0.mk (Kd.R_below HO3.out hb)
    have HB4 := Aside0.mk (below_step HB3.out hb)
    clear hb ho hCb
    go_wp2_with ((with_reducible refine gate_builtin (b := .append) (xs := #[.tmp 27, .tmp 30]) rfl ?_); at_builtin; refine Kd.R_append_rows (Kd.int .u8) (w0 := w1) w1.heap.size rfl (.tmp 27) (.tmp 30) 30 5 (.int .u8 0) 1 rfl Try.underlying30 info5 rfl (by decide) (by omega) v2 ([1, a1 % 16] : List Int) b Ab b.length cb (fun _ => True) (fun _ => False) rfl rfl HO4.out HCb.out (fun _ _ h => h) (fun _ h => h.elim) (fun _ _ => trivial) HB4.out (below_size HB4.out) (by simp; omega) ?_)
    intro v5 w5 ho5 hb5 hg5 hat5
    obtain ⟨q, hq⟩ : ∃ q : List Int, q = (1 :: (a1 % 16) :: b) := ⟨_, rfl⟩
    rw [← hq] at ho5
    have HQL := Aside0.mk (show q.length = b.length + 2 by rw [hq]; simp)
    have HQ := Aside0.mk hq
    have HQW := Aside0.mk (show ∀ n ∈ q, (Lit.int .u8 n).wf = true from by
      intro n hn
      rw [hq, List.mem_cons, List.mem_cons] at hn
      rcases hn with rfl | rfl | hn
      · exact Go.WalkArith.wf_u8 ⟨by omega, by omega⟩
      · exact Go.WalkArith.wf_u8 ⟨by omega, by omega⟩
      · exact HBW.out n hn)
    have hq2 : 2 ≤ q.length := by have := HQL.out; omega
    obtain ⟨go5, co5, eo5, gb5, gl5, cl5, HG5⟩ := Kd.R_form ho5 (by omega)
    cases eo5
    have HO5 := Aside0.mk ho5
    have HB5 := Aside0.mk hb5
    have GB5 := Aside0.mk gb5
    clear ho5 hb5 hg5 hat5 gb5 gl5 cl5 HG5 hq
    obtain ⟨j, hj⟩ : ∃ j : Nat, j = a3.toNat % q.length := ⟨_, rfl⟩
    have hjl : j < q.length := by rw [hj]; exact Nat.mod_lt _ (by omega)
    have hjm : Int.tmod a3 (q.length : Int) = (j : Int) := by rw [hj, show a3 = ((a3.toNat : Nat) : Int) by omega]; rfl
    have hjm2 : a3 % (q.length : Int) = (j : Int) := by rw [← hjm]; exact (Int.tmod_eq_emod_of_nonneg (by omega)).symm
    clear hj
    obtain ⟨hxj, hfj⟩ := Kd.R_celln 0 HO5.out (j : Int) (by omega) (by omega)
    simp only [Int.toNat_natCast] at hxj hfj
    have hv0 := Go.bounds_u8 (HQW.out (rdOf 0 q (j : Int)) (by unfold rdOf; rw [Int.toNat_natCast, List.getD_eq_getElem?_getD, List.getElem?_eq_getElem hjl]; exact List.getElem_mem hjl))
    obtain ⟨v0, hv00⟩ : ∃ v0 : Int, v0 = rdOf 0 q (j : Int) := ⟨_, rfl⟩
    rw [← hv00] at hxj hv0
    clear hv00
    have p1 : decide (0 ≤ (j : Int)) = true := decide_eq_true (by omega)
    have p2 : decide ((j : Int) < (q.length : Int)) = true := decide_eq_true (by omega)
    have p3 : ((q.length : Int) == 0) = false := beq_eq_false_iff_ne.mpr (by omega)
    go_upto_region 5 with (fail)
    obtain ⟨V, hV⟩ : ∃ V : Int, V = Go.bits .xor .u8 v0 a4 := ⟨_, rfl⟩
    have hVb : 0 ≤ V ∧ V ≤ 255 := by rw [hV]; exact xor8_bd v0 a4
    obtain ⟨w6, hw6⟩ : ∃ w6 : World, w6 = w5.setCell ⟨go5, j, none⟩ (.int .u8 (Go.bits .xor .u8 v0 a4)) := ⟨_, rfl⟩
    rw [← hw6]
    have HP6 := Kd.R_putg HO5.out (j : Int) V
    rw [Int.toNat_natCast, hV, ← hw6] at HP6
    obtain ⟨q2, hq2s⟩ : ∃ q2 : List Int, q2 = q.set j V := ⟨_, rfl⟩
    rw [← hV, ← hq2s] at HP6
    have HQ2L := Aside0.mk (show q2.length = q.length by rw [hq2s, List.length_set])
    have HQ2W := Aside0.mk (show ∀ n ∈ q2, (Lit.int .u8 n).wf = true from by
      intro n hn
      rw [hq2s] at hn
      rcases List.mem_or_eq_of_mem_set hn with hn | rfl
      · exact HQW.out n hn
      · exact Go.WalkArith.wf_u8 ⟨by omega, by omega⟩)
    have HC6 := Aside0.mk (show Kd.C (Kd.int .u8) w6 (some ⟨go5, 0, none⟩) q2.length q2 from (Kd.R_reads' HP6.1).2.2)
    have HL6 := Aside0.mk (show q2.length ≤ co5 from by rw [HQ2L.out]; exact (Kd.R_reads' HP6.1).2.1)
    have HB6 := Aside0.mk (show Below w1.heap.size w1 w6 from by rw [hw6]; exact below_set HB5.out GB5.out)
    have HS6 := Aside0.mk (Kd.C_below HS.out HB6.out)
    rw [show q.length = q2.length from HQ2L.out.symm]
    clear HP6 hq2s hw6 hxj hfj p1 p2 p3 HO5 HB5 GB5 hV hVb hv0 hjm hjm2
    go_wp2_with ((with_reducible refine gate_dst (N := 45) rfl ?_); refine Kd.R_lit (Kd.int .u8) _ 5 ?hg (N := 45) ?hd (xs := ([1] : List Int)) (inner := [.int .u8 1]) (ok := fun _ => True) (okp := fun _ => True) ?hr ?hp (fun _ hk => hk) trivial (Below.refl _ _) (Nat.le_refl _) (by simp) ?_; (case hd => rfl); (case hg => rfl); (case hr => first | (go_simp; done) | (go_simp; rfl)); (case hp => exact (Reps.one (show Kd.M (Kd.int .u8) _ _ _ _ [.int .u8 _] from rfl) (Reps.none _ _))))
    intro v7 w7 ho7 hb7 hg7 gb7 hgb7 hgl7
    have HO7 := Aside0.mk ho7
    have HB7 := Aside0.mk hb7
    have HS7 := Aside0.mk (Kd.C_below HS6.out hb7)
    clear ho7 hb7 hg7 hgb7 hgl7
    go_wp2_with ((with_reducible refine gate_builtin (b := .append) (xs := #[.tmp 45, .tmp 46]) rfl ?_); at_builtin; refine Kd.R_append_rows (Kd.int .u8) (w0 := w6) w6.heap.size rfl (.tmp 45) (.tmp 46) 30 5 (.int .u8 0) 1 rfl Try.underlying30 info5 rfl (by decide) (by omega) v7 ([1] : List Int) l0 a0 l0.length cap0 (fun _ => True) (fun _ => False) rfl rfl HO7.out HS7.out (fun _ _ h => h) (fun _ h => h.elim) (fun _ _ => trivial) HB7.out (below_size HB7.out) (by simp; omega) ?_)
    intro v8 wl ho8 hb8 hg8 hat8
    obtain ⟨r3, hr3⟩ : ∃ r3 : List Int, r3 = (1 :: l0) := ⟨_, rfl⟩
    rw [← hr3] at ho8
    obtain ⟨A8, c8, hv8, hl8, hC8⟩ := Kd.R_reads ho8
    subst hv8
    have HC8 := Aside0.mk hC8
    have HL8 := Aside0.mk hl8
    have HR3L := Aside0.mk (show r3.length = l0.length + 1 by rw [hr3, List.length_cons])
    have HR3W := Aside0.mk (show ∀ n ∈ r3, (Lit.int .u8 n).wf = true from by
      intro n hn
      rw [hr3, List.mem_cons] at hn
      rcases hn with rfl | hn
      · exact Go.WalkArith.wf_u8 ⟨by omega, by omega⟩
      · exact HW.out n hn)
    have HBl := Aside0.mk (below_step HB.out (below_step HB6.out hb8))
    have HS8 := Aside0.mk (Kd.C_below HS6.out hb8)
    have HC68 := Aside0.mk (Kd.C_below HC6.out hb8)
    clear ho8 hb8 hg8 hat8 hC8 hl8 hr3 HO7 HB7 HS7 HC6 HS6 HB6
    go_wp2_with (fail)
    have hblk : (wl.alloc (.cells #[.slice a0 l0.length cap0, .slice (some ⟨go5, 0, none⟩) q2.length co5, .slice A8 r3.length c8] 30 (0, 0))).heap[wl.heap.size]? = some (.cells #[.slice a0 l0.length cap0, .slice (some ⟨go5, 0, none⟩) q2.length co5, .slice A8 r3.length c8] 30 (0, 0)) := by simpa using heap_alloc_new wl _
    have HBK := Aside0.mk hblk
    clear hblk
    go_loopw [50] (fun v50 wr => ∃ i : Nat, i ≤ 3 ∧ v50 = .int .i64 i ∧ Aside0 (wr.heap[wl.heap.size]? = some (.cells #[.slice a0 l0.length cap0, .slice (some ⟨go5, 0, none⟩) q2.length co5, .slice A8 r3.length c8] 30 (0, 0))) ∧ Aside0 (Below wl.heap.size wl wr)) (fun v50 _ => 3 - (intOf v50).toNat)
    case atStart => exact ⟨0, by omega, rfl, HBK, ⟨below_alloc (Below.refl _ _) _⟩⟩
    case round =>
      clear HBK
      obtain ⟨i, hi, rfl, HBK, HBW⟩ := hrel
      have hcell0 : wr.cell? ⟨wl.heap.size, 0, none⟩ = some (.slice a0 l0.length cap0) := blk_cell HBK.out 0
      have hcell1 : wr.cell? ⟨wl.heap.size, 1, none⟩ = some (.slice (some ⟨go5, 0, none⟩) q2.length co5) := blk_cell HBK.out 1
      have hcell2 : wr.cell? ⟨wl.heap.size, 2, none⟩ = some (.slice A8 r3.length c8) := blk_cell HBK.out 2
      obtain rfl | rfl | rfl | rfl : i = 0 ∨ i = 1 ∨ i = 2 ∨ i = 3 := by omega
      · obtain ⟨k, pk, fr, prts, n, e, h1, h2, h3, h4⟩ := HP3.out l0 HW.out (by omega)
        have H1 := Aside0.mk h1
        have H2 := Aside0.mk h2
        have H3 := Aside0.mk h3
        have H4 := Aside0.mk h4
        clear h1 h2 h3 h4
        have HCl := Aside0.mk (Kd.C_below HS8.out HBW.out)
        go_wp2_with (fail)
        refine (milestonelaw13_packet.calls k a0 cap0 l0 pk _ HCl.out HC.out H1.out).mono ?_
        rintro e_ w10 ⟨v10, rfl, ho, hb⟩
        obtain ⟨Ap, cp, hv, hlp, hCp⟩ := Kd.R_reads ho
        subst hv
        have HCp := Aside0.mk hCp
        have HBr := Aside0.mk hb
        have HCl1 := Aside0.mk (Kd.C_below HCl.out hb)
        clear hb ho hCp HCl
        go_wp2_with (fail)
        refine (message_Decode.calls k Ap cp pk fr prts n e _ HCp.out hlp H2.out).mono ?_
        rintro e_ w11 ⟨v11, rfl, ho, hb⟩
        obtain ⟨Aq, cq, hv, hlq, hCq⟩ := Kd.R_reads ho
        subst hv
        have HCq := Aside0.mk hCq
        have HBr1 := Aside0.mk (below_step HBr.out hb)
        have HCl2 := Aside0.mk (Kd.C_below HCl1.out hb)
        clear hb ho hCq HCl1 HBr HCp hcell0 hcell1 hcell2
        go_wp2_with (((with_reducible refine gate_dst (N := 14) rfl ?_); (try (refine gate_guard (by rfl) ?_; dsimp only)); refine box_event ?hg (N := 14) ?hd (cs := #[.int .i64 0, .slice none 0 0]) (t := 34) ?hr ?_; (case hd => rfl); (case hg => rfl); (case hr => first | (go_simp; done) | (go_simp; rfl)); intro gp hg wp hbox hb; have BKp := Aside0.mk hbox; have HBp := Aside0.mk hb; have GEp := Aside0.mk (Nat.le_of_eq hg.symm : w11.heap.size ≤ gp); clear hb hbox hg; have hz0 : wp.cell? ⟨gp, 0, none⟩ = some (.int .i64 0) := (blk_cell BKp.out 0).trans rfl; have hz1 : wp.cell? ⟨gp, 1, none⟩ = some (.slice none 0 0) := (blk_cell BKp.out 1).trans rfl; have hy0 := blk_frozen BKp.out 0; have hy1 := blk_frozen BKp.out 1))
        obtain ⟨W, hW⟩ : ∃ W : World, W = ((wp.setCell ⟨gp, 0, none⟩ (.int .i64 fr)).setCell ⟨gp, 1, none⟩ (.slice Aq prts.length cq)) := ⟨_, rfl⟩
        rw [← hW]
        have HBW2 := Aside0.mk (show Below w11.heap.size w11 W from by rw [hW]; exact below_set (below_set HBp.out GEp.out) GEp.out)
        have BKW := Aside0.mk (show W.heap[gp]? = some (.cells #[.int .i64 fr, .slice Aq prts.length cq] 34 (0, 0)) from by rw [hW]; refine blk_put (cs := #[.int .i64 fr, .slice none 0 0]) ?_ 1 _ rfl; refine blk_put (cs := #[.int .i64 0, .slice none 0 0]) ?_ 0 _ rfl; exact BKp.out)
        have HBD := Aside0.mk (below_step HBr1.out HBW2.out)
        have HClD := Aside0.mk (Kd.C_drew (Kd.C_below HCl2.out HBW2.out))
        have HCqD := Aside0.mk (Kd.C_drew (Kd.C_below HCq.out HBW2.out))
        clear hW BKp HBp GEp HBr1 HBW2 HCl2 HCq hz0 hz1 hy0 hy1
        by_cases ce : e = 0
        · subst ce
          by_cases cn : n = 0
          · subst cn
            have HE3 := Aside0.mk (H3.out rfl rfl)
            have BKD := Aside0.mk (blk_drew BKW.out)
            have HBD2 := Aside0.mk (below_drew1 HBD.out)
            clear HBD BKW
            have HBD := HBD2
            clear HBD2
            refine start_ (n := 15) (S := fun w' => w'.cell? ⟨gp, 0, none⟩ = some (.int .i64 fr) ∧ w'.cell? ⟨gp, 1, none⟩ = some (.slice Aq prts.length cq)) (ds := []) #[false, false, false, false, false, false, false, false, false, false, false, false, false, false, false] (by kernel_rfl) rfl rfl ⟨(blk_cell BKD.out 0).trans rfl, (blk_cell BKD.out 1).trans rfl⟩ (fun hHeld => ?_)
            generalize W.drew = w20 at BKD HBD HClD HCqD hHeld ⊢
            refine pure_ (i := 0) (N := some 61) (v := ?_) (a' := ?_) #[true, false, false, false, false, false, false, false, false, false, false, false, false, false, false] rfl rfl (by kernel_rfl) (fun _ _ _ h => h) (Or.inl ⟨by rfl, ?_⟩) ?_ ?_
            rotate_left
            · intro w'
              go_simp
              with_reducible rfl
            rotate_left
            · simp only [Act.put, List.setIfInBounds_toArray, List.set_cons_zero, List.set_cons_succ, i64_w, i32_w]
              rfl
            refine pure_ (i := 1) (N := some 62) (v := ?_) (a' := ?_) #[true, true, false, false, false, false, false, false, false, false, false, false, false, false, false] rfl rfl (by kernel_rfl) (fun _ _ _ h => h) (Or.inl ⟨by rfl, ?_⟩) ?_ ?_
            rotate_left
            · intro w'
              go_simp
              with_reducible rfl
            rotate_left
            · simp only [Act.put, List.setIfInBounds_toArray, List.set_cons_zero, List.set_cons_succ, i64_w, i32_w]
              rfl
            refine pure_ (i := 2) (N := some 63) (v := ?_) (a' := ?_) #[true, true, true, false, false, false, false, false, false, false, false, false, false, false, false] rfl rfl (by kernel_rfl) (fun _ _ _ h => h) (Or.inl ⟨by rfl, ?_⟩) ?_ ?_
            rotate_left
            · intro w'
              go_simp
              with_reducible rfl
            rotate_left
            · simp only [Act.put, List.setIfInBounds_toArray, List.set_cons_zero, List.set_cons_succ, i64_w, i32_w]
              rfl
            refine pure_ (i := 3) (N := some 64) (v := ?_) (a' := ?_) #[true, true, true, true, false, false, false, false, false, false, false, false, false, false, false] rfl rfl (by kernel_rfl) (fun _ _ _ h => h) (Or.inl ⟨by rfl, ?_⟩) ?_ ?_
            rotate_left
            · intro w'
              go_simp
              with_reducible rfl
            rotate_left
            · simp only [Act.put, List.setIfInBounds_toArray, List.set_cons_zero, List.set_cons_succ, i64_w, i32_w]
              rfl
            refine pure_ (i := 4) (N := some 65) (v := ?_) (a' := ?_) #[true, true, true, true, true, false, false, false, false, false, false, false, false, false, false] rfl rfl (by kernel_rfl) (fun _ _ _ h => h) (Or.inl ⟨by rfl, ?_⟩) ?_ ?_
            rotate_left
            · intro w'
              go_simp
              with_reducible rfl
            rotate_left
            · simp only [Act.put, List.setIfInBounds_toArray, List.set_cons_zero, List.set_cons_succ, i64_w, i32_w]
              rfl
            refine pure_ (i := 5) (N := some 66) (v := ?_) (a' := ?_) #[true, true, true, true, true, true, false, false, false, false, false, false, false, false, false] rfl rfl (by kernel_rfl) (fun _ _ _ h => h) (Or.inl ⟨by rfl, ?_⟩) ?_ ?_
            rotate_left
            · intro w'
              go_simp
              with_reducible rfl
            rotate_left
            · simp only [Act.put, List.setIfInBounds_toArray, List.set_cons_zero, List.set_cons_succ, i64_w, i32_w]
              rfl
            refine pure_ (i := 6) (N := some 67) (v := ?_) (a' := ?_) #[true, true, true, true, true, true, true, false, false, false, false, false, false, false, false] rfl rfl (by kernel_rfl) (fun _ _ _ h => h) (Or.inl ⟨by rfl, ?_⟩) ?_ ?_
            rotate_left
            · intro w'
              go_simp
              with_reducible rfl
            rotate_left
            · simp only [Act.put, List.setIfInBounds_toArray, List.set_cons_zero, List.set_cons_succ, i64_w, i32_w]
              rfl
            refine pure_ (i := 10) (N := some 71) (v := ?_) (a' := ?_) #[true, true, true, true, true, true, true, false, false, false, true, false, false, false, false] rfl rfl (by kernel_rfl) (fun _ _ _ h => h) (Or.inl ⟨by rfl, ?_⟩) ?_ ?_
            rotate_left
            · intro w'
              go_simp
              with_reducible rfl
            rotate_left
            · simp only [Act.put, List.setIfInBounds_toArray, List.set_cons_zero, List.set_cons_succ, i64_w, i32_w]
              rfl
            refine take_ (i := 7) (N := some 68) (v := ?_) (a' := ?_) #[true, true, true, true, true, true, true, true, false, false, true, false, false, false, false] rfl rfl (by kernel_rfl) (fun _ _ _ h => h) (Or.inl ⟨by rfl, ?_⟩) hHeld ?_ ?_
            rotate_left
            · rintro w' ⟨s0, s1⟩
              go_simp
              with_reducible rfl
            rotate_left
            · simp only [Act.put, List.setIfInBounds_toArray, List.set_cons_zero, List.set_cons_succ, i64_w, i32_w]
              rfl
            refine one_ (i := 8) (N := some 69) #[true, true, true, true, true, true, true, true, true, false, true, false, false, false, false] rfl rfl (by kernel_rfl) (by decide) (fun K hK => ?_)
            refine goes_ Try.func9 (by kernel_rfl) rfl #[.agg #[.int .i64 fr, .slice Aq prts.length cq]] (by rfl) rfl rfl (by simp only [List.map_toArray, List.map_cons, List.map_nil]; rfl) ?_
            with_reducible refine (message_Encode.calls k fr Aq cq prts pk _ HCqD.out hlq HE3.out).mono ?_
            rintro e_ w21 ⟨vz, rfl, ho, hb⟩
            obtain ⟨Ae, ce_, hvz, hlz, hCz⟩ := Kd.R_reads ho
            subst hvz
            refine ⟨_, rfl, ?_⟩
            have n0_ := Aside0.mk (blk_below BKD.out hb)
            have n1_ := Aside0.mk (below_step HBD.out hb)
            have n2_ := Aside0.mk (Kd.C_below HClD.out hb)
            have HCe := Aside0.mk hCz
            clear BKD HBD HClD ho hb hCz hlz
            have BKD := n0_
            have HBD := n1_
            have HClD := n2_
            clear n0_ n1_ n2_
            refine hK.out _ _ ⟨(blk_cell BKD.out 0).trans rfl, (blk_cell BKD.out 1).trans rfl⟩ (fun hHeld => ?_)
            clear hK K
            refine norm_ (a' := ?_) ?_ ?_
            rotate_left
            · show Act.put _ (some 69) _ = _
              simp only [Act.put, List.setIfInBounds_toArray, List.set_cons_zero, List.set_cons_succ, i64_w, i32_w]
              rfl
            refine two_ (i := 9) (j := 11) (Ni := some 70) (Nj := some 72) #[true, true, true, true, true, true, true, true, true, true, true, false, false, false, false] #[true, true, true, true, true, true, true, true, true, false, true, true, false, false, false] rfl rfl rfl rfl (by kernel_rfl) (by decide) (by decide) (fun K hK => ?_) (fun K hK => ?_)
            · skip
              have hcv := Kd.C_string (P := Try.prog) (A := Ae) (c := ce_) Try.underlying30 Try.underlying5 Try.underlying9 HCe.out
              refine value_ (w1 := ?_) (v := ?_) (by rfl) rfl ?_ ?_
              rotate_left 2
              · go_simp
                constructor
                · rfl
                · rfl
              clear hcv
              refine hK.out _ _ ⟨(blk_cell BKD.out 0).trans rfl, (blk_cell BKD.out 1).trans rfl⟩ (fun hHeld => ?_)
              clear hK K
              refine norm_ (a' := ?_) ?_ ?_
              rotate_left
              · show Act.put _ (some 70) _ = _
                simp only [Act.put, List.setIfInBounds_toArray, List.set_cons_zero, List.set_cons_succ, i64_w, i32_w]
                rfl
              refine one_ (i := 11) (N := some 72) #[true, true, true, true, true, true, true, true, true, true, true, true, false, false, false] rfl rfl (by kernel_rfl) (by decide) (fun K hK => ?_)
              refine goes_ Try.func14 (by kernel_rfl) rfl #[.slice a0 l0.length cap0] (by rfl) rfl rfl (by simp only [List.map_toArray, List.map_cons, List.map_nil]; rfl) ?_
              with_reducible refine (milestonelaw13_packet.calls k a0 cap0 l0 pk _ HClD.out HC.out H1.out).mono ?_
              rintro e_ w22 ⟨vz, rfl, ho, hb⟩
              obtain ⟨Af, cf_, hvz, hlz, hCz⟩ := Kd.R_reads ho
              subst hvz
              refine ⟨_, rfl, ?_⟩
              have n0_ := Aside0.mk (blk_below BKD.out hb)
              have n1_ := Aside0.mk (below_step HBD.out hb)
              have n2_ := Aside0.mk (Kd.C_below HClD.out hb)
              have n3_ := Aside0.mk (Kd.C_below HCe.out hb)
              have HCf := Aside0.mk hCz
              clear BKD HBD HClD HCe ho hb hCz hlz
              have BKD := n0_
              have HBD := n1_
              have HClD := n2_
              have HCe := n3_
              clear n0_ n1_ n2_ n3_
              refine hK.out _ _ ⟨(blk_cell BKD.out 0).trans rfl, (blk_cell BKD.out 1).trans rfl⟩ (fun hHeld => ?_)
              clear hK K
              refine norm_ (a' := ?_) ?_ ?_
              rotate_left
              · show Act.put _ (some 72) _ = _
                simp only [Act.put, List.setIfInBounds_toArray, List.set_cons_zero, List.set_cons_succ, i64_w, i32_w]
                rfl
              refine one_ (i := 12) (N := some 73) #[true, true, true, true, true, true, true, true, true, true, true, true, true, false, false] rfl rfl (by kernel_rfl) (by decide) (fun K hK => ?_)
              have hcv := Kd.C_string (P := Try.prog) (A := Af) (c := cf_) Try.underlying30 Try.underlying5 Try.underlying9 HCf.out
              refine value_ (w1 := ?_) (v := ?_) (by rfl) rfl ?_ ?_
              rotate_left 2
              · go_simp
                constructor
                · rfl
                · rfl
              clear hcv
              refine hK.out _ _ ⟨(blk_cell BKD.out 0).trans rfl, (blk_cell BKD.out 1).trans rfl⟩ (fun hHeld => ?_)
              clear hK K
              refine norm_ (a' := ?_) ?_ ?_
              rotate_left
              · show Act.put _ (some 73) _ = _
                simp only [Act.put, List.setIfInBounds_toArray, List.set_cons_zero, List.set_cons_succ, i64_w, i32_w]
                rfl
              refine pure_ (i := 13) (N := some 74) (v := ?_) (a' := ?_) #[true, true, true, true, true, true, true, true, true, true, true, true, true, true, false] rfl rfl (by kernel_rfl) (fun _ _ _ h => h) (Or.inl ⟨by rfl, ?_⟩) ?_ ?_
              rotate_left
              · intro w'
                go_simp
                with_reducible rfl
              rotate_left
              · simp only [Act.put, List.setIfInBounds_toArray, List.set_cons_zero, List.set_cons_succ, i64_w, i32_w]
                rfl
              refine pure_ (i := 14) (N := some 75) (v := ?_) (a' := ?_) #[true, true, true, true, true, true, true, true, true, true, true, true, true, true, true] rfl rfl (by kernel_rfl) (fun _ _ _ h => h) (Or.inl ⟨by rfl, ?_⟩) ?_ ?_
              rotate_left
              · intro w'
                go_simp
                with_reducible rfl
              rotate_left
              · simp only [Act.put, List.setIfInBounds_toArray, List.set_cons_zero, List.set_cons_succ, i64_w, i32_w]
                rfl
              refine done_ (by kernel_rfl) ?_
              have hg0 := (show _ from hHeld.1)
              have hg1 := (show _ from hHeld.2)
              go_wp2_with (fail)
              go_roundw
              case rel => exact ⟨1, by omega, by go_num, ⟨blk_below HBK.out HBD.out⟩, ⟨below_step HBW.out HBD.out⟩⟩
              case measure => simp [intOf]
            · skip
              refine goes_ Try.func14 (by kernel_rfl) rfl #[.slice a0 l0.length cap0] (by rfl) rfl rfl (by simp only [List.map_toArray, List.map_cons, List.map_nil]; rfl) ?_
              with_reducible refine (milestonelaw13_packet.calls k a0 cap0 l0 pk _ HClD.out HC.out H1.out).mono ?_
              rintro e_ w22 ⟨vz, rfl, ho, hb⟩
              obtain ⟨Af, cf_, hvz, hlz, hCz⟩ := Kd.R_reads ho
              subst hvz
              refine ⟨_, rfl, ?_⟩
              have n0_ := Aside0.mk (blk_below BKD.out hb)
              have n1_ := Aside0.mk (below_step HBD.out hb)
              have n2_ := Aside0.mk (Kd.C_below HClD.out hb)
              have n3_ := Aside0.mk (Kd.C_below HCe.out hb)
              have HCf := Aside0.mk hCz
              clear BKD HBD HClD HCe ho hb hCz hlz
              have BKD := n0_
              have HBD := n1_
              have HClD := n2_
              have HCe := n3_
              clear n0_ n1_ n2_ n3_
              refine hK.out _ _ ⟨(blk_cell BKD.out 0).trans rfl, (blk_cell BKD.out 1).trans rfl⟩ (fun hHeld => ?_)
              clear hK K
              refine norm_ (a' := ?_) ?_ ?_
              rotate_left
              · show Act.put _ (some 72) _ = _
                simp only [Act.put, List.setIfInBounds_toArray, List.set_cons_zero, List.set_cons_succ, i64_w, i32_w]
                rfl
              refine two_ (i := 9) (j := 12) (Ni := some 70) (Nj := some 73) #[true, true, true, true, true, true, true, true, true, true, true, true, false, false, false] #[true, true, true, true, true, true, true, true, true, false, true, true, true, false, false] rfl rfl rfl rfl (by kernel_rfl) (by decide) (by decide) (fun K hK => ?_) (fun K hK => ?_)
              · skip
                have hcv := Kd.C_string (P := Try.prog) (A := Ae) (c := ce_) Try.underlying30 Try.underlying5 Try.underlying9 HCe.out
                refine value_ (w1 := ?_) (v := ?_) (by rfl) rfl ?_ ?_
                rotate_left 2
                · go_simp
                  constructor
                  · rfl
                  · rfl
                clear hcv
                refine hK.out _ _ ⟨(blk_cell BKD.out 0).trans rfl, (blk_cell BKD.out 1).trans rfl⟩ (fun hHeld => ?_)
                clear hK K
                refine norm_ (a' := ?_) ?_ ?_
                rotate_left
                · show Act.put _ (some 70) _ = _
                  simp only [Act.put, List.setIfInBounds_toArray, List.set_cons_zero, List.set_cons_succ, i64_w, i32_w]
                  rfl
                refine one_ (i := 12) (N := some 73) #[true, true, true, true, true, true, true, true, true, true, true, true, true, false, false] rfl rfl (by kernel_rfl) (by decide) (fun K hK => ?_)
                have hcv := Kd.C_string (P := Try.prog) (A := Af) (c := cf_) Try.underlying30 Try.underlying5 Try.underlying9 HCf.out
                refine value_ (w1 := ?_) (v := ?_) (by rfl) rfl ?_ ?_
                rotate_left 2
                · go_simp
                  constructor
                  · rfl
                  · rfl
                clear hcv
                refine hK.out _ _ ⟨(blk_cell BKD.out 0).trans rfl, (blk_cell BKD.out 1).trans rfl⟩ (fun hHeld => ?_)
                clear hK K
                refine norm_ (a' := ?_) ?_ ?_
                rotate_left
                · show Act.put _ (some 73) _ = _
                  simp only [Act.put, List.setIfInBounds_toArray, List.set_cons_zero, List.set_cons_succ, i64_w, i32_w]
                  rfl
                refine pure_ (i := 13) (N := some 74) (v := ?_) (a' := ?_) #[true, true, true, true, true, true, true, true, true, true, true, true, true, true, false] rfl rfl (by kernel_rfl) (fun _ _ _ h => h) (Or.inl ⟨by rfl, ?_⟩) ?_ ?_
                rotate_left
                · intro w'
                  go_simp
                  with_reducible rfl
                rotate_left
                · simp only [Act.put, List.setIfInBounds_toArray, List.set_cons_zero, List.set_cons_succ, i64_w, i32_w]
                  rfl
                refine pure_ (i := 14) (N := some 75) (v := ?_) (a' := ?_) #[true, true, true, true, true, true, true, true, true, true, true, true, true, true, true] rfl rfl (by kernel_rfl) (fun _ _ _ h => h) (Or.inl ⟨by rfl, ?_⟩) ?_ ?_
                rotate_left
                · intro w'
                  go_simp
                  with_reducible rfl
                rotate_left
                · simp only [Act.put, List.setIfInBounds_toArray, List.set_cons_zero, List.set_cons_succ, i64_w, i32_w]
                  rfl
                refine done_ (by kernel_rfl) ?_
                have hg0 := (show _ from hHeld.1)
                have hg1 := (show _ from hHeld.2)
                go_wp2_with (fail)
                go_roundw
                case rel => exact ⟨1, by omega, by go_num, ⟨blk_below HBK.out HBD.out⟩, ⟨below_step HBW.out HBD.out⟩⟩
                case measure => simp [intOf]
              · skip
                have hcv := Kd.C_string (P := Try.prog) (A := Af) (c := cf_) Try.underlying30 Try.underlying5 Try.underlying9 HCf.out
                refine value_ (w1 := ?_) (v := ?_) (by rfl) rfl ?_ ?_
                rotate_left 2
                · go_simp
                  constructor
                  · rfl
                  · rfl
                clear hcv
                refine hK.out _ _ ⟨(blk_cell BKD.out 0).trans rfl, (blk_cell BKD.out 1).trans rfl⟩ (fun hHeld => ?_)
                clear hK K
                refine norm_ (a' := ?_) ?_ ?_
                rotate_left
                · show Act.put _ (some 73) _ = _
                  simp only [Act.put, List.setIfInBounds_toArray, List.set_cons_zero, List.set_cons_succ, i64_w, i32_w]
                  rfl
                refine one_ (i := 9) (N := some 70) #[true, true, true, true, true, true, true, true, true, true, true, true, true, false, false] rfl rfl (by kernel_rfl) (by decide) (fun K hK => ?_)
                have hcv := Kd.C_string (P := Try.prog) (A := Ae) (c := ce_) Try.underlying30 Try.underlying5 Try.underlying9 HCe.out
                refine value_ (w1 := ?_) (v := ?_) (by rfl) rfl ?_ ?_
                rotate_left 2
                · go_simp
                  constructor
                  · rfl
                  · rfl
                clear hcv
                refine hK.out _ _ ⟨(blk_cell BKD.out 0).trans rfl, (blk_cell BKD.out 1).trans rfl⟩ (fun hHeld => ?_)
                clear hK K
                refine norm_ (a' := ?_) ?_ ?_
                rotate_left
                · show Act.put _ (some 70) _ = _
                  simp only [Act.put, List.setIfInBounds_toArray, List.set_cons_zero, List.set_cons_succ, i64_w, i32_w]
                  rfl
                refine pure_ (i := 13) (N := some 74) (v := ?_) (a' := ?_) #[true, true, true, true, true, true, true, true, true, true, true, true, true, true, false] rfl rfl (by kernel_rfl) (fun _ _ _ h => h) (Or.inl ⟨by rfl, ?_⟩) ?_ ?_
                rotate_left
                · intro w'
                  go_simp
                  with_reducible rfl
                rotate_left
                · simp only [Act.put, List.setIfInBounds_toArray, List.set_cons_zero, List.set_cons_succ, i64_w, i32_w]
                  rfl
                refine pure_ (i := 14) (N := some 75) (v := ?_) (a' := ?_) #[true, true, true, true, true, true, true, true, true, true, true, true, true, true, true] rfl rfl (by kernel_rfl) (fun _ _ _ h => h) (Or.inl ⟨by rfl, ?_⟩) ?_ ?_
                rotate_left
                · intro w'
                  go_simp
                  with_reducible rfl
                rotate_left
                · simp only [Act.put, List.setIfInBounds_toArray, List.set_cons_zero, List.set_cons_succ, i64_w, i32_w]
                  rfl
                refine done_ (by kernel_rfl) ?_
                have hg0 := (show _ from hHeld.1)
                have hg1 := (show _ from hHeld.2)
                go_wp2_with (fail)
                go_roundw
                case rel => exact ⟨1, by omega, by go_num, ⟨blk_below HBK.out HBD.out⟩, ⟨below_step HBW.out HBD.out⟩⟩
                case measure => simp [intOf]
          · have e5 : (n == 0) = false := beq_eq_false_iff_ne.mpr cn
            have BKD := BKW
            have hg0 : W.cell? ⟨gp, 0, none⟩ = some (.int .i64 fr) := (blk_cell BKD.out 0).trans rfl
            have hg1 : W.cell? ⟨gp, 1, none⟩ = some (.slice Aq prts.length cq) := (blk_cell BKD.out 1).trans rfl
            repeat (go_quiet (fail))
            go_wp2_with (fail)
            go_roundw
            case rel => exact ⟨1, by omega, by go_num, ⟨blk_below HBK.out (pw_below_drewN HBD.out _)⟩, ⟨below_step HBW.out (pw_below_drewN HBD.out _)⟩⟩
            case measure => simp [intOf]
        · have BKD := BKW
          have hg0 : W.cell? ⟨gp, 0, none⟩ = some (.int .i64 fr) := (blk_cell BKD.out 0).trans rfl
          have hg1 : W.cell? ⟨gp, 1, none⟩ = some (.slice Aq prts.length cq) := (blk_cell BKD.out 1).trans rfl
          obtain ⟨rfl, rfl, rfl⟩ := H4.out ce
          have e5 : (e == 0) = false := beq_eq_false_iff_ne.mpr ce
          have e6 : (e != 0) = true := bne_iff_ne.mpr ce
          repeat (go_quiet (fail))
          go_wp2_with (fail)
          go_roundw
          case rel => exact ⟨1, by omega, by go_num, ⟨blk_below HBK.out (pw_below_drewN HBD.out _)⟩, ⟨below_step HBW.out (pw_below_drewN HBD.out _)⟩⟩
          case measure => simp [intOf]
      · obtain ⟨k, pk, fr, prts, n, e, h1, h2, h3, h4⟩ := HP3.out q2 HQ2W.out (by have := HQ2L.out; have := HQL.out; omega)
        have H1 := Aside0.mk h1
        have H2 := Aside0.mk h2
        have H3 := Aside0.mk h3
        have H4 := Aside0.mk h4
        clear h1 h2 h3 h4
        have HCl := Aside0.mk (Kd.C_below HC68.out HBW.out)
        go_wp2_with (fail)
        refine (milestonelaw13_packet.calls k (some ⟨go5, 0, none⟩) co5 q2 pk _ HCl.out HL6.out H1.out).mono ?_
        rintro e_ w10 ⟨v10, rfl, ho, hb⟩
        obtain ⟨Ap, cp, hv, hlp, hCp⟩ := Kd.R_reads ho
        subst hv
        have HCp := Aside0.mk hCp
        have HBr := Aside0.mk hb
        have HCl1 := Aside0.mk (Kd.C_below HCl.out hb)
        clear hb ho hCp HCl
        go_wp2_with (fail)
        refine (message_Decode.calls k Ap cp pk fr prts n e _ HCp.out hlp H2.out).mono ?_
        rintro e_ w11 ⟨v11, rfl, ho, hb⟩
        obtain ⟨Aq, cq, hv, hlq, hCq⟩ := Kd.R_reads ho
        subst hv
        have HCq := Aside0.mk hCq
        have HBr1 := Aside0.mk (below_step HBr.out hb)
        have HCl2 := Aside0.mk (Kd.C_below HCl1.out hb)
        clear hb ho hCq HCl1 HBr HCp hcell0 hcell1 hcell2
        go_wp2_with (((with_reducible refine gate_dst (N := 14) rfl ?_); (try (refine gate_guard (by rfl) ?_; dsimp only)); refine box_event ?hg (N := 14) ?hd (cs := #[.int .i64 0, .slice none 0 0]) (t := 34) ?hr ?_; (case hd => rfl); (case hg => rfl); (case hr => first | (go_simp; done) | (go_simp; rfl)); intro gp hg wp hbox hb; have BKp := Aside0.mk hbox; have HBp := Aside0.mk hb; have GEp := Aside0.mk (Nat.le_of_eq hg.symm : w11.heap.size ≤ gp); clear hb hbox hg; have hz0 : wp.cell? ⟨gp, 0, none⟩ = some (.int .i64 0) := (blk_cell BKp.out 0).trans rfl; have hz1 : wp.cell? ⟨gp, 1, none⟩ = some (.slice none 0 0) := (blk_cell BKp.out 1).trans rfl; have hy0 := blk_frozen BKp.out 0; have hy1 := blk_frozen BKp.out 1))
        obtain ⟨W, hW⟩ : ∃ W : World, W = ((wp.setCell ⟨gp, 0, none⟩ (.int .i64 fr)).setCell ⟨gp, 1, none⟩ (.slice Aq prts.length cq)) := ⟨_, rfl⟩
        rw [← hW]
        have HBW2 := Aside0.mk (show Below w11.heap.size w11 W from by rw [hW]; exact below_set (below_set HBp.out GEp.out) GEp.out)
        have BKW := Aside0.mk (show W.heap[gp]? = some (.cells #[.int .i64 fr, .slice Aq prts.length cq] 34 (0, 0)) from by rw [hW]; refine blk_put (cs := #[.int .i64 fr, .slice none 0 0]) ?_ 1 _ rfl; refine blk_put (cs := #[.int .i64 0, .slice none 0 0]) ?_ 0 _ rfl; exact BKp.out)
        have HBD := Aside0.mk (below_step HBr1.out HBW2.out)
        have HClD := Aside0.mk (Kd.C_drew (Kd.C_below HCl2.out HBW2.out))
        have HCqD := Aside0.mk (Kd.C_drew (Kd.C_below HCq.out HBW2.out))
        clear hW BKp HBp GEp HBr1 HBW2 HCl2 HCq hz0 hz1 hy0 hy1
        by_cases ce : e = 0
        · subst ce
          by_cases cn : n = 0
          · subst cn
            have HE3 := Aside0.mk (H3.out rfl rfl)
            have BKD := Aside0.mk (blk_drew BKW.out)
            have HBD2 := Aside0.mk (below_drew1 HBD.out)
            clear HBD BKW
            have HBD := HBD2
            clear HBD2
            refine start_ (n := 15) (S := fun w' => w'.cell? ⟨gp, 0, none⟩ = some (.int .i64 fr) ∧ w'.cell? ⟨gp, 1, none⟩ = some (.slice Aq prts.length cq)) (ds := []) #[false, false, false, false, false, false, false, false, false, false, false, false, false, false, false] (by kernel_rfl) rfl rfl ⟨(blk_cell BKD.out 0).trans rfl, (blk_cell BKD.out 1).trans rfl⟩ (fun hHeld => ?_)
            generalize W.drew = w20 at BKD HBD HClD HCqD hHeld ⊢
            refine pure_ (i := 0) (N := some 61) (v := ?_) (a' := ?_) #[true, false, false, false, false, false, false, false, false, false, false, false, false, false, false] rfl rfl (by kernel_rfl) (fun _ _ _ h => h) (Or.inl ⟨by rfl, ?_⟩) ?_ ?_
            rotate_left
            · intro w'
              go_simp
              with_reducible rfl
            rotate_left
            · simp only [Act.put, List.setIfInBounds_toArray, List.set_cons_zero, List.set_cons_succ, i64_w, i32_w]
              rfl
            refine pure_ (i := 1) (N := some 62) (v := ?_) (a' := ?_) #[true, true, false, false, false, false, false, false, false, false, false, false, false, false, false] rfl rfl (by kernel_rfl) (fun _ _ _ h => h) (Or.inl ⟨by rfl, ?_⟩) ?_ ?_
            rotate_left
            · intro w'
              go_simp
              with_reducible rfl
            rotate_left
            · simp only [Act.put, List.setIfInBounds_toArray, List.set_cons_zero, List.set_cons_succ, i64_w, i32_w]
              rfl
            refine pure_ (i := 2) (N := some 63) (v := ?_) (a' := ?_) #[true, true, true, false, false, false, false, false, false, false, false, false, false, false, false] rfl rfl (by kernel_rfl) (fun _ _ _ h => h) (Or.inl ⟨by rfl, ?_⟩) ?_ ?_
            rotate_left
            · intro w'
              go_simp
              with_reducible rfl
            rotate_left
            · simp only [Act.put, List.setIfInBounds_toArray, List.set_cons_zero, List.set_cons_succ, i64_w, i32_w]
              rfl
            refine pure_ (i := 3) (N := some 64) (v := ?_) (a' := ?_) #[true, true, true, true, false, false, false, false, false, false, false, false, false, false, false] rfl rfl (by kernel_rfl) (fun _ _ _ h => h) (Or.inl ⟨by rfl, ?_⟩) ?_ ?_
            rotate_left
            · intro w'
              go_simp
              with_reducible rfl
            rotate_left
            · simp only [Act.put, List.setIfInBounds_toArray, List.set_cons_zero, List.set_cons_succ, i64_w, i32_w]
              rfl
            refine pure_ (i := 4) (N := some 65) (v := ?_) (a' := ?_) #[true, true, true, true, true, false, false, false, false, false, false, false, false, false, false] rfl rfl (by kernel_rfl) (fun _ _ _ h => h) (Or.inl ⟨by rfl, ?_⟩) ?_ ?_
            rotate_left
            · intro w'
              go_simp
              with_reducible rfl
            rotate_left
            · simp only [Act.put, List.setIfInBounds_toArray, List.set_cons_zero, List.set_cons_succ, i64_w, i32_w]
              rfl
            refine pure_ (i := 5) (N := some 66) (v := ?_) (a' := ?_) #[true, true, true, true, true, true, false, false, false, false, false, false, false, false, false] rfl rfl (by kernel_rfl) (fun _ _ _ h => h) (Or.inl ⟨by rfl, ?_⟩) ?_ ?_
            rotate_left
            · intro w'
              go_simp
              with_reducible rfl
            rotate_left
            · simp only [Act.put, List.setIfInBounds_toArray, List.set_cons_zero, List.set_cons_succ, i64_w, i32_w]
              rfl
            refine pure_ (i := 6) (N := some 67) (v := ?_) (a' := ?_) #[true, true, true, true, true, true, true, false, false, false, false, false, false, false, false] rfl rfl (by kernel_rfl) (fun _ _ _ h => h) (Or.inl ⟨by rfl, ?_⟩) ?_ ?_
            rotate_left
            · intro w'
              go_simp
              with_reducible rfl
            rotate_left
            · simp only [Act.put, List.setIfInBounds_toArray, List.set_cons_zero, List.set_cons_succ, i64_w, i32_w]
              rfl
            refine pure_ (i := 10) (N := some 71) (v := ?_) (a' := ?_) #[true, true, true, true, true, true, true, false, false, false, true, false, false, false, false] rfl rfl (by kernel_rfl) (fun _ _ _ h => h) (Or.inl ⟨by rfl, ?_⟩) ?_ ?_
            rotate_left
            · intro w'
              go_simp
              with_reducible rfl
            rotate_left
            · simp only [Act.put, List.setIfInBounds_toArray, List.set_cons_zero, List.set_cons_succ, i64_w, i32_w]
              rfl
            refine take_ (i := 7) (N := some 68) (v := ?_) (a' := ?_) #[true, true, true, true, true, true, true, true, false, false, true, false, false, false, false] rfl rfl (by kernel_rfl) (fun _ _ _ h => h) (Or.inl ⟨by rfl, ?_⟩) hHeld ?_ ?_
            rotate_left
            · rintro w' ⟨s0, s1⟩
              go_simp
              with_reducible rfl
            rotate_left
            · simp only [Act.put, List.setIfInBounds_toArray, List.set_cons_zero, List.set_cons_succ, i64_w, i32_w]
              rfl
            refine one_ (i := 8) (N := some 69) #[true, true, true, true, true, true, true, true, true, false, true, false, false, false, false] rfl rfl (by kernel_rfl) (by decide) (fun K hK => ?_)
            refine goes_ Try.func9 (by kernel_rfl) rfl #[.agg #[.int .i64 fr, .slice Aq prts.length cq]] (by rfl) rfl rfl (by simp only [List.map_toArray, List.map_cons, List.map_nil]; rfl) ?_
            with_reducible refine (message_Encode.calls k fr Aq cq prts pk _ HCqD.out hlq HE3.out).mono ?_
            rintro e_ w21 ⟨vz, rfl, ho, hb⟩
            obtain ⟨Ae, ce_, hvz, hlz, hCz⟩ := Kd.R_reads ho
            subst hvz
            refine ⟨_, rfl, ?_⟩
            have n0_ := Aside0.mk (blk_below BKD.out hb)
            have n1_ := Aside0.mk (below_step HBD.out hb)
            have n2_ := Aside0.mk (Kd.C_below HClD.out hb)
            have HCe := Aside0.mk hCz
            clear BKD HBD HClD ho hb hCz hlz
            have BKD := n0_
            have HBD := n1_
            have HClD := n2_
            clear n0_ n1_ n2_
            refine hK.out _ _ ⟨(blk_cell BKD.out 0).trans rfl, (blk_cell BKD.out 1).trans rfl⟩ (fun hHeld => ?_)
            clear hK K
            refine norm_ (a' := ?_) ?_ ?_
            rotate_left
            · show Act.put _ (some 69) _ = _
              simp only [Act.put, List.setIfInBounds_toArray, List.set_cons_zero, List.set_cons_succ, i64_w, i32_w]
              rfl
            refine two_ (i := 9) (j := 11) (Ni := some 70) (Nj := some 72) #[true, true, true, true, true, true, true, true, true, true, true, false, false, false, false] #[true, true, true, true, true, true, true, true, true, false, true, true, false, false, false] rfl rfl rfl rfl (by kernel_rfl) (by decide) (by decide) (fun K hK => ?_) (fun K hK => ?_)
            · skip
              have hcv := Kd.C_string (P := Try.prog) (A := Ae) (c := ce_) Try.underlying30 Try.underlying5 Try.underlying9 HCe.out
              refine value_ (w1 := ?_) (v := ?_) (by rfl) rfl ?_ ?_
              rotate_left 2
              · go_simp
                constructor
                · rfl
                · rfl
              clear hcv
              refine hK.out _ _ ⟨(blk_cell BKD.out 0).trans rfl, (blk_cell BKD.out 1).trans rfl⟩ (fun hHeld => ?_)
              clear hK K
              refine norm_ (a' := ?_) ?_ ?_
              rotate_left
              · show Act.put _ (some 70) _ = _
                simp only [Act.put, List.setIfInBounds_toArray, List.set_cons_zero, List.set_cons_succ, i64_w, i32_w]
                rfl
              refine one_ (i := 11) (N := some 72) #[true, true, true, true, true, true, true, true, true, true, true, true, false, false, false] rfl rfl (by kernel_rfl) (by decide) (fun K hK => ?_)
              refine goes_ Try.func14 (by kernel_rfl) rfl #[.slice (some ⟨go5, 0, none⟩) q2.length co5] (by rfl) rfl rfl (by simp only [List.map_toArray, List.map_cons, List.map_nil]; rfl) ?_
              with_reducible refine (milestonelaw13_packet.calls k (some ⟨go5, 0, none⟩) co5 q2 pk _ HClD.out HL6.out H1.out).mono ?_
              rintro e_ w22 ⟨vz, rfl, ho, hb⟩
              obtain ⟨Af, cf_, hvz, hlz, hCz⟩ := Kd.R_reads ho
              subst hvz
              refine ⟨_, rfl, ?_⟩
              have n0_ := Aside0.mk (blk_below BKD.out hb)
              have n1_ := Aside0.mk (below_step HBD.out hb)
              have n2_ := Aside0.mk (Kd.C_below HClD.out hb)
              have n3_ := Aside0.mk (Kd.C_below HCe.out hb)
              have HCf := Aside0.mk hCz
              clear BKD HBD HClD HCe ho hb hCz hlz
              have BKD := n0_
              have HBD := n1_
              have HClD := n2_
              have HCe := n3_
              clear n0_ n1_ n2_ n3_
              refine hK.out _ _ ⟨(blk_cell BKD.out 0).trans rfl, (blk_cell BKD.out 1).trans rfl⟩ (fun hHeld => ?_)
              clear hK K
              refine norm_ (a' := ?_) ?_ ?_
              rotate_left
              · show Act.put _ (some 72) _ = _
                simp only [Act.put, List.setIfInBounds_toArray, List.set_cons_zero, List.set_cons_succ, i64_w, i32_w]
                rfl
              refine one_ (i := 12) (N := some 73) #[true, true, true, true, true, true, true, true, true, true, true, true, true, false, false] rfl rfl (by kernel_rfl) (by decide) (fun K hK => ?_)
              have hcv := Kd.C_string (P := Try.prog) (A := Af) (c := cf_) Try.underlying30 Try.underlying5 Try.underlying9 HCf.out
              refine value_ (w1 := ?_) (v := ?_) (by rfl) rfl ?_ ?_
              rotate_left 2
              · go_simp
                constructor
                · rfl
                · rfl
              clear hcv
              refine hK.out _ _ ⟨(blk_cell BKD.out 0).trans rfl, (blk_cell BKD.out 1).trans rfl⟩ (fun hHeld => ?_)
              clear hK K
              refine norm_ (a' := ?_) ?_ ?_
              rotate_left
              · show Act.put _ (some 73) _ = _
                simp only [Act.put, List.setIfInBounds_toArray, List.set_cons_zero, List.set_cons_succ, i64_w, i32_w]
                rfl
              refine pure_ (i := 13) (N := some 74) (v := ?_) (a' := ?_) #[true, true, true, true, true, true, true, true, true, true, true, true, true, true, false] rfl rfl (by kernel_rfl) (fun _ _ _ h => h) (Or.inl ⟨by rfl, ?_⟩) ?_ ?_
              rotate_left
              · intro w'
                go_simp
                with_reducible rfl
              rotate_left
              · simp only [Act.put, List.setIfInBounds_toArray, List.set_cons_zero, List.set_cons_succ, i64_w, i32_w]
                rfl
              refine pure_ (i := 14) (N := some 75) (v := ?_) (a' := ?_) #[true, true, true, true, true, true, true, true, true, true, true, true, true, true, true] rfl rfl (by kernel_rfl) (fun _ _ _ h => h) (Or.inl ⟨by rfl, ?_⟩) ?_ ?_
              rotate_left
              · intro w'
                go_simp
                with_reducible rfl
              rotate_left
              · simp only [Act.put, List.setIfInBounds_toArray, List.set_cons_zero, List.set_cons_succ, i64_w, i32_w]
                rfl
              refine done_ (by kernel_rfl) ?_
              have hg0 := (show _ from hHeld.1)
              have hg1 := (show _ from hHeld.2)
              go_wp2_with (fail)
              go_roundw
              case rel => exact ⟨2, by omega, by go_num, ⟨blk_below HBK.out HBD.out⟩, ⟨below_step HBW.out HBD.out⟩⟩
              case measure => simp [intOf]
            · skip
              refine goes_ Try.func14 (by kernel_rfl) rfl #[.slice (some ⟨go5, 0, none⟩) q2.length co5] (by rfl) rfl rfl (by simp only [List.map_toArray, List.map_cons, List.map_nil]; rfl) ?_
              with_reducible refine (milestonelaw13_packet.calls k (some ⟨go5, 0, none⟩) co5 q2 pk _ HClD.out HL6.out H1.out).mono ?_
              rintro e_ w22 ⟨vz, rfl, ho, hb⟩
              obtain ⟨Af, cf_, hvz, hlz, hCz⟩ := Kd.R_reads ho
              subst hvz
              refine ⟨_, rfl, ?_⟩
              have n0_ := Aside0.mk (blk_below BKD.out hb)
              have n1_ := Aside0.mk (below_step HBD.out hb)
              have n2_ := Aside0.mk (Kd.C_below HClD.out hb)
              have n3_ := Aside0.mk (Kd.C_below HCe.out hb)
              have HCf := Aside0.mk hCz
              clear BKD HBD HClD HCe ho hb hCz hlz
              have BKD := n0_
              have HBD := n1_
              have HClD := n2_
              have HCe := n3_
              clear n0_ n1_ n2_ n3_
              refine hK.out _ _ ⟨(blk_cell BKD.out 0).trans rfl, (blk_cell BKD.out 1).trans rfl⟩ (fun hHeld => ?_)
              clear hK K
              refine norm_ (a' := ?_) ?_ ?_
              rotate_left
              · show Act.put _ (some 72) _ = _
                simp only [Act.put, List.setIfInBounds_toArray, List.set_cons_zero, List.set_cons_succ, i64_w, i32_w]
                rfl
              refine two_ (i := 9) (j := 12) (Ni := some 70) (Nj := some 73) #[true, true, true, true, true, true, true, true, true, true, true, true, false, false, false] #[true, true, true, true, true, true, true, true, true, false, true, true, true, false, false] rfl rfl rfl rfl (by kernel_rfl) (by decide) (by decide) (fun K hK => ?_) (fun K hK => ?_)
              · skip
                have hcv := Kd.C_string (P := Try.prog) (A := Ae) (c := ce_) Try.underlying30 Try.underlying5 Try.underlying9 HCe.out
                refine value_ (w1 := ?_) (v := ?_) (by rfl) rfl ?_ ?_
                rotate_left 2
                · go_simp
                  constructor
                  · rfl
                  · rfl
                clear hcv
                refine hK.out _ _ ⟨(blk_cell BKD.out 0).trans rfl, (blk_cell BKD.out 1).trans rfl⟩ (fun hHeld => ?_)
                clear hK K
                refine norm_ (a' := ?_) ?_ ?_
                rotate_left
                · show Act.put _ (some 70) _ = _
                  simp only [Act.put, List.setIfInBounds_toArray, List.set_cons_zero, List.set_cons_succ, i64_w, i32_w]
                  rfl
                refine one_ (i := 12) (N := some 73) #[true, true, true, true, true, true, true, true, true, true, true, true, true, false, false] rfl rfl (by kernel_rfl) (by decide) (fun K hK => ?_)
                have hcv := Kd.C_string (P := Try.prog) (A := Af) (c := cf_) Try.underlying30 Try.underlying5 Try.underlying9 HCf.out
                refine value_ (w1 := ?_) (v := ?_) (by rfl) rfl ?_ ?_
                rotate_left 2
                · go_simp
                  constructor
                  · rfl
                  · rfl
                clear hcv
                refine hK.out _ _ ⟨(blk_cell BKD.out 0).trans rfl, (blk_cell BKD.out 1).trans rfl⟩ (fun hHeld => ?_)
                clear hK K
                refine norm_ (a' := ?_) ?_ ?_
                rotate_left
                · show Act.put _ (some 73) _ = _
                  simp only [Act.put, List.setIfInBounds_toArray, List.set_cons_zero, List.set_cons_succ, i64_w, i32_w]
                  rfl
                refine pure_ (i := 13) (N := some 74) (v := ?_) (a' := ?_) #[true, true, true, true, true, true, true, true, true, true, true, true, true, true, false] rfl rfl (by kernel_rfl) (fun _ _ _ h => h) (Or.inl ⟨by rfl, ?_⟩) ?_ ?_
                rotate_left
                · intro w'
                  go_simp
                  with_reducible rfl
                rotate_left
                · simp only [Act.put, List.setIfInBounds_toArray, List.set_cons_zero, List.set_cons_succ, i64_w, i32_w]
                  rfl
                refine pure_ (i := 14) (N := some 75) (v := ?_) (a' := ?_) #[true, true, true, true, true, true, true, true, true, true, true, true, true, true, true] rfl rfl (by kernel_rfl) (fun _ _ _ h => h) (Or.inl ⟨by rfl, ?_⟩) ?_ ?_
                rotate_left
                · intro w'
                  go_simp
                  with_reducible rfl
                rotate_left
                · simp only [Act.put, List.setIfInBounds_toArray, List.set_cons_zero, List.set_cons_succ, i64_w, i32_w]
                  rfl
                refine done_ (by kernel_rfl) ?_
                have hg0 := (show _ from hHeld.1)
                have hg1 := (show _ from hHeld.2)
                go_wp2_with (fail)
                go_roundw
                case rel => exact ⟨2, by omega, by go_num, ⟨blk_below HBK.out HBD.out⟩, ⟨below_step HBW.out HBD.out⟩⟩
                case measure => simp [intOf]
              · skip
                have hcv := Kd.C_string (P := Try.prog) (A := Af) (c := cf_) Try.underlying30 Try.underlying5 Try.underlying9 HCf.out
                refine value_ (w1 := ?_) (v := ?_) (by rfl) rfl ?_ ?_
                rotate_left 2
                · go_simp
                  constructor
                  · rfl
                  · rfl
                clear hcv
                refine hK.out _ _ ⟨(blk_cell BKD.out 0).trans rfl, (blk_cell BKD.out 1).trans rfl⟩ (fun hHeld => ?_)
                clear hK K
                refine norm_ (a' := ?_) ?_ ?_
                rotate_left
                · show Act.put _ (some 73) _ = _
                  simp only [Act.put, List.setIfInBounds_toArray, List.set_cons_zero, List.set_cons_succ, i64_w, i32_w]
                  rfl
                refine one_ (i := 9) (N := some 70) #[true, true, true, true, true, true, true, true, true, true, true, true, true, false, false] rfl rfl (by kernel_rfl) (by decide) (fun K hK => ?_)
                have hcv := Kd.C_string (P := Try.prog) (A := Ae) (c := ce_) Try.underlying30 Try.underlying5 Try.underlying9 HCe.out
                refine value_ (w1 := ?_) (v := ?_) (by rfl) rfl ?_ ?_
                rotate_left 2
                · go_simp
                  constructor
                  · rfl
                  · rfl
                clear hcv
                refine hK.out _ _ ⟨(blk_cell BKD.out 0).trans rfl, (blk_cell BKD.out 1).trans rfl⟩ (fun hHeld => ?_)
                clear hK K
                refine norm_ (a' := ?_) ?_ ?_
                rotate_left
                · show Act.put _ (some 70) _ = _
                  simp only [Act.put, List.setIfInBounds_toArray, List.set_cons_zero, List.set_cons_succ, i64_w, i32_w]
                  rfl
                refine pure_ (i := 13) (N := some 74) (v := ?_) (a' := ?_) #[true, true, true, true, true, true, true, true, true, true, true, true, true, true, false] rfl rfl (by kernel_rfl) (fun _ _ _ h => h) (Or.inl ⟨by rfl, ?_⟩) ?_ ?_
                rotate_left
                · intro w'
                  go_simp
                  with_reducible rfl
                rotate_left
                · simp only [Act.put, List.setIfInBounds_toArray, List.set_cons_zero, List.set_cons_succ, i64_w, i32_w]
                  rfl
                refine pure_ (i := 14) (N := some 75) (v := ?_) (a' := ?_) #[true, true, true, true, true, true, true, true, true, true, true, true, true, true, true] rfl rfl (by kernel_rfl) (fun _ _ _ h => h) (Or.inl ⟨by rfl, ?_⟩) ?_ ?_
                rotate_left
                · intro w'
                  go_simp
                  with_reducible rfl
                rotate_left
                · simp only [Act.put, List.setIfInBounds_toArray, List.set_cons_zero, List.set_cons_succ, i64_w, i32_w]
                  rfl
                refine done_ (by kernel_rfl) ?_
                have hg0 := (show _ from hHeld.1)
                have hg1 := (show _ from hHeld.2)
                go_wp2_with (fail)
                go_roundw
                case rel => exact ⟨2, by omega, by go_num, ⟨blk_below HBK.out HBD.out⟩, ⟨below_step HBW.out HBD.out⟩⟩
                case measure => simp [intOf]
          · have e5 : (n == 0) = false := beq_eq_false_iff_ne.mpr cn
            have BKD := BKW
            have hg0 : W.cell? ⟨gp, 0, none⟩ = some (.int .i64 fr) := (blk_cell BKD.out 0).trans rfl
            have hg1 : W.cell? ⟨gp, 1, none⟩ = some (.slice Aq prts.length cq) := (blk_cell BKD.out 1).trans rfl
            repeat (go_quiet (fail))
            go_wp2_with (fail)
            go_roundw
            case rel => exact ⟨2, by omega, by go_num, ⟨blk_below HBK.out (pw_below_drewN HBD.out _)⟩, ⟨below_step HBW.out (pw_below_drewN HBD.out _)⟩⟩
            case measure => simp [intOf]
        · have BKD := BKW
          have hg0 : W.cell? ⟨gp, 0, none⟩ = some (.int .i64 fr) := (blk_cell BKD.out 0).trans rfl
          have hg1 : W.cell? ⟨gp, 1, none⟩ = some (.slice Aq prts.length cq) := (blk_cell BKD.out 1).trans rfl
          obtain ⟨rfl, rfl, rfl⟩ := H4.out ce
          have e5 : (e == 0) = false := beq_eq_false_iff_ne.mpr ce
          have e6 : (e != 0) = true := bne_iff_ne.mpr ce
          repeat (go_quiet (fail))
          go_wp2_with (fail)
          go_roundw
          case rel => exact ⟨2, by omega, by go_num, ⟨blk_below HBK.out (pw_below_drewN HBD.out _)⟩, ⟨below_step HBW.out (pw_below_drewN HBD.out _)⟩⟩
          case measure => simp [intOf]
      · obtain ⟨k, pk, fr, prts, n, e, h1, h2, h3, h4⟩ := HP3.out r3 HR3W.out (by have := HR3L.out; omega)
        have H1 := Aside0.mk h1
        have H2 := Aside0.mk h2
        have H3 := Aside0.mk h3
        have H4 := Aside0.mk h4
        clear h1 h2 h3 h4
        have HCl := Aside0.mk (Kd.C_below HC8.out HBW.out)
        go_wp2_with (fail)
        refine (milestonelaw13_packet.calls k A8 c8 r3 pk _ HCl.out HL8.out H1.out).mono ?_
        rintro e_ w10 ⟨v10, rfl, ho, hb⟩
        obtain ⟨Ap, cp, hv, hlp, hCp⟩ := Kd.R_reads ho
        subst hv
        have HCp := Aside0.mk hCp
        have HBr := Aside0.mk hb
        have HCl1 := Aside0.mk (Kd.C_below HCl.out hb)
        clear hb ho hCp HCl
        go_wp2_with (fail)
        refine (message_Decode.calls k Ap cp pk fr prts n e _ HCp.out hlp H2.out).mono ?_
        rintro e_ w11 ⟨v11, rfl, ho, hb⟩
        obtain ⟨Aq, cq, hv, hlq, hCq⟩ := Kd.R_reads ho
        subst hv
        have HCq := Aside0.mk hCq
        have HBr1 := Aside0.mk (below_step HBr.out hb)
        have HCl2 := Aside0.mk (Kd.C_below HCl1.out hb)
        clear hb ho hCq HCl1 HBr HCp hcell0 hcell1 hcell2
        go_wp2_with (((with_reducible refine gate_dst (N := 14) rfl ?_); (try (refine gate_guard (by rfl) ?_; dsimp only)); refine box_event ?hg (N := 14) ?hd (cs := #[.int .i64 0, .slice none 0 0]) (t := 34) ?hr ?_; (case hd => rfl); (case hg => rfl); (case hr => first | (go_simp; done) | (go_simp; rfl)); intro gp hg wp hbox hb; have BKp := Aside0.mk hbox; have HBp := Aside0.mk hb; have GEp := Aside0.mk (Nat.le_of_eq hg.symm : w11.heap.size ≤ gp); clear hb hbox hg; have hz0 : wp.cell? ⟨gp, 0, none⟩ = some (.int .i64 0) := (blk_cell BKp.out 0).trans rfl; have hz1 : wp.cell? ⟨gp, 1, none⟩ = some (.slice none 0 0) := (blk_cell BKp.out 1).trans rfl; have hy0 := blk_frozen BKp.out 0; have hy1 := blk_frozen BKp.out 1))
        obtain ⟨W, hW⟩ : ∃ W : World, W = ((wp.setCell ⟨gp, 0, none⟩ (.int .i64 fr)).setCell ⟨gp, 1, none⟩ (.slice Aq prts.length cq)) := ⟨_, rfl⟩
        rw [← hW]
        have HBW2 := Aside0.mk (show Below w11.heap.size w11 W from by rw [hW]; exact below_set (below_set HBp.out GEp.out) GEp.out)
        have BKW := Aside0.mk (show W.heap[gp]? = some (.cells #[.int .i64 fr, .slice Aq prts.length cq] 34 (0, 0)) from by rw [hW]; refine blk_put (cs := #[.int .i64 fr, .slice none 0 0]) ?_ 1 _ rfl; refine blk_put (cs := #[.int .i64 0, .slice none 0 0]) ?_ 0 _ rfl; exact BKp.out)
        have HBD := Aside0.mk (below_step HBr1.out HBW2.out)
        have HClD := Aside0.mk (Kd.C_drew (Kd.C_below HCl2.out HBW2.out))
        have HCqD := Aside0.mk (Kd.C_drew (Kd.C_below HCq.out HBW2.out))
        clear hW BKp HBp GEp HBr1 HBW2 HCl2 HCq hz0 hz1 hy0 hy1
        by_cases ce : e = 0
        · subst ce
          by_cases cn : n = 0
          · subst cn
            have HE3 := Aside0.mk (H3.out rfl rfl)
            have BKD := Aside0.mk (blk_drew BKW.out)
            have HBD2 := Aside0.mk (below_drew1 HBD.out)
            clear HBD BKW
            have HBD := HBD2
            clear HBD2
            refine start_ (n := 15) (S := fun w' => w'.cell? ⟨gp, 0, none⟩ = some (.int .i64 fr) ∧ w'.cell? ⟨gp, 1, none⟩ = some (.slice Aq prts.length cq)) (ds := []) #[false, false, false, false, false, false, false, false, false, false, false, false, false, false, false] (by kernel_rfl) rfl rfl ⟨(blk_cell BKD.out 0).trans rfl, (blk_cell BKD.out 1).trans rfl⟩ (fun hHeld => ?_)
            generalize W.drew = w20 at BKD HBD HClD HCqD hHeld ⊢
            refine pure_ (i := 0) (N := some 61) (v := ?_) (a' := ?_) #[true, false, false, false, false, false, false, false, false, false, false, false, false, false, false] rfl rfl (by kernel_rfl) (fun _ _ _ h => h) (Or.inl ⟨by rfl, ?_⟩) ?_ ?_
            rotate_left
            · intro w'
              go_simp
              with_reducible rfl
            rotate_left
            · simp only [Act.put, List.setIfInBounds_toArray, List.set_cons_zero, List.set_cons_succ, i64_w, i32_w]
              rfl
            refine pure_ (i := 1) (N := some 62) (v := ?_) (a' := ?_) #[true, true, false, false, false, false, false, false, false, false, false, false, false, false, false] rfl rfl (by kernel_rfl) (fun _ _ _ h => h) (Or.inl ⟨by rfl, ?_⟩) ?_ ?_
            rotate_left
            · intro w'
              go_simp
              with_reducible rfl
            rotate_left
            · simp only [Act.put, List.setIfInBounds_toArray, List.set_cons_zero, List.set_cons_succ, i64_w, i32_w]
              rfl
            refine pure_ (i := 2) (N := some 63) (v := ?_) (a' := ?_) #[true, true, true, false, false, false, false, false, false, false, false, false, false, false, false] rfl rfl (by kernel_rfl) (fun _ _ _ h => h) (Or.inl ⟨by rfl, ?_⟩) ?_ ?_
            rotate_left
            · intro w'
              go_simp
              with_reducible rfl
            rotate_left
            · simp only [Act.put, List.setIfInBounds_toArray, List.set_cons_zero, List.set_cons_succ, i64_w, i32_w]
              rfl
            refine pure_ (i := 3) (N := some 64) (v := ?_) (a' := ?_) #[true, true, true, true, false, false, false, false, false, false, false, false, false, false, false] rfl rfl (by kernel_rfl) (fun _ _ _ h => h) (Or.inl ⟨by rfl, ?_⟩) ?_ ?_
            rotate_left
            · intro w'
              go_simp
              with_reducible rfl
            rotate_left
            · simp only [Act.put, List.setIfInBounds_toArray, List.set_cons_zero, List.set_cons_succ, i64_w, i32_w]
              rfl
            refine pure_ (i := 4) (N := some 65) (v := ?_) (a' := ?_) #[true, true, true, true, true, false, false, false, false, false, false, false, false, false, false] rfl rfl (by kernel_rfl) (fun _ _ _ h => h) (Or.inl ⟨by rfl, ?_⟩) ?_ ?_
            rotate_left
            · intro w'
              go_simp
              with_reducible rfl
            rotate_left
            · simp only [Act.put, List.setIfInBounds_toArray, List.set_cons_zero, List.set_cons_succ, i64_w, i32_w]
              rfl
            refine pure_ (i := 5) (N := some 66) (v := ?_) (a' := ?_) #[true, true, true, true, true, true, false, false, false, false, false, false, false, false, false] rfl rfl (by kernel_rfl) (fun _ _ _ h => h) (Or.inl ⟨by rfl, ?_⟩) ?_ ?_
            rotate_left
            · intro w'
              go_simp
              with_reducible rfl
            rotate_left
            · simp only [Act.put, List.setIfInBounds_toArray, List.set_cons_zero, List.set_cons_succ, i64_w, i32_w]
              rfl
            refine pure_ (i := 6) (N := some 67) (v := ?_) (a' := ?_) #[true, true, true, true, true, true, true, false, false, false, false, false, false, false, false] rfl rfl (by kernel_rfl) (fun _ _ _ h => h) (Or.inl ⟨by rfl, ?_⟩) ?_ ?_
            rotate_left
            · intro w'
              go_simp
              with_reducible rfl
            rotate_left
            · simp only [Act.put, List.setIfInBounds_toArray, List.set_cons_zero, List.set_cons_succ, i64_w, i32_w]
              rfl
            refine pure_ (i := 10) (N := some 71) (v := ?_) (a' := ?_) #[true, true, true, true, true, true, true, false, false, false, true, false, false, false, false] rfl rfl (by kernel_rfl) (fun _ _ _ h => h) (Or.inl ⟨by rfl, ?_⟩) ?_ ?_
            rotate_left
            · intro w'
              go_simp
              with_reducible rfl
            rotate_left
            · simp only [Act.put, List.setIfInBounds_toArray, List.set_cons_zero, List.set_cons_succ, i64_w, i32_w]
              rfl
            refine take_ (i := 7) (N := some 68) (v := ?_) (a' := ?_) #[true, true, true, true, true, true, true, true, false, false, true, false, false, false, false] rfl rfl (by kernel_rfl) (fun _ _ _ h => h) (Or.inl ⟨by rfl, ?_⟩) hHeld ?_ ?_
            rotate_left
            · rintro w' ⟨s0, s1⟩
              go_simp
              with_reducible rfl
            rotate_left
            · simp only [Act.put, List.setIfInBounds_toArray, List.set_cons_zero, List.set_cons_succ, i64_w, i32_w]
              rfl
            refine one_ (i := 8) (N := some 69) #[true, true, true, true, true, true, true, true, true, false, true, false, false, false, false] rfl rfl (by kernel_rfl) (by decide) (fun K hK => ?_)
            refine goes_ Try.func9 (by kernel_rfl) rfl #[.agg #[.int .i64 fr, .slice Aq prts.length cq]] (by rfl) rfl rfl (by simp only [List.map_toArray, List.map_cons, List.map_nil]; rfl) ?_
            with_reducible refine (message_Encode.calls k fr Aq cq prts pk _ HCqD.out hlq HE3.out).mono ?_
            rintro e_ w21 ⟨vz, rfl, ho, hb⟩
            obtain ⟨Ae, ce_, hvz, hlz, hCz⟩ := Kd.R_reads ho
            subst hvz
            refine ⟨_, rfl, ?_⟩
            have n0_ := Aside0.mk (blk_below BKD.out hb)
            have n1_ := Aside0.mk (below_step HBD.out hb)
            have n2_ := Aside0.mk (Kd.C_below HClD.out hb)
            have HCe := Aside0.mk hCz
            clear BKD HBD HClD ho hb hCz hlz
            have BKD := n0_
            have HBD := n1_
            have HClD := n2_
            clear n0_ n1_ n2_
            refine hK.out _ _ ⟨(blk_cell BKD.out 0).trans rfl, (blk_cell BKD.out 1).trans rfl⟩ (fun hHeld => ?_)
            clear hK K
            refine norm_ (a' := ?_) ?_ ?_
            rotate_left
            · show Act.put _ (some 69) _ = _
              simp only [Act.put, List.setIfInBounds_toArray, List.set_cons_zero, List.set_cons_succ, i64_w, i32_w]
              rfl
            refine two_ (i := 9) (j := 11) (Ni := some 70) (Nj := some 72) #[true, true, true, true, true, true, true, true, true, true, true, false, false, false, false] #[true, true, true, true, true, true, true, true, true, false, true, true, false, false, false] rfl rfl rfl rfl (by kernel_rfl) (by decide) (by decide) (fun K hK => ?_) (fun K hK => ?_)
            · skip
              have hcv := Kd.C_string (P := Try.prog) (A := Ae) (c := ce_) Try.underlying30 Try.underlying5 Try.underlying9 HCe.out
              refine value_ (w1 := ?_) (v := ?_) (by rfl) rfl ?_ ?_
              rotate_left 2
              · go_simp
                constructor
                · rfl
                · rfl
              clear hcv
              refine hK.out _ _ ⟨(blk_cell BKD.out 0).trans rfl, (blk_cell BKD.out 1).trans rfl⟩ (fun hHeld => ?_)
              clear hK K
              refine norm_ (a' := ?_) ?_ ?_
              rotate_left
              · show Act.put _ (some 70) _ = _
                simp only [Act.put, List.setIfInBounds_toArray, List.set_cons_zero, List.set_cons_succ, i64_w, i32_w]
                rfl
              refine one_ (i := 11) (N := some 72) #[true, true, true, true, true, true, true, true, true, true, true, true, false, false, false] rfl rfl (by kernel_rfl) (by decide) (fun K hK => ?_)
              refine goes_ Try.func14 (by kernel_rfl) rfl #[.slice A8 r3.length c8] (by rfl) rfl rfl (by simp only [List.map_toArray, List.map_cons, List.map_nil]; rfl) ?_
              with_reducible refine (milestonelaw13_packet.calls k A8 c8 r3 pk _ HClD.out HL8.out H1.out).mono ?_
              rintro e_ w22 ⟨vz, rfl, ho, hb⟩
              obtain ⟨Af, cf_, hvz, hlz, hCz⟩ := Kd.R_reads ho
              subst hvz
              refine ⟨_, rfl, ?_⟩
              have n0_ := Aside0.mk (blk_below BKD.out hb)
              have n1_ := Aside0.mk (below_step HBD.out hb)
              have n2_ := Aside0.mk (Kd.C_below HClD.out hb)
              have n3_ := Aside0.mk (Kd.C_below HCe.out hb)
              have HCf := Aside0.mk hCz
              clear BKD HBD HClD HCe ho hb hCz hlz
              have BKD := n0_
              have HBD := n1_
              have HClD := n2_
              have HCe := n3_
              clear n0_ n1_ n2_ n3_
              refine hK.out _ _ ⟨(blk_cell BKD.out 0).trans rfl, (blk_cell BKD.out 1).trans rfl⟩ (fun hHeld => ?_)
              clear hK K
              refine norm_ (a' := ?_) ?_ ?_
              rotate_left
              · show Act.put _ (some 72) _ = _
                simp only [Act.put, List.setIfInBounds_toArray, List.set_cons_zero, List.set_cons_succ, i64_w, i32_w]
                rfl
              refine one_ (i := 12) (N := some 73) #[true, true, true, true, true, true, true, true, true, true, true, true, true, false, false] rfl rfl (by kernel_rfl) (by decide) (fun K hK => ?_)
              have hcv := Kd.C_string (P := Try.prog) (A := Af) (c := cf_) Try.underlying30 Try.underlying5 Try.underlying9 HCf.out
              refine value_ (w1 := ?_) (v := ?_) (by rfl) rfl ?_ ?_
              rotate_left 2
              · go_simp
                constructor
                · rfl
                · rfl
              clear hcv
              refine hK.out _ _ ⟨(blk_cell BKD.out 0).trans rfl, (blk_cell BKD.out 1).trans rfl⟩ (fun hHeld => ?_)
              clear hK K
              refine norm_ (a' := ?_) ?_ ?_
              rotate_left
              · show Act.put _ (some 73) _ = _
                simp only [Act.put, List.setIfInBounds_toArray, List.set_cons_zero, List.set_cons_succ, i64_w, i32_w]
                rfl
              refine pure_ (i := 13) (N := some 74) (v := ?_) (a' := ?_) #[true, true, true, true, true, true, true, true, true, true, true, true, true, true, false] rfl rfl (by kernel_rfl) (fun _ _ _ h => h) (Or.inl ⟨by rfl, ?_⟩) ?_ ?_
              rotate_left
              · intro w'
                go_simp
                with_reducible rfl
              rotate_left
              · simp only [Act.put, List.setIfInBounds_toArray, List.set_cons_zero, List.set_cons_succ, i64_w, i32_w]
                rfl
              refine pure_ (i := 14) (N := some 75) (v := ?_) (a' := ?_) #[true, true, true, true, true, true, true, true, true, true, true, true, true, true, true] rfl rfl (by kernel_rfl) (fun _ _ _ h => h) (Or.inl ⟨by rfl, ?_⟩) ?_ ?_
              rotate_left
              · intro w'
                go_simp
                with_reducible rfl
              rotate_left
              · simp only [Act.put, List.setIfInBounds_toArray, List.set_cons_zero, List.set_cons_succ, i64_w, i32_w]
                rfl
              refine done_ (by kernel_rfl) ?_
              have hg0 := (show _ from hHeld.1)
              have hg1 := (show _ from hHeld.2)
              go_wp2_with (fail)
              go_roundw
              case rel => exact ⟨3, by omega, by go_num, ⟨blk_below HBK.out HBD.out⟩, ⟨below_step HBW.out HBD.out⟩⟩
              case measure => simp [intOf]
            · skip
              refine goes_ Try.func14 (by kernel_rfl) rfl #[.slice A8 r3.length c8] (by rfl) rfl rfl (by simp only [List.map_toArray, List.map_cons, List.map_nil]; rfl) ?_
              with_reducible refine (milestonelaw13_packet.calls k A8 c8 r3 pk _ HClD.out HL8.out H1.out).mono ?_
              rintro e_ w22 ⟨vz, rfl, ho, hb⟩
              obtain ⟨Af, cf_, hvz, hlz, hCz⟩ := Kd.R_reads ho
              subst hvz
              refine ⟨_, rfl, ?_⟩
              have n0_ := Aside0.mk (blk_below BKD.out hb)
              have n1_ := Aside0.mk (below_step HBD.out hb)
              have n2_ := Aside0.mk (Kd.C_below HClD.out hb)
              have n3_ := Aside0.mk (Kd.C_below HCe.out hb)
              have HCf := Aside0.mk hCz
              clear BKD HBD HClD HCe ho hb hCz hlz
              have BKD := n0_
              have HBD := n1_
              have HClD := n2_
              have HCe := n3_
              clear n0_ n1_ n2_ n3_
              refine hK.out _ _ ⟨(blk_cell BKD.out 0).trans rfl, (blk_cell BKD.out 1).trans rfl⟩ (fun hHeld => ?_)
              clear hK K
              refine norm_ (a' := ?_) ?_ ?_
              rotate_left
              · show Act.put _ (some 72) _ = _
                simp only [Act.put, List.setIfInBounds_toArray, List.set_cons_zero, List.set_cons_succ, i64_w, i32_w]
                rfl
              refine two_ (i := 9) (j := 12) (Ni := some 70) (Nj := some 73) #[true, true, true, true, true, true, true, true, true, true, true, true, false, false, false] #[true, true, true, true, true, true, true, true, true, false, true, true, true, false, false] rfl rfl rfl rfl (by kernel_rfl) (by decide) (by decide) (fun K hK => ?_) (fun K hK => ?_)
              · skip
                have hcv := Kd.C_string (P := Try.prog) (A := Ae) (c := ce_) Try.underlying30 Try.underlying5 Try.underlying9 HCe.out
                refine value_ (w1 := ?_) (v := ?_) (by rfl) rfl ?_ ?_
                rotate_left 2
                · go_simp
                  constructor
                  · rfl
                  · rfl
                clear hcv
                refine hK.out _ _ ⟨(blk_cell BKD.out 0).trans rfl, (blk_cell BKD.out 1).trans rfl⟩ (fun hHeld => ?_)
                clear hK K
                refine norm_ (a' := ?_) ?_ ?_
                rotate_left
                · show Act.put _ (some 70) _ = _
                  simp only [Act.put, List.setIfInBounds_toArray, List.set_cons_zero, List.set_cons_succ, i64_w, i32_w]
                  rfl
                refine one_ (i := 12) (N := some 73) #[true, true, true, true, true, true, true, true, true, true, true, true, true, false, false] rfl rfl (by kernel_rfl) (by decide) (fun K hK => ?_)
                have hcv := Kd.C_string (P := Try.prog) (A := Af) (c := cf_) Try.underlying30 Try.underlying5 Try.underlying9 HCf.out
                refine value_ (w1 := ?_) (v := ?_) (by rfl) rfl ?_ ?_
                rotate_left 2
                · go_simp
                  constructor
                  · rfl
                  · rfl
                clear hcv
                refine hK.out _ _ ⟨(blk_cell BKD.out 0).trans rfl, (blk_cell BKD.out 1).trans rfl⟩ (fun hHeld => ?_)
                clear hK K
                refine norm_ (a' := ?_) ?_ ?_
                rotate_left
                · show Act.put _ (some 73) _ = _
                  simp only [Act.put, List.setIfInBounds_toArray, List.set_cons_zero, List.set_cons_succ, i64_w, i32_w]
                  rfl
                refine pure_ (i := 13) (N := some 74) (v := ?_) (a' := ?_) #[true, true, true, true, true, true, true, true, true, true, true, true, true, true, false] rfl rfl (by kernel_rfl) (fun _ _ _ h => h) (Or.inl ⟨by rfl, ?_⟩) ?_ ?_
                rotate_left
                · intro w'
                  go_simp
                  with_reducible rfl
                rotate_left
                · simp only [Act.put, List.setIfInBounds_toArray, List.set_cons_zero, List.set_cons_succ, i64_w, i32_w]
                  rfl
                refine pure_ (i := 14) (N := some 75) (v := ?_) (a' := ?_) #[true, true, true, true, true, true, true, true, true, true, true, true, true, true, true] rfl rfl (by kernel_rfl) (fun _ _ _ h => h) (Or.inl ⟨by rfl, ?_⟩) ?_ ?_
                rotate_left
                · intro w'
                  go_simp
                  with_reducible rfl
                rotate_left
                · simp only [Act.put, List.setIfInBounds_toArray, List.set_cons_zero, List.set_cons_succ, i64_w, i32_w]
                  rfl
                refine done_ (by kernel_rfl) ?_
                have hg0 := (show _ from hHeld.1)
                have hg1 := (show _ from hHeld.2)
                go_wp2_with (fail)
                go_roundw
                case rel => exact ⟨3, by omega, by go_num, ⟨blk_below HBK.out HBD.out⟩, ⟨below_step HBW.out HBD.out⟩⟩
                case measure => simp [intOf]
              · skip
                have hcv := Kd.C_string (P := Try.prog) (A := Af) (c := cf_) Try.underlying30 Try.underlying5 Try.underlying9 HCf.out
                refine value_ (w1 := ?_) (v := ?_) (by rfl) rfl ?_ ?_
                rotate_left 2
                · go_simp
                  constructor
                  · rfl
                  · rfl
                clear hcv
                refine hK.out _ _ ⟨(blk_cell BKD.out 0).trans rfl, (blk_cell BKD.out 1).trans rfl⟩ (fun hHeld => ?_)
                clear hK K
                refine norm_ (a' := ?_) ?_ ?_
                rotate_left
                · show Act.put _ (some 73) _ = _
                  simp only [Act.put, List.setIfInBounds_toArray, List.set_cons_zero, List.set_cons_succ, i64_w, i32_w]
                  rfl
                refine one_ (i := 9) (N := some 70) #[true, true, true, true, true, true, true, true, true, true, true, true, true, false, false] rfl rfl (by kernel_rfl) (by decide) (fun K hK => ?_)
                have hcv := Kd.C_string (P := Try.prog) (A := Ae) (c := ce_) Try.underlying30 Try.underlying5 Try.underlying9 HCe.out
                refine value_ (w1 := ?_) (v := ?_) (by rfl) rfl ?_ ?_
                rotate_left 2
                · go_simp
                  constructor
                  · rfl
                  · rfl
                clear hcv
                refine hK.out _ _ ⟨(blk_cell BKD.out 0).trans rfl, (blk_cell BKD.out 1).trans rfl⟩ (fun hHeld => ?_)
                clear hK K
                refine norm_ (a' := ?_) ?_ ?_
                rotate_left
                · show Act.put _ (some 70) _ = _
                  simp only [Act.put, List.setIfInBounds_toArray, List.set_cons_zero, List.set_cons_succ, i64_w, i32_w]
                  rfl
                refine pure_ (i := 13) (N := some 74) (v := ?_) (a' := ?_) #[true, true, true, true, true, true, true, true, true, true, true, true, true, true, false] rfl rfl (by kernel_rfl) (fun _ _ _ h => h) (Or.inl ⟨by rfl, ?_⟩) ?_ ?_
                rotate_left
                · intro w'
                  go_simp
                  with_reducible rfl
                rotate_left
                · simp only [Act.put, List.setIfInBounds_toArray, List.set_cons_zero, List.set_cons_succ, i64_w, i32_w]
                  rfl
                refine pure_ (i := 14) (N := some 75) (v := ?_) (a' := ?_) #[true, true, true, true, true, true, true, true, true, true, true, true, true, true, true] rfl rfl (by kernel_rfl) (fun _ _ _ h => h) (Or.inl ⟨by rfl, ?_⟩) ?_ ?_
                rotate_left
                · intro w'
                  go_simp
                  with_reducible rfl
                rotate_left
                · simp only [Act.put, List.setIfInBounds_toArray, List.set_cons_zero, List.set_cons_succ, i64_w, i32_w]
                  rfl
                refine done_ (by kernel_rfl) ?_
                have hg0 := (show _ from hHeld.1)
                have hg1 := (show _ from hHeld.2)
                go_wp2_with (fail)
                go_roundw
                case rel => exact ⟨3, by omega, by go_num, ⟨blk_below HBK.out HBD.out⟩, ⟨below_step HBW.out HBD.out⟩⟩
                case measure => simp [intOf]
          · have e5 : (n == 0) = false := beq_eq_false_iff_ne.mpr cn
            have BKD := BKW
            have hg0 : W.cell? ⟨gp, 0, none⟩ = some (.int .i64 fr) := (blk_cell BKD.out 0).trans rfl
            have hg1 : W.cell? ⟨gp, 1, none⟩ = some (.slice Aq prts.length cq) := (blk_cell BKD.out 1).trans rfl
            repeat (go_quiet (fail))
            go_wp2_with (fail)
            go_roundw
            case rel => exact ⟨3, by omega, by go_num, ⟨blk_below HBK.out (pw_below_drewN HBD.out _)⟩, ⟨below_step HBW.out (pw_below_drewN HBD.out _)⟩⟩
            case measure => simp [intOf]
        · have BKD := BKW
          have hg0 : W.cell? ⟨gp, 0, none⟩ = some (.int .i64 fr) := (blk_cell BKD.out 0).trans rfl
          have hg1 : W.cell? ⟨gp, 1, none⟩ = some (.slice Aq prts.length cq) := (blk_cell BKD.out 1).trans rfl
          obtain ⟨rfl, rfl, rfl⟩ := H4.out ce
          have e5 : (e == 0) = false := beq_eq_false_iff_ne.mpr ce
          have e6 : (e != 0) = true := bne_iff_ne.mpr ce
          repeat (go_quiet (fail))
          go_wp2_with (fail)
          go_roundw
          case rel => exact ⟨3, by omega, by go_num, ⟨blk_below HBK.out (pw_below_drewN HBD.out _)⟩, ⟨below_step HBW.out (pw_below_drewN HBD.out _)⟩⟩
          case measure => simp [intOf]
      · go_wp2
        go_ret
        exact ⟨rfl, below_step HBl.out HBW.out⟩
  · have e1 : decide (60 < (l0.length : Int)) = true := decide_eq_true (by omega)
    have e2 : decide (60 < l0.length) = true := decide_eq_true (by omega)
    go_enter Try.func6, Try.ntmps6
    go_wp2_with (((with_reducible refine gate_dst (N := 7) rfl ?_); (try (refine gate_guard (by rfl) ?_; dsimp only)); refine box_event ?hg (N := 7) ?hd (cs := #[.int .u8 a2_0, .int .u64 a2_1, .int .i64 a2_2, .int .u32 a2_3, .int .u8 a2_4, .int .u16 a2_5, .int .u16 a2_6]) (t := 28) ?hr ?_; (case hd => rfl); (case hg => rfl); (case hr => first | (go_simp; done) | (go_simp; rfl)); intro gx hg wx hbox hb; have BKX := Aside0.mk hbox; have HBX := Aside0.mk hb; clear hb hbox hg))
    refine (milestonelaw13_awake.calls ka true _ HA.out).mono ?_
    rintro e w1 ⟨rfl, hb⟩
    have HB := Aside0.mk (below_step HBX.out hb)
    clear hb
    go_wp2_with (fail)
    refine (milestonelaw13_awake.calls ka true _ HA.out).mono ?_
    rintro e w2 ⟨rfl, hb⟩
    have HB2 := Aside0.mk (below_step HB.out hb)
    clear hb
    go_wp2_with (fail)
    go_ret
    exact ⟨rfl, HB2.out⟩

end Go.Proofs.Ytnfdgpmdakciiaa.QMessageReads
