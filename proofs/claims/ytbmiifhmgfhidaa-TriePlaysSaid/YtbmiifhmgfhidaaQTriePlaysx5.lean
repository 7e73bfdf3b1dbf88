-- Lines by a program of this session, for this claim.
import Derived.Test.YtbmiifhmgfhidaaQTriePlaysx0
import Derived.Test.YtbmiifhmgfhidaaQTriePlaysx3
import Derived.Test.YtbmiifhmgfhidaaQTriePlaysx4
namespace Go.Proofs.Ytbmiifhmgfhidaa.QTriePlays
open Go.RowKit Go.Proofs.YtbmiifhmgfhidaaW.PrintWords Go.Proofs.YtbmiifhmgfhidaaW.PrintLast Go.Proofs.YtbmiifhmgfhidaaW.PrintMore
attribute [local go_sem] max2_int min2_int max_two min_two max_three min_three max_four min_four   -- for this text's walks alone
set_option linter.unusedVariables false
set_option linter.unusedSimpArgs false

/-! ### trie_Of: function 9 -/
def trie_Of.l : List S33 → Tr S33 → Option (Tr S33)
  | [], T => some T
  | r :: l, T => (trie_Trie_Put.f T r.f0.f0 r.f0.f1 r.f1 r.f2 r.f3).bind fun x => trie_Of.l l x.2
def trie_Of.f (l0 : List S33) : Option (Tr S33) := if l0.length ≤ 1000000 then trie_Of.l l0 (Tr.node none Tr.nil Tr.nil) else none
set_option maxHeartbeats 8000000 in
set_option maxRecDepth 100000 in
theorem trie_Of.calls (A0 : Option Addr) (c0 : Nat) (l0 : List S33) (r1 : Tr S33) (w0 w : World) (hB : Below w0.heap.size w0 w) (hr0 : Kd.C k33 w A0 l0.length l0) (hc0 : l0.length ≤ c0) (h : trie_Of.f l0 = some r1) :
    Calls Try.prog 9 #[.slice A0 l0.length c0] w fun e w' => ∃ g_ : Nat, e = .returned (.pointer (some ⟨g_, 0, none⟩)) ∧ IsS46 w0 w' g_ r1 ∧ Below w0.heap.size w0 w' ∧ Below w.heap.size w w' := by
  have hu33 := Try.underlying33
  have hu46 := Try.underlying46
  have HR := Aside0.mk hr0
  have HB := Aside0.mk hB
  have hmx : l0.length ≤ 1000000 := by
    by_cases h2 : l0.length ≤ 1000000
    · exact h2
    · unfold trie_Of.f at h; rw [if_neg h2] at h; cases h
  have HF := Aside0.mk (show trie_Of.l l0 (Tr.node none Tr.nil Tr.nil) = some r1 from by unfold trie_Of.f at h; rw [if_pos hmx] at h; exact h)
  clear hr0 hB h
  have wk : ∀ {w1 : World} {g : Nat} {T : Tr S33}, IsS46 w w1 g T → IsS46 w0 w1 g T := fun ⟨o, a, b, bs, e, hn, hd, hg⟩ => ⟨o, a, b, bs, e, hn, hd, fun k hk => Nat.le_trans HB.out.size (hg k hk)⟩
  go_enter Try.func9, Try.ntmps9
  go_wp2_with ((with_reducible refine gate_dst (N := 7) rfl ?_); (try (refine gate_guard (by rfl) ?_; dsimp only)); refine box_event ?hg (N := 7) ?hd (cs := #[.bool false, .int .u32 0, .int .u8 0, .int .i64 0, .int .u16 0, .int .u16 0, .pointer none, .pointer none, .int .i64 0]) (t := 46) ?hr ?_; (case hd => rfl); (case hg => rfl); (case hr => first | (go_simp; done) | (go_simp; rfl)); intro g3 hg w3 hbox hb; have HI := Aside0.mk (IsS46.mk0 (w0 := w) hbox (Nat.le_of_eq hg.symm)); have HB3 := Aside0.mk hb; clear hb hbox hg)
  go_loopg [10] l0.length (fun kx s10 wr => ∃ (j : Nat) (T : Tr S33), s10 = .int .i64 j ∧ j ≤ l0.length ∧ l0.length - j ≤ kx ∧ Aside0 (IsS46 w wr g3 T) ∧ Aside0 (trie_Of.l (l0.drop j) T = some r1) ∧ Aside0 (Below w.heap.size w wr))
  case atStart => exact ⟨0, _, rfl, Nat.zero_le _, Nat.le_refl _, HI, HF, HB3⟩
  case round =>
    clear HI HB3 HF
    obtain ⟨j, T, rfl, hj, hgas, HI, HF, HBW⟩ := hrel
    by_cases hlt : j < l0.length
    · have p1 : decide ((j : Int) < (l0.length : Int)) = true := decide_eq_true (by omega)
      have p2 : decide (0 ≤ (j : Int)) = true := decide_eq_true (by omega)
      obtain ⟨ad, e0, hx0, hx1, hx2, hx3, hx4⟩ := at_T33 (Kd.C_below HR.out HBW.out) (j : Int) (by omega) (by omega)
      cases e0
      simp only [Int.toNat_natCast] at hx0 hx1 hx2 hx3 hx4
      have hdrop : l0.drop j = rd_T33 l0 (j : Int) :: l0.drop (j + 1) := by
        rw [List.drop_eq_getElem_cons hlt]
        congr 1
        show l0[j] = l0.getD (j : Int).toNat z33
        rw [Int.toNat_natCast, List.getD_eq_getElem?_getD, List.getElem?_eq_getElem hlt]
        rfl
      have hf := HF.out
      rw [hdrop] at hf
      obtain ⟨⟨e1, T1⟩, hput, hf2⟩ := Option.bind_eq_some_iff.mp (show ((trie_Trie_Put.f T (rd_T33 l0 (j : Int)).f0.f0 (rd_T33 l0 (j : Int)).f0.f1 (rd_T33 l0 (j : Int)).f1 (rd_T33 l0 (j : Int)).f2 (rd_T33 l0 (j : Int)).f3).bind fun x => trie_Of.l (l0.drop (j + 1)) x.2) = some r1 from hf)
      have HPUT := Aside0.mk hput
      have HF2 := Aside0.mk (show trie_Of.l (l0.drop (j + 1)) T1 = some r1 from hf2)
      clear hput hf2 hf hdrop HF
      go_upto_region 5 with ((with_reducible refine gate_dst (N := 5) rfl ?_); (try (refine gate_guard (by rfl) ?_; dsimp only)); refine box_event ?hg (N := 5) ?hd (cs := #[.int .u32 0, .int .u8 0, .int .i64 0, .int .u16 0, .int .u16 0]) (t := 33) ?hr ?_; (case hd => rfl); (case hg => rfl); (case hr => first | (go_simp; done) | (go_simp; rfl)); intro g5 hg w5 hbox hb; have BK := Aside0.mk hbox; have GE := Aside0.mk (Nat.le_of_eq hg.symm); have HB5 := Aside0.mk hb; clear hb hbox hg; have z0 : w5.cell? ⟨g5, 0, none⟩ = some (.int .u32 0) := (blk_cell BK.out 0).trans rfl; have z1 : w5.cell? ⟨g5, 1, none⟩ = some (.int .u8 0) := (blk_cell BK.out 1).trans rfl; have z2 : w5.cell? ⟨g5, 2, none⟩ = some (.int .i64 0) := (blk_cell BK.out 2).trans rfl; have z3 : w5.cell? ⟨g5, 3, none⟩ = some (.int .u16 0) := (blk_cell BK.out 3).trans rfl; have z4 : w5.cell? ⟨g5, 4, none⟩ = some (.int .u16 0) := (blk_cell BK.out 4).trans rfl; have y0 := blk_frozen BK.out 0; have y1 := blk_frozen BK.out 1; have y2 := blk_frozen BK.out 2; have y3 := blk_frozen BK.out 3; have y4 := blk_frozen BK.out 4)
      obtain ⟨W, hW⟩ : ∃ W : World, W = (((((w5.setCell ⟨g5, 0, none⟩ (.int .u32 (rd_T33 l0 (j : Int)).f0.f0)).setCell ⟨g5, 1, none⟩ (.int .u8 (rd_T33 l0 (j : Int)).f0.f1)).setCell ⟨g5, 2, none⟩ (.int .i64 (rd_T33 l0 (j : Int)).f1)).setCell ⟨g5, 3, none⟩ (.int .u16 (rd_T33 l0 (j : Int)).f2)).setCell ⟨g5, 4, none⟩ (.int .u16 (rd_T33 l0 (j : Int)).f3)) := ⟨_, rfl⟩
      rw [← hW]
      have n1 := BK.out
      have n2 := blk_put (cs' := #[.int .u32 (rd_T33 l0 (j : Int)).f0.f0, .int .u8 0, .int .i64 0, .int .u16 0, .int .u16 0]) n1 0 (.int .u32 (rd_T33 l0 (j : Int)).f0.f0) rfl
      have n3 := blk_put (cs' := #[.int .u32 (rd_T33 l0 (j : Int)).f0.f0, .int .u8 (rd_T33 l0 (j : Int)).f0.f1, .int .i64 0, .int .u16 0, .int .u16 0]) n2 1 (.int .u8 (rd_T33 l0 (j : Int)).f0.f1) rfl
      have n4 := blk_put (cs' := #[.int .u32 (rd_T33 l0 (j : Int)).f0.f0, .int .u8 (rd_T33 l0 (j : Int)).f0.f1, .int .i64 (rd_T33 l0 (j : Int)).f1, .int .u16 0, .int .u16 0]) n3 2 (.int .i64 (rd_T33 l0 (j : Int)).f1) rfl
      have n5 := blk_put (cs' := #[.int .u32 (rd_T33 l0 (j : Int)).f0.f0, .int .u8 (rd_T33 l0 (j : Int)).f0.f1, .int .i64 (rd_T33 l0 (j : Int)).f1, .int .u16 (rd_T33 l0 (j : Int)).f2, .int .u16 0]) n4 3 (.int .u16 (rd_T33 l0 (j : Int)).f2) rfl
      have n6 := blk_put (cs' := #[.int .u32 (rd_T33 l0 (j : Int)).f0.f0, .int .u8 (rd_T33 l0 (j : Int)).f0.f1, .int .i64 (rd_T33 l0 (j : Int)).f1, .int .u16 (rd_T33 l0 (j : Int)).f2, .int .u16 (rd_T33 l0 (j : Int)).f3]) n5 4 (.int .u16 (rd_T33 l0 (j : Int)).f3) rfl
      have BKW := Aside0.mk (show W.heap[g5]? = some (.cells #[.int .u32 (rd_T33 l0 (j : Int)).f0.f0, .int .u8 (rd_T33 l0 (j : Int)).f0.f1, .int .i64 (rd_T33 l0 (j : Int)).f1, .int .u16 (rd_T33 l0 (j : Int)).f2, .int .u16 (rd_T33 l0 (j : Int)).f3] 33 (0, 0)) from by rw [hW]; exact n6)
      have geW : w.heap.size ≤ g5 := Nat.le_trans HBW.out.size GE.out
      have HBW2 := Aside0.mk (show Below w.heap.size w W from by rw [hW]; exact below_set (below_set (below_set (below_set (below_set (below_step HBW.out HB5.out) geW) geW) geW) geW) geW)
      have HI2 := Aside0.mk (show IsS46 w W g3 T from by rw [hW]; exact (((((HI.out.below HB5.out).far (.of_blk n1 (by decide) (by decide)) _).far (.of_blk n2 (by decide) (by decide)) _).far (.of_blk n3 (by decide) (by decide)) _).far (.of_blk n4 (by decide) (by decide)) _).far (.of_blk n5 (by decide) (by decide)) _)
      clear n1 n2 n3 n4 n5 n6 geW hW z0 z1 z2 z3 z4 y0 y1 y2 y3 y4 hx0 hx1 hx2 hx3 hx4 BK HB5 HI HBW
      have z0 : W.cell? ⟨g5, 0, none⟩ = some (.int .u32 (rd_T33 l0 (j : Int)).f0.f0) := (blk_cell BKW.out 0).trans rfl
      have z1 : W.cell? ⟨g5, 1, none⟩ = some (.int .u8 (rd_T33 l0 (j : Int)).f0.f1) := (blk_cell BKW.out 1).trans rfl
      have z2 : W.cell? ⟨g5, 2, none⟩ = some (.int .i64 (rd_T33 l0 (j : Int)).f1) := (blk_cell BKW.out 2).trans rfl
      have z3 : W.cell? ⟨g5, 3, none⟩ = some (.int .u16 (rd_T33 l0 (j : Int)).f2) := (blk_cell BKW.out 3).trans rfl
      have z4 : W.cell? ⟨g5, 4, none⟩ = some (.int .u16 (rd_T33 l0 (j : Int)).f3) := (blk_cell BKW.out 4).trans rfl
      go_wp2_with (fail)
      refine (trie_Trie_Put.calls g3 T (rd_T33 l0 (j : Int)).f0.f0 (rd_T33 l0 (j : Int)).f0.f1 (rd_T33 l0 (j : Int)).f1 (rd_T33 l0 (j : Int)).f2 (rd_T33 l0 (j : Int)).f3 e1 T1 w W HI2.out HBW2.out HPUT.out).mono ?_
      rintro e w8 ⟨rfl, hi, hb, hk⟩
      have HI3 := Aside0.mk hi
      have HB3 := Aside0.mk hb
      clear hi hb hk z0 z1 z2 z3 z4
      go_wp2_with (fail)
      go_roundg (l0.length - (j + 1))
      case measure => omega
      case rel => exact ⟨j + 1, T1, by go_num, by omega, Nat.le_refl _, HI3, HF2, HB3⟩
    · have p1 : decide ((j : Int) < (l0.length : Int)) = false := decide_eq_false (by omega)
      have hdrop : l0.drop j = [] := List.drop_eq_nil_of_le (by omega)
      have hf := HF.out
      rw [hdrop] at hf
      have e : T = r1 := Option.some.inj hf
      subst e
      clear hf HF
      go_wp2_with (fail)
      go_ret
      exact ⟨g3, rfl, wk HI.out, below_step HB.out HBW.out, HBW.out⟩

/-! ### trie_Trie_Len: function 11 -/
def trie_Trie_Len.f (T : Tr S33) : Option (Int × Tr S33) := some ((T.all.length : Int), T)
set_option maxHeartbeats 8000000 in
set_option maxRecDepth 100000 in
theorem trie_Trie_Len.calls (g : Nat) (T : Tr S33) (r1 : Int) (r2 : Tr S33) (w0 w : World) (hI : IsS46 w0 w g T) (hB : Below w0.heap.size w0 w) (h : trie_Trie_Len.f T = some (r1, r2)) :
    Calls Try.prog 11 #[.pointer (some ⟨g, 0, none⟩)] w fun e w' => e = .returned (.int .i64 r1) ∧ IsS46 w0 w' g r2 ∧ Below w0.heap.size w0 w' ∧ KeepT w w' := by
  have hu46 := Try.underlying46
  unfold trie_Trie_Len.f at h
  simp only [Option.some.injEq, Prod.mk.injEq] at h
  obtain ⟨rfl, rfl⟩ := h
  have HI := Aside0.mk hI
  have HB := Aside0.mk hB
  obtain ⟨o, a, b, bs, rfl, hn, _, _⟩ := hI
  obtain ⟨va, vb, ba, bb, hx, _, _, _⟩ := hn
  have c8 := hx.n
  clear hx hB
  go_enter Try.func11, Try.ntmps11
  go_wp2_with (fail)
  go_ret
  exact ⟨rfl, HI.out, HB.out, KeepT.refl _⟩

/-! ### trie_Trie_Look: function 16 -/
def trie_Trie_Look.f (T : Tr S33) (a1 : Int) : Option (Int × Int × Int × Int × Int × Bool × Tr S33) :=
  some ((oR (T.look (pathFrom a1 32 0) none)).f0.f0, (oR (T.look (pathFrom a1 32 0) none)).f0.f1, (oR (T.look (pathFrom a1 32 0) none)).f1, (oR (T.look (pathFrom a1 32 0) none)).f2, (oR (T.look (pathFrom a1 32 0) none)).f3, (T.look (pathFrom a1 32 0) none).isSome, T)
set_option maxHeartbeats 8000000 in
set_option maxRecDepth 100000 in
theorem trie_Trie_Look.calls (g : Nat) (T : Tr S33) (a1 : Int) (r1 r2 r3 r4 r5 : Int) (r6 : Bool) (r7 : Tr S33) (w0 w : World) (hI : IsS46 w0 w g T) (hB : Below w0.heap.size w0 w) (h : trie_Trie_Look.f T a1 = some (r1, r2, r3, r4, r5, r6, r7)) :
    Calls Try.prog 16 #[.pointer (some ⟨g, 0, none⟩), .int .u32 a1] w fun e w' => e = .returned (.tuple #[.agg #[.int .u32 r1, .int .u8 r2, .int .i64 r3, .int .u16 r4, .int .u16 r5], .bool r6]) ∧ IsS46 w0 w' g r7 ∧ Below w0.heap.size w0 w' ∧ KeepT w w' := by
  have hu33 := Try.underlying33
  have hu44 := Try.underlying44
  have hu46 := Try.underlying46
  have hu42 := Try.underlying42
  unfold trie_Trie_Look.f at h
  simp only [Option.some.injEq, Prod.mk.injEq] at h
  obtain ⟨rfl, rfl, rfl, rfl, rfl, rfl, rfl⟩ := h
  obtain ⟨d0, hd0⟩ : ∃ d0, T.look (pathFrom a1 32 0) none = d0 := ⟨_, rfl⟩
  rw [hd0]
  have HI := Aside0.mk hI
  have HB := Aside0.mk hB
  have HD := Aside0.mk hd0
  clear hI hB hd0
  refine Calls.mono (R := fun e w' => e = .returned (.tuple #[.agg #[.int .u32 (oR d0).f0.f0, .int .u8 (oR d0).f0.f1, .int .i64 (oR d0).f1, .int .u16 (oR d0).f2, .int .u16 (oR d0).f3], .bool d0.isSome]) ∧ Below w.heap.size w w') ?_ (fun e w' hq => ⟨hq.1, HI.out.below hq.2, below_step HB.out hq.2, KeepT.of_below hq.2⟩)
  go_enter Try.func16, Try.ntmps16
  go_wp2_with (first | ((with_reducible refine gate_dst (N := 4) rfl ?_); (try (refine gate_guard (by rfl) ?_; dsimp only)); refine box_event ?hg (N := 4) ?hd (cs := #[.int .u32 0, .int .u8 0, .int .i64 0, .int .u16 0, .int .u16 0]) (t := 33) ?hr ?_; (case hd => rfl); (case hg => rfl); (case hr => first | (go_simp; done) | (go_simp; rfl)); intro g4 hg w4 hbox hb; have BK4 := Aside0.mk hbox; have GE4 := Aside0.mk (Nat.le_of_eq hg.symm); have HB4 := Aside0.mk hb; clear hb hbox hg) | ((with_reducible refine gate_dst (N := 6) rfl ?_); (try (refine gate_guard (by rfl) ?_; dsimp only)); refine box_event ?hg (N := 6) ?hd (cs := #[.int .u32 0, .int .u8 0, .int .i64 0, .int .u16 0, .int .u16 0]) (t := 33) ?hr ?_; (case hd => rfl); (case hg => rfl); (case hr => first | (go_simp; done) | (go_simp; rfl)); intro g6 hg w6 hbox hb; have BK46 := Aside0.mk (blk_below BK4.out hb); have BK6 := Aside0.mk hbox; have GE6 := Aside0.mk (Nat.le_trans HB4.out.size (Nat.le_of_eq hg.symm)); have NE := Aside0.mk (show g6 ≠ g4 from by have := blk_lt BK4.out; omega); have HB6 := Aside0.mk (below_step HB4.out hb); clear hb hbox hg BK4 HB4))
  have HC := Aside0.mk (HI.out.cur.below HB6.out)
  clear HI HB
  go_loopg [7, 8, 9] 33 (fun kx s7 s8 s9 wr => ∃ (i : Nat) (v : Value) (s : Tr S33) (d : Option S33), s7 = .bool d.isSome ∧ s8 = v ∧ s9 = .int .u8 i ∧ i ≤ 32 ∧ 33 - i ≤ kx ∧ Aside0 (Cur wr v s) ∧ Aside0 (s.look (pathFrom a1 (32 - i) i) d = d0) ∧ Aside0 (wr.heap[g4]? = some (.cells #[.int .u32 0, .int .u8 0, .int .i64 0, .int .u16 0, .int .u16 0] 33 (0, 0))) ∧ Aside0 (wr.heap[g6]? = some (.cells #[.int .u32 (oR d).f0.f0, .int .u8 (oR d).f0.f1, .int .i64 (oR d).f1, .int .u16 (oR d).f2, .int .u16 (oR d).f3] 33 (0, 0))) ∧ Aside0 (Below w.heap.size w wr))
  case atStart => exact ⟨0, _, T, none, rfl, rfl, rfl, Nat.zero_le _, by omega, HC, HD, BK46, BK6, HB6⟩
  case round =>
    clear HC HD BK46 BK6 HB6
    obtain ⟨i, v, s, d, rfl, rfl, rfl, hi, hgas, HC, HL, BK4, BKb, HB⟩ := hrel
    rcases HC.out with ⟨rfl, rfl⟩ | ⟨h, x, o, a, b, bs, rfl, rfl, hn⟩
    · have hl : d = d0 := by have := HL.out; cases (pathFrom a1 (32 - i) i) <;> exact this
      subst hl
      have b0 : wr.cell? ⟨g6, 0, none⟩ = some (.int .u32 (oR d).f0.f0) := (blk_cell BKb.out 0).trans rfl
      have b1 : wr.cell? ⟨g6, 1, none⟩ = some (.int .u8 (oR d).f0.f1) := (blk_cell BKb.out 1).trans rfl
      have b2 : wr.cell? ⟨g6, 2, none⟩ = some (.int .i64 (oR d).f1) := (blk_cell BKb.out 2).trans rfl
      have b3 : wr.cell? ⟨g6, 3, none⟩ = some (.int .u16 (oR d).f2) := (blk_cell BKb.out 3).trans rfl
      have b4 : wr.cell? ⟨g6, 4, none⟩ = some (.int .u16 (oR d).f3) := (blk_cell BKb.out 4).trans rfl
      have z0 : wr.cell? ⟨g4, 0, none⟩ = some (.int .u32 0) := (blk_cell BK4.out 0).trans rfl
      have y0 := blk_frozen BK4.out 0
      have z1 : wr.cell? ⟨g4, 1, none⟩ = some (.int .u8 0) := (blk_cell BK4.out 1).trans rfl
      have y1 := blk_frozen BK4.out 1
      have z2 : wr.cell? ⟨g4, 2, none⟩ = some (.int .i64 0) := (blk_cell BK4.out 2).trans rfl
      have y2 := blk_frozen BK4.out 2
      have z3 : wr.cell? ⟨g4, 3, none⟩ = some (.int .u16 0) := (blk_cell BK4.out 3).trans rfl
      have y3 := blk_frozen BK4.out 3
      have z4 : wr.cell? ⟨g4, 4, none⟩ = some (.int .u16 0) := (blk_cell BK4.out 4).trans rfl
      have y4 := blk_frozen BK4.out 4
      go_wp2_with (fail)
      refine bodyPost_ret (results_ct rfl _ _ g4 33 #[.int .u32 (oR d).f0.f0, .int .u8 (oR d).f0.f1, .int .i64 (oR d).f1, .int .u16 (oR d).f2, .int .u16 (oR d).f3] (0, 0) _ rfl (by refine blk_put (cs := #[.int .u32 (oR d).f0.f0, .int .u8 (oR d).f0.f1, .int .i64 (oR d).f1, .int .u16 (oR d).f2, .int .u16 0]) ?_ 4 _ rfl; refine blk_put (cs := #[.int .u32 (oR d).f0.f0, .int .u8 (oR d).f0.f1, .int .i64 (oR d).f1, .int .u16 0, .int .u16 0]) ?_ 3 _ rfl; refine blk_put (cs := #[.int .u32 (oR d).f0.f0, .int .u8 (oR d).f0.f1, .int .i64 0, .int .u16 0, .int .u16 0]) ?_ 2 _ rfl; refine blk_put (cs := #[.int .u32 (oR d).f0.f0, .int .u8 0, .int .i64 0, .int .u16 0, .int .u16 0]) ?_ 1 _ rfl; refine blk_put (cs := #[.int .u32 0, .int .u8 0, .int .i64 0, .int .u16 0, .int .u16 0]) ?_ 0 _ rfl; exact BK4.out) Try.underlying33 rfl (by kernel_rfl)) rfl ?_
      have ge4 := GE4.out
      exact ⟨rfl, below_set (below_set (below_set (below_set (below_set HB.out ge4) ge4) ge4) ge4) ge4⟩
    · have hx := hn
      obtain ⟨va, vb, ba, bb, hx, ha, hb', _⟩ := hx
      have c0 : wr.cell? ⟨h, 0, none⟩ = some (.bool o.isSome) := hx.cell.1
      have c1 := hx.cell.2.1
      have c2 := hx.cell.2.2.1
      have c3 := hx.cell.2.2.2.1
      have c4 := hx.cell.2.2.2.2.1
      have c5 := hx.cell.2.2.2.2.2.1
      have c6 := hx.cell.2.2.2.2.2.2.1
      have c7 := hx.cell.2.2.2.2.2.2.2
      have b0 : wr.cell? ⟨g6, 0, none⟩ = some (.int .u32 (oR d).f0.f0) := (blk_cell BKb.out 0).trans rfl
      have b1 : wr.cell? ⟨g6, 1, none⟩ = some (.int .u8 (oR d).f0.f1) := (blk_cell BKb.out 1).trans rfl
      have b2 : wr.cell? ⟨g6, 2, none⟩ = some (.int .i64 (oR d).f1) := (blk_cell BKb.out 2).trans rfl
      have b3 : wr.cell? ⟨g6, 3, none⟩ = some (.int .u16 (oR d).f2) := (blk_cell BKb.out 3).trans rfl
      have b4 : wr.cell? ⟨g6, 4, none⟩ = some (.int .u16 (oR d).f3) := (blk_cell BKb.out 4).trans rfl
      have y0 := blk_frozen BKb.out 0
      have y1 := blk_frozen BKb.out 1
      have y2 := blk_frozen BKb.out 2
      have y3 := blk_frozen BKb.out 3
      have y4 := blk_frozen BKb.out 4
      cases o with
      | none =>
        go_upto_region 11 with (fail)
        have HCA := Aside0.mk ha.cur
        have HCB := Aside0.mk hb'.cur
        have HNX := Aside0.mk hx
        have HLK := Aside0.mk HL.out
        clear hn hx ha hb' c0 c1 c2 c3 c4 c5 c6 c7 HL b0 b1 b2 b3 b4 y0 y1 y2 y3 y4 HC
        by_cases h32 : i = 32
        · subst h32
          have hl : d = d0 := by have := HLK.out; exact this
          subst hl
          have b0 : wr.cell? ⟨g6, 0, none⟩ = some (.int .u32 (oR d).f0.f0) := (blk_cell BKb.out 0).trans rfl
          have b1 : wr.cell? ⟨g6, 1, none⟩ = some (.int .u8 (oR d).f0.f1) := (blk_cell BKb.out 1).trans rfl
          have b2 : wr.cell? ⟨g6, 2, none⟩ = some (.int .i64 (oR d).f1) := (blk_cell BKb.out 2).trans rfl
          have b3 : wr.cell? ⟨g6, 3, none⟩ = some (.int .u16 (oR d).f2) := (blk_cell BKb.out 3).trans rfl
          have b4 : wr.cell? ⟨g6, 4, none⟩ = some (.int .u16 (oR d).f3) := (blk_cell BKb.out 4).trans rfl
          have z0 : wr.cell? ⟨g4, 0, none⟩ = some (.int .u32 0) := (blk_cell BK4.out 0).trans rfl
          have z1 : wr.cell? ⟨g4, 1, none⟩ = some (.int .u8 0) := (blk_cell BK4.out 1).trans rfl
          have z2 : wr.cell? ⟨g4, 2, none⟩ = some (.int .i64 0) := (blk_cell BK4.out 2).trans rfl
          have z3 : wr.cell? ⟨g4, 3, none⟩ = some (.int .u16 0) := (blk_cell BK4.out 3).trans rfl
          have z4 : wr.cell? ⟨g4, 4, none⟩ = some (.int .u16 0) := (blk_cell BK4.out 4).trans rfl
          have y0 := blk_frozen BK4.out 0
          have y1 := blk_frozen BK4.out 1
          have y2 := blk_frozen BK4.out 2
          have y3 := blk_frozen BK4.out 3
          have y4 := blk_frozen BK4.out 4
          go_wp2_with (fail)
          refine bodyPost_ret (results_ct rfl _ _ g4 33 #[.int .u32 (oR d).f0.f0, .int .u8 (oR d).f0.f1, .int .i64 (oR d).f1, .int .u16 (oR d).f2, .int .u16 (oR d).f3] (0, 0) _ rfl (by refine blk_put (cs := #[.int .u32 (oR d).f0.f0, .int .u8 (oR d).f0.f1, .int .i64 (oR d).f1, .int .u16 (oR d).f2, .int .u16 0]) ?_ 4 _ rfl; refine blk_put (cs := #[.int .u32 (oR d).f0.f0, .int .u8 (oR d).f0.f1, .int .i64 (oR d).f1, .int .u16 0, .int .u16 0]) ?_ 3 _ rfl; refine blk_put (cs := #[.int .u32 (oR d).f0.f0, .int .u8 (oR d).f0.f1, .int .i64 0, .int .u16 0, .int .u16 0]) ?_ 2 _ rfl; refine blk_put (cs := #[.int .u32 (oR d).f0.f0, .int .u8 0, .int .i64 0, .int .u16 0, .int .u16 0]) ?_ 1 _ rfl; refine blk_put (cs := #[.int .u32 0, .int .u8 0, .int .i64 0, .int .u16 0, .int .u16 0]) ?_ 0 _ rfl; exact BK4.out) Try.underlying33 rfl (by kernel_rfl)) rfl ?_
          have ge4 := GE4.out
          exact ⟨rfl, below_set (below_set (below_set (below_set (below_set HB.out ge4) ge4) ge4) ge4) ge4⟩
        · have q1 : ((i : Int) == 32) = false := beq_eq_false_iff_ne.mpr (by omega)
          go_upto_region 12 with (fail)
          have hside := side_is a1 i
          obtain ⟨bt, hbt⟩ : ∃ bt : Bool, (trie_side.f a1 (i : Int) == some 1) = bt := ⟨_, rfl⟩
          rw [hbt] at hside
          obtain ⟨m, hm⟩ : ∃ m : Nat, 32 - i = m + 1 := ⟨32 - i - 1, by omega⟩
          have hm2 : 32 - (i + 1) = m := by omega
          have hpath : pathFrom a1 (32 - i) i = bt :: pathFrom a1 (32 - (i + 1)) (i + 1) := by rw [hm, hm2, pathFrom, hbt]
          rw [hpath] at HLK
          have HSD := Aside0.mk hside
          clear hside hm hm2 hpath
          cases bt
          · have n0_ := Aside0.mk (blk_drew BK4.out)
            have n1_ := Aside0.mk (blk_drew BKb.out)
            have n2_ := Aside0.mk (below_drew1 HB.out)
            have n3_ := Aside0.mk (show Nx wr.drew h x _ va vb from HNX.out)
            have n4_ := Aside0.mk (HCA.out.frame (w1 := wr.drew) (fun _ _ _ => rfl))
            have n5_ := Aside0.mk (HCB.out.frame (w1 := wr.drew) (fun _ _ _ => rfl))
            clear BK4 BKb HB HNX HCA HCB
            have BK4 := n0_
            have BKb := n1_
            have HB := n2_
            have HNX := n3_
            have HCA := n4_
            have HCB := n5_
            clear n0_ n1_ n2_ n3_ n4_ n5_
            have HSD := Aside0.mk (show trie_side.f a1 (i : Int) = some 0 from HSD.out)
            refine start_ (n := 9) (S := fun w' => w'.cell? ⟨h, 6, none⟩ = some va ∧ w'.cell? ⟨h, 7, none⟩ = some vb) (ds := []) #[false, false, false, false, false, false, false, false, false] (by kernel_rfl) rfl rfl ⟨HNX.out.cell.2.2.2.2.2.2.1, HNX.out.cell.2.2.2.2.2.2.2⟩ (fun hHeld => ?_)
            generalize wr.drew = wd at BK4 BKb HB HNX HCA HCB hHeld ⊢
            refine pure_ (i := 0) (N := some 30) (v := ?_) (a' := ?_) #[true, false, false, false, false, false, false, false, false] rfl rfl (by kernel_rfl) (fun _ _ _ h => h) (Or.inl ⟨by rfl, ?_⟩) ?_ ?_
            rotate_left
            · intro w'
              go_simp
              with_reducible rfl
            rotate_left
            · simp only [Act.put, List.setIfInBounds_toArray, List.set_cons_zero, List.set_cons_succ, i64_w, i32_w]
              rfl
            refine pure_ (i := 1) (N := some 31) (v := ?_) (a' := ?_) #[true, true, false, false, false, false, false, false, false] rfl rfl (by kernel_rfl) (fun _ _ _ h => h) (Or.inl ⟨by rfl, ?_⟩) ?_ ?_
            rotate_left
            · intro w'
              go_simp
              with_reducible rfl
            rotate_left
            · simp only [Act.put, List.setIfInBounds_toArray, List.set_cons_zero, List.set_cons_succ, i64_w, i32_w]
              rfl
            refine pure_ (i := 2) (N := some 32) (v := ?_) (a' := ?_) #[true, true, true, false, false, false, false, false, false] rfl rfl (by kernel_rfl) (fun _ _ _ h => h) (Or.inl ⟨by rfl, ?_⟩) ?_ ?_
            rotate_left
            · intro w'
              go_simp
              with_reducible rfl
            rotate_left
            · simp only [Act.put, List.setIfInBounds_toArray, List.set_cons_zero, List.set_cons_succ, i64_w, i32_w]
              rfl
            refine pure_ (i := 4) (N := some 34) (v := ?_) (a' := ?_) #[true, true, true, false, true, false, false, false, false] rfl rfl (by kernel_rfl) (fun _ _ _ h => h) (Or.inl ⟨by rfl, ?_⟩) ?_ ?_
            rotate_left
            · intro w'
              go_simp
              with_reducible rfl
            rotate_left
            · simp only [Act.put, List.setIfInBounds_toArray, List.set_cons_zero, List.set_cons_succ, i64_w, i32_w]
              rfl
            refine pure_ (i := 5) (N := some 35) (v := ?_) (a' := ?_) #[true, true, true, false, true, true, false, false, false] rfl rfl (by kernel_rfl) (fun _ _ _ h => h) (Or.inl ⟨by rfl, ?_⟩) ?_ ?_
            rotate_left
            · intro w'
              go_simp
              with_reducible rfl
            rotate_left
            · simp only [Act.put, List.setIfInBounds_toArray, List.set_cons_zero, List.set_cons_succ, i64_w, i32_w]
              rfl
            refine one_ (i := 3) (N := some 33) #[true, true, true, true, true, true, false, false, false] rfl rfl (by kernel_rfl) (by decide) (fun K hK => ?_)
            refine goes_ Try.func24 (by kernel_rfl) rfl #[.int .u32 a1, .int .u8 (i : Int)] (by rfl) rfl rfl (by simp only [List.map_toArray, List.map_cons, List.map_nil]; rfl) ?_
            with_reducible refine (trie_side.calls a1 (i : Int) 0 _ HSD.out).mono ?_
            rintro e w8 ⟨rfl, hdr⟩
            have hb := hdr.below
            refine ⟨_, rfl, ?_⟩
            have n0_ := Aside0.mk (blk_below BK4.out hb)
            have n1_ := Aside0.mk (blk_below BKb.out hb)
            have n2_ := Aside0.mk (below_step HB.out hb)
            have n3_ := Aside0.mk (HNX.out.move (hb.block h HNX.out.lt))
            have n4_ := Aside0.mk (HCA.out.below hb)
            have n5_ := Aside0.mk (HCB.out.below hb)
            clear BK4 BKb HB HNX HCA HCB
            have BK4 := n0_
            have BKb := n1_
            have HB := n2_
            have HNX := n3_
            have HCA := n4_
            have HCB := n5_
            clear n0_ n1_ n2_ n3_ n4_ n5_
            clear hb hdr
            refine hK.out _ _ ⟨HNX.out.cell.2.2.2.2.2.2.1, HNX.out.cell.2.2.2.2.2.2.2⟩ (fun hHeld => ?_)
            clear hK K
            refine norm_ (a' := ?_) ?_ ?_
            rotate_left
            · show Act.put _ (some 33) _ = _
              simp only [Act.put, List.setIfInBounds_toArray, List.set_cons_zero, List.set_cons_succ, i64_w, i32_w]
              rfl
            refine pure_ (i := 6) (N := some 36) (v := ?_) (a' := ?_) #[true, true, true, true, true, true, true, false, false] rfl rfl (by kernel_rfl) (fun _ _ _ h => h) (Or.inl ⟨by rfl, ?_⟩) ?_ ?_
            rotate_left
            · intro w'
              go_simp
              with_reducible rfl
            rotate_left
            · simp only [Act.put, List.setIfInBounds_toArray, List.set_cons_zero, List.set_cons_succ, i64_w, i32_w]
              rfl
            refine take_ (i := 7) (N := some 37) (v := ?_) (a' := ?_) #[true, true, true, true, true, true, true, true, false] rfl rfl (by kernel_rfl) (fun _ _ _ h => h) (Or.inl ⟨by rfl, ?_⟩) hHeld ?_ ?_
            rotate_left
            · rintro w' ⟨s0, s1⟩
              go_simp
              with_reducible rfl
            rotate_left
            · simp only [Act.put, List.setIfInBounds_toArray, List.set_cons_zero, List.set_cons_succ, i64_w, i32_w]
              rfl
            refine pure_ (i := 8) (N := some 8) (v := ?_) (a' := ?_) #[true, true, true, true, true, true, true, true, true] rfl rfl (by kernel_rfl) (fun _ _ _ h => h) (Or.inl ⟨by rfl, ?_⟩) ?_ ?_
            rotate_left
            · intro w'
              go_simp
              with_reducible rfl
            rotate_left
            · simp only [Act.put, List.setIfInBounds_toArray, List.set_cons_zero, List.set_cons_succ, i64_w, i32_w]
              rfl
            refine done_ (by kernel_rfl) ?_
            go_wp2_with (fail)
            go_roundg (33 - (i + 1))
            case measure => omega
            case rel => exact ⟨i + 1, _, a, d, rfl, rfl, by first | rfl | (refine qa_int ?_; omega), by omega, Nat.le_refl _, HCA, ⟨HLK.out⟩, BK4, BKb, HB⟩
          · have n0_ := Aside0.mk (blk_drew BK4.out)
            have n1_ := Aside0.mk (blk_drew BKb.out)
            have n2_ := Aside0.mk (below_drew1 HB.out)
            have n3_ := Aside0.mk (show Nx wr.drew h x _ va vb from HNX.out)
            have n4_ := Aside0.mk (HCA.out.frame (w1 := wr.drew) (fun _ _ _ => rfl))
            have n5_ := Aside0.mk (HCB.out.frame (w1 := wr.drew) (fun _ _ _ => rfl))
            clear BK4 BKb HB HNX HCA HCB
            have BK4 := n0_
            have BKb := n1_
            have HB := n2_
            have HNX := n3_
            have HCA := n4_
            have HCB := n5_
            clear n0_ n1_ n2_ n3_ n4_ n5_
            have HSD := Aside0.mk (show trie_side.f a1 (i : Int) = some 1 from HSD.out)
            refine start_ (n := 9) (S := fun w' => w'.cell? ⟨h, 6, none⟩ = some va ∧ w'.cell? ⟨h, 7, none⟩ = some vb) (ds := []) #[false, false, false, false, false, false, false, false, false] (by kernel_rfl) rfl rfl ⟨HNX.out.cell.2.2.2.2.2.2.1, HNX.out.cell.2.2.2.2.2.2.2⟩ (fun hHeld => ?_)
            generalize wr.drew = wd at BK4 BKb HB HNX HCA HCB hHeld ⊢
            refine pure_ (i := 0) (N := some 30) (v := ?_) (a' := ?_) #[true, false, false, false, false, false, false, false, false] rfl rfl (by kernel_rfl) (fun _ _ _ h => h) (Or.inl ⟨by rfl, ?_⟩) ?_ ?_
            rotate_left
            · intro w'
              go_simp
              with_reducible rfl
            rotate_left
            · simp only [Act.put, List.setIfInBounds_toArray, List.set_cons_zero, List.set_cons_succ, i64_w, i32_w]
              rfl
            refine pure_ (i := 1) (N := some 31) (v := ?_) (a' := ?_) #[true, true, false, false, false, false, false, false, false] rfl rfl (by kernel_rfl) (fun _ _ _ h => h) (Or.inl ⟨by rfl, ?_⟩) ?_ ?_
            rotate_left
            · intro w'
              go_simp
              with_reducible rfl
            rotate_left
            · simp only [Act.put, List.setIfInBounds_toArray, List.set_cons_zero, List.set_cons_succ, i64_w, i32_w]
              rfl
            refine pure_ (i := 2) (N := some 32) (v := ?_) (a' := ?_) #[true, true, true, false, false, false, false, false, false] rfl rfl (by kernel_rfl) (fun _ _ _ h => h) (Or.inl ⟨by rfl, ?_⟩) ?_ ?_
            rotate_left
            · intro w'
              go_simp
              with_reducible rfl
            rotate_left
            · simp only [Act.put, List.setIfInBounds_toArray, List.set_cons_zero, List.set_cons_succ, i64_w, i32_w]
              rfl
            refine pure_ (i := 4) (N := some 34) (v := ?_) (a' := ?_) #[true, true, true, false, true, false, false, false, false] rfl rfl (by kernel_rfl) (fun _ _ _ h => h) (Or.inl ⟨by rfl, ?_⟩) ?_ ?_
            rotate_left
            · intro w'
              go_simp
              with_reducible rfl
            rotate_left
            · simp only [Act.put, List.setIfInBounds_toArray, List.set_cons_zero, List.set_cons_succ, i64_w, i32_w]
              rfl
            refine pure_ (i := 5) (N := some 35) (v := ?_) (a' := ?_) #[true, true, true, false, true, true, false, false, false] rfl rfl (by kernel_rfl) (fun _ _ _ h => h) (Or.inl ⟨by rfl, ?_⟩) ?_ ?_
            rotate_left
            · intro w'
              go_simp
              with_reducible rfl
            rotate_left
            · simp only [Act.put, List.setIfInBounds_toArray, List.set_cons_zero, List.set_cons_succ, i64_w, i32_w]
              rfl
            refine one_ (i := 3) (N := some 33) #[true, true, true, true, true, true, false, false, false] rfl rfl (by kernel_rfl) (by decide) (fun K hK => ?_)
            refine goes_ Try.func24 (by kernel_rfl) rfl #[.int .u32 a1, .int .u8 (i : Int)] (by rfl) rfl rfl (by simp only [List.map_toArray, List.map_cons, List.map_nil]; rfl) ?_
            with_reducible refine (trie_side.calls a1 (i : Int) 1 _ HSD.out).mono ?_
            rintro e w8 ⟨rfl, hdr⟩
            have hb := hdr.below
            refine ⟨_, rfl, ?_⟩
            have n0_ := Aside0.mk (blk_below BK4.out hb)
            have n1_ := Aside0.mk (blk_below BKb.out hb)
            have n2_ := Aside0.mk (below_step HB.out hb)
            have n3_ := Aside0.mk (HNX.out.move (hb.block h HNX.out.lt))
            have n4_ := Aside0.mk (HCA.out.below hb)
            have n5_ := Aside0.mk (HCB.out.below hb)
            clear BK4 BKb HB HNX HCA HCB
            have BK4 := n0_
            have BKb := n1_
            have HB := n2_
            have HNX := n3_
            have HCA := n4_
            have HCB := n5_
            clear n0_ n1_ n2_ n3_ n4_ n5_
            clear hb hdr
            refine hK.out _ _ ⟨HNX.out.cell.2.2.2.2.2.2.1, HNX.out.cell.2.2.2.2.2.2.2⟩ (fun hHeld => ?_)
            clear hK K
            refine norm_ (a' := ?_) ?_ ?_
            rotate_left
            · show Act.put _ (some 33) _ = _
              simp only [Act.put, List.setIfInBounds_toArray, List.set_cons_zero, List.set_cons_succ, i64_w, i32_w]
              rfl
            refine pure_ (i := 6) (N := some 36) (v := ?_) (a' := ?_) #[true, true, true, true, true, true, true, false, false] rfl rfl (by kernel_rfl) (fun _ _ _ h => h) (Or.inl ⟨by rfl, ?_⟩) ?_ ?_
            rotate_left
            · intro w'
              go_simp
              with_reducible rfl
            rotate_left
            · simp only [Act.put, List.setIfInBounds_toArray, List.set_cons_zero, List.set_cons_succ, i64_w, i32_w]
              rfl
            refine take_ (i := 7) (N := some 37) (v := ?_) (a' := ?_) #[true, true, true, true, true, true, true, true, false] rfl rfl (by kernel_rfl) (fun _ _ _ h => h) (Or.inl ⟨by rfl, ?_⟩) hHeld ?_ ?_
            rotate_left
            · rintro w' ⟨s0, s1⟩
              go_simp
              with_reducible rfl
            rotate_left
            · simp only [Act.put, List.setIfInBounds_toArray, List.set_cons_zero, List.set_cons_succ, i64_w, i32_w]
              rfl
            refine pure_ (i := 8) (N := some 8) (v := ?_) (a' := ?_) #[true, true, true, true, true, true, true, true, true] rfl rfl (by kernel_rfl) (fun _ _ _ h => h) (Or.inl ⟨by rfl, ?_⟩) ?_ ?_
            rotate_left
            · intro w'
              go_simp
              with_reducible rfl
            rotate_left
            · simp only [Act.put, List.setIfInBounds_toArray, List.set_cons_zero, List.set_cons_succ, i64_w, i32_w]
              rfl
            refine done_ (by kernel_rfl) ?_
            go_wp2_with (fail)
            go_roundg (33 - (i + 1))
            case measure => omega
            case rel => exact ⟨i + 1, _, b, d, rfl, rfl, by first | rfl | (refine qa_int ?_; omega), by omega, Nat.le_refl _, HCB, ⟨HLK.out⟩, BK4, BKb, HB⟩
      | some r =>
        go_upto_region 11 with (fail)
        obtain ⟨W, hW⟩ : ∃ W : World, W = (((((wr.setCell ⟨g6, 0, none⟩ (.int .u32 r.f0.f0)).setCell ⟨g6, 1, none⟩ (.int .u8 r.f0.f1)).setCell ⟨g6, 2, none⟩ (.int .i64 r.f1)).setCell ⟨g6, 3, none⟩ (.int .u16 r.f2)).setCell ⟨g6, 4, none⟩ (.int .u16 r.f3)) := ⟨_, rfl⟩
        rw [show (oR (some r)) = r from rfl] at *
        rw [← hW]
        have hh6 : h ≠ g6 := fun he => by subst he; obtain ⟨cs, t, e1, e2⟩ := hx.typed; rw [BKb.out] at e1; injection e1 with e1; injection e1 with _ e1; subst e1; exact absurd e2 (by decide)
        have g6ge := GE6.out
        have n1 := BKb.out
        have n2 := blk_put (cs' := #[.int .u32 r.f0.f0, .int .u8 (oR d).f0.f1, .int .i64 (oR d).f1, .int .u16 (oR d).f2, .int .u16 (oR d).f3]) n1 0 (.int .u32 r.f0.f0) rfl
        have n3 := blk_put (cs' := #[.int .u32 r.f0.f0, .int .u8 r.f0.f1, .int .i64 (oR d).f1, .int .u16 (oR d).f2, .int .u16 (oR d).f3]) n2 1 (.int .u8 r.f0.f1) rfl
        have n4 := blk_put (cs' := #[.int .u32 r.f0.f0, .int .u8 r.f0.f1, .int .i64 r.f1, .int .u16 (oR d).f2, .int .u16 (oR d).f3]) n3 2 (.int .i64 r.f1) rfl
        have n5 := blk_put (cs' := #[.int .u32 r.f0.f0, .int .u8 r.f0.f1, .int .i64 r.f1, .int .u16 r.f2, .int .u16 (oR d).f3]) n4 3 (.int .u16 r.f2) rfl
        have n6 := blk_put (cs' := #[.int .u32 r.f0.f0, .int .u8 r.f0.f1, .int .i64 r.f1, .int .u16 r.f2, .int .u16 r.f3]) n5 4 (.int .u16 r.f3) rfl
        have HCA := Aside0.mk (show Cur W va a from by rw [hW]; exact ((((ha.cur.set n1 (by decide) (by decide) _ _).set n2 (by decide) (by decide) _ _).set n3 (by decide) (by decide) _ _).set n4 (by decide) (by decide) _ _).set n5 (by decide) (by decide) _ _)
        have HCB := Aside0.mk (show Cur W vb b from by rw [hW]; exact ((((hb'.cur.set n1 (by decide) (by decide) _ _).set n2 (by decide) (by decide) _ _).set n3 (by decide) (by decide) _ _).set n4 (by decide) (by decide) _ _).set n5 (by decide) (by decide) _ _)
        have HNX := Aside0.mk (show Nx W h x (some r) va vb from hx.move (by rw [hW, heap_set _ _ _ _ _ hh6, heap_set _ _ _ _ _ hh6, heap_set _ _ _ _ _ hh6, heap_set _ _ _ _ _ hh6, heap_set _ _ _ _ _ hh6]))
        have BKb2 := Aside0.mk (show W.heap[g6]? = some (.cells #[.int .u32 r.f0.f0, .int .u8 r.f0.f1, .int .i64 r.f1, .int .u16 r.f2, .int .u16 r.f3] 33 (0, 0)) from by rw [hW]; exact n6)
        have BK42 := Aside0.mk (show W.heap[g4]? = some (.cells #[.int .u32 0, .int .u8 0, .int .i64 0, .int .u16 0, .int .u16 0] 33 (0, 0)) from by rw [hW, heap_set _ _ _ _ _ NE.out.symm, heap_set _ _ _ _ _ NE.out.symm, heap_set _ _ _ _ _ NE.out.symm, heap_set _ _ _ _ _ NE.out.symm, heap_set _ _ _ _ _ NE.out.symm]; exact BK4.out)
        have HB2 := Aside0.mk (show Below w.heap.size w W from by rw [hW]; exact below_set (below_set (below_set (below_set (below_set HB.out g6ge) g6ge) g6ge) g6ge) g6ge)
        have HLK := Aside0.mk HL.out
        clear hn hx ha hb' c0 c1 c2 c3 c4 c5 c6 c7 HL b0 b1 b2 b3 b4 y0 y1 y2 y3 y4 HC n1 n2 n3 n4 n5 n6 g6ge hh6 hW BKb BK4 HB
        have BKb := BKb2
        have BK4 := BK42
        have HB := HB2
        clear BKb2 BK42 HB2
        by_cases h32 : i = 32
        · subst h32
          have hl : (some r) = d0 := by have := HLK.out; exact this
          subst hl
          have b0 : W.cell? ⟨g6, 0, none⟩ = some (.int .u32 (oR (some r)).f0.f0) := (blk_cell BKb.out 0).trans rfl
          have b1 : W.cell? ⟨g6, 1, none⟩ = some (.int .u8 (oR (some r)).f0.f1) := (blk_cell BKb.out 1).trans rfl
          have b2 : W.cell? ⟨g6, 2, none⟩ = some (.int .i64 (oR (some r)).f1) := (blk_cell BKb.out 2).trans rfl
          have b3 : W.cell? ⟨g6, 3, none⟩ = some (.int .u16 (oR (some r)).f2) := (blk_cell BKb.out 3).trans rfl
          have b4 : W.cell? ⟨g6, 4, none⟩ = some (.int .u16 (oR (some r)).f3) := (blk_cell BKb.out 4).trans rfl
          have z0 : W.cell? ⟨g4, 0, none⟩ = some (.int .u32 0) := (blk_cell BK4.out 0).trans rfl
          have z1 : W.cell? ⟨g4, 1, none⟩ = some (.int .u8 0) := (blk_cell BK4.out 1).trans rfl
          have z2 : W.cell? ⟨g4, 2, none⟩ = some (.int .i64 0) := (blk_cell BK4.out 2).trans rfl
          have z3 : W.cell? ⟨g4, 3, none⟩ = some (.int .u16 0) := (blk_cell BK4.out 3).trans rfl
          have z4 : W.cell? ⟨g4, 4, none⟩ = some (.int .u16 0) := (blk_cell BK4.out 4).trans rfl
          have y0 := blk_frozen BK4.out 0
          have y1 := blk_frozen BK4.out 1
          have y2 := blk_frozen BK4.out 2
          have y3 := blk_frozen BK4.out 3
          have y4 := blk_frozen BK4.out 4
          go_wp2_with (fail)
          refine bodyPost_ret (results_ct rfl _ _ g4 33 #[.int .u32 (oR (some r)).f0.f0, .int .u8 (oR (some r)).f0.f1, .int .i64 (oR (some r)).f1, .int .u16 (oR (some r)).f2, .int .u16 (oR (some r)).f3] (0, 0) _ rfl (by refine blk_put (cs := #[.int .u32 (oR (some r)).f0.f0, .int .u8 (oR (some r)).f0.f1, .int .i64 (oR (some r)).f1, .int .u16 (oR (some r)).f2, .int .u16 0]) ?_ 4 _ rfl; refine blk_put (cs := #[.int .u32 (oR (some r)).f0.f0, .int .u8 (oR (some r)).f0.f1, .int .i64 (oR (some r)).f1, .int .u16 0, .int .u16 0]) ?_ 3 _ rfl; refine blk_put (cs := #[.int .u32 (oR (some r)).f0.f0, .int .u8 (oR (some r)).f0.f1, .int .i64 0, .int .u16 0, .int .u16 0]) ?_ 2 _ rfl; refine blk_put (cs := #[.int .u32 (oR (some r)).f0.f0, .int .u8 0, .int .i64 0, .int .u16 0, .int .u16 0]) ?_ 1 _ rfl; refine blk_put (cs := #[.int .u32 0, .int .u8 0, .int .i64 0, .int .u16 0, .int .u16 0]) ?_ 0 _ rfl; exact BK4.out) Try.underlying33 rfl (by kernel_rfl)) rfl ?_
          have ge4 := GE4.out
          exact ⟨rfl, below_set (below_set (below_set (below_set (below_set HB.out ge4) ge4) ge4) ge4) ge4⟩
        · have q1 : ((i : Int) == 32) = false := beq_eq_false_iff_ne.mpr (by omega)
          go_upto_region 12 with (fail)
          have hside := side_is a1 i
          obtain ⟨bt, hbt⟩ : ∃ bt : Bool, (trie_side.f a1 (i : Int) == some 1) = bt := ⟨_, rfl⟩
          rw [hbt] at hside
          obtain ⟨m, hm⟩ : ∃ m : Nat, 32 - i = m + 1 := ⟨32 - i - 1, by omega⟩
          have hm2 : 32 - (i + 1) = m := by omega
          have hpath : pathFrom a1 (32 - i) i = bt :: pathFrom a1 (32 - (i + 1)) (i + 1) := by rw [hm, hm2, pathFrom, hbt]
          rw [hpath] at HLK
          have HSD := Aside0.mk hside
          clear hside hm hm2 hpath
          cases bt
          · have n0_ := Aside0.mk (blk_drew BK4.out)
            have n1_ := Aside0.mk (blk_drew BKb.out)
            have n2_ := Aside0.mk (below_drew1 HB.out)
            have n3_ := Aside0.mk (show Nx W.drew h x _ va vb from HNX.out)
            have n4_ := Aside0.mk (HCA.out.frame (w1 := W.drew) (fun _ _ _ => rfl))
            have n5_ := Aside0.mk (HCB.out.frame (w1 := W.drew) (fun _ _ _ => rfl))
            clear BK4 BKb HB HNX HCA HCB
            have BK4 := n0_
            have BKb := n1_
            have HB := n2_
            have HNX := n3_
            have HCA := n4_
            have HCB := n5_
            clear n0_ n1_ n2_ n3_ n4_ n5_
            have HSD := Aside0.mk (show trie_side.f a1 (i : Int) = some 0 from HSD.out)
            refine start_ (n := 9) (S := fun w' => w'.cell? ⟨h, 6, none⟩ = some va ∧ w'.cell? ⟨h, 7, none⟩ = some vb) (ds := []) #[false, false, false, false, false, false, false, false, false] (by kernel_rfl) rfl rfl ⟨HNX.out.cell.2.2.2.2.2.2.1, HNX.out.cell.2.2.2.2.2.2.2⟩ (fun hHeld => ?_)
            generalize W.drew = wd at BK4 BKb HB HNX HCA HCB hHeld ⊢
            refine pure_ (i := 0) (N := some 30) (v := ?_) (a' := ?_) #[true, false, false, false, false, false, false, false, false] rfl rfl (by kernel_rfl) (fun _ _ _ h => h) (Or.inl ⟨by rfl, ?_⟩) ?_ ?_
            rotate_left
            · intro w'
              go_simp
              with_reducible rfl
            rotate_left
            · simp only [Act.put, List.setIfInBounds_toArray, List.set_cons_zero, List.set_cons_succ, i64_w, i32_w]
              rfl
            refine pure_ (i := 1) (N := some 31) (v := ?_) (a' := ?_) #[true, true, false, false, false, false, false, false, false] rfl rfl (by kernel_rfl) (fun _ _ _ h => h) (Or.inl ⟨by rfl, ?_⟩) ?_ ?_
            rotate_left
            · intro w'
              go_simp
              with_reducible rfl
            rotate_left
            · simp only [Act.put, List.setIfInBounds_toArray, List.set_cons_zero, List.set_cons_succ, i64_w, i32_w]
              rfl
            refine pure_ (i := 2) (N := some 32) (v := ?_) (a' := ?_) #[true, true, true, false, false, false, false, false, false] rfl rfl (by kernel_rfl) (fun _ _ _ h => h) (Or.inl ⟨by rfl, ?_⟩) ?_ ?_
            rotate_left
            · intro w'
              go_simp
              with_reducible rfl
            rotate_left
            · simp only [Act.put, List.setIfInBounds_toArray, List.set_cons_zero, List.set_cons_succ, i64_w, i32_w]
              rfl
            refine pure_ (i := 4) (N := some 34) (v := ?_) (a' := ?_) #[true, true, true, false, true, false, false, false, false] rfl rfl (by kernel_rfl) (fun _ _ _ h => h) (Or.inl ⟨by rfl, ?_⟩) ?_ ?_
            rotate_left
            · intro w'
              go_simp
              with_reducible rfl
            rotate_left
            · simp only [Act.put, List.setIfInBounds_toArray, List.set_cons_zero, List.set_cons_succ, i64_w, i32_w]
              rfl
            refine pure_ (i := 5) (N := some 35) (v := ?_) (a' := ?_) #[true, true, true, false, true, true, false, false, false] rfl rfl (by kernel_rfl) (fun _ _ _ h => h) (Or.inl ⟨by rfl, ?_⟩) ?_ ?_
            rotate_left
            · intro w'
              go_simp
              with_reducible rfl
            rotate_left
            · simp only [Act.put, List.setIfInBounds_toArray, List.set_cons_zero, List.set_cons_succ, i64_w, i32_w]
              rfl
            refine one_ (i := 3) (N := some 33) #[true, true, true, true, true, true, false, false, false] rfl rfl (by kernel_rfl) (by decide) (fun K hK => ?_)
            refine goes_ Try.func24 (by kernel_rfl) rfl #[.int .u32 a1, .int .u8 (i : Int)] (by rfl) rfl rfl (by simp only [List.map_toArray, List.map_cons, List.map_nil]; rfl) ?_
            with_reducible refine (trie_side.calls a1 (i : Int) 0 _ HSD.out).mono ?_
            rintro e w8 ⟨rfl, hdr⟩
            have hb := hdr.below
            refine ⟨_, rfl, ?_⟩
            have n0_ := Aside0.mk (blk_below BK4.out hb)
            have n1_ := Aside0.mk (blk_below BKb.out hb)
            have n2_ := Aside0.mk (below_step HB.out hb)
            have n3_ := Aside0.mk (HNX.out.move (hb.block h HNX.out.lt))
            have n4_ := Aside0.mk (HCA.out.below hb)
            have n5_ := Aside0.mk (HCB.out.below hb)
            clear BK4 BKb HB HNX HCA HCB
            have BK4 := n0_
            have BKb := n1_
            have HB := n2_
            have HNX := n3_
            have HCA := n4_
            have HCB := n5_
            clear n0_ n1_ n2_ n3_ n4_ n5_
            clear hb hdr
            refine hK.out _ _ ⟨HNX.out.cell.2.2.2.2.2.2.1, HNX.out.cell.2.2.2.2.2.2.2⟩ (fun hHeld => ?_)
            clear hK K
            refine norm_ (a' := ?_) ?_ ?_
            rotate_left
            · show Act.put _ (some 33) _ = _
              simp only [Act.put, List.setIfInBounds_toArray, List.set_cons_zero, List.set_cons_succ, i64_w, i32_w]
              rfl
            refine pure_ (i := 6) (N := some 36) (v := ?_) (a' := ?_) #[true, true, true, true, true, true, true, false, false] rfl rfl (by kernel_rfl) (fun _ _ _ h => h) (Or.inl ⟨by rfl, ?_⟩) ?_ ?_
            rotate_left
            · intro w'
              go_simp
              with_reducible rfl
            rotate_left
            · simp only [Act.put, List.setIfInBounds_toArray, List.set_cons_zero, List.set_cons_succ, i64_w, i32_w]
              rfl
            refine take_ (i := 7) (N := some 37) (v := ?_) (a' := ?_) #[true, true, true, true, true, true, true, true, false] rfl rfl (by kernel_rfl) (fun _ _ _ h => h) (Or.inl ⟨by rfl, ?_⟩) hHeld ?_ ?_
            rotate_left
            · rintro w' ⟨s0, s1⟩
              go_simp
              with_reducible rfl
            rotate_left
            · simp only [Act.put, List.setIfInBounds_toArray, List.set_cons_zero, List.set_cons_succ, i64_w, i32_w]
              rfl
            refine pure_ (i := 8) (N := some 8) (v := ?_) (a' := ?_) #[true, true, true, true, true, true, true, true, true] rfl rfl (by kernel_rfl) (fun _ _ _ h => h) (Or.inl ⟨by rfl, ?_⟩) ?_ ?_
            rotate_left
            · intro w'
              go_simp
              with_reducible rfl
            rotate_left
            · simp only [Act.put, List.setIfInBounds_toArray, List.set_cons_zero, List.set_cons_succ, i64_w, i32_w]
              rfl
            refine done_ (by kernel_rfl) ?_
            go_wp2_with (fail)
            go_roundg (33 - (i + 1))
            case measure => omega
            case rel => exact ⟨i + 1, _, a, (some r), rfl, rfl, by first | rfl | (refine qa_int ?_; omega), by omega, Nat.le_refl _, HCA, ⟨HLK.out⟩, BK4, BKb, HB⟩
          · have n0_ := Aside0.mk (blk_drew BK4.out)
            have n1_ := Aside0.mk (blk_drew BKb.out)
            have n2_ := Aside0.mk (below_drew1 HB.out)
            have n3_ := Aside0.mk (show Nx W.drew h x _ va vb from HNX.out)
            have n4_ := Aside0.mk (HCA.out.frame (w1 := W.drew) (fun _ _ _ => rfl))
            have n5_ := Aside0.mk (HCB.out.frame (w1 := W.drew) (fun _ _ _ => rfl))
            clear BK4 BKb HB HNX HCA HCB
            have BK4 := n0_
            have BKb := n1_
            have HB := n2_
            have HNX := n3_
            have HCA := n4_
            have HCB := n5_
            clear n0_ n1_ n2_ n3_ n4_ n5_
            have HSD := Aside0.mk (show trie_side.f a1 (i : Int) = some 1 from HSD.out)
            refine start_ (n := 9) (S := fun w' => w'.cell? ⟨h, 6, none⟩ = some va ∧ w'.cell? ⟨h, 7, none⟩ = some vb) (ds := []) #[false, false, false, false, false, false, false, false, false] (by kernel_rfl) rfl rfl ⟨HNX.out.cell.2.2.2.2.2.2.1, HNX.out.cell.2.2.2.2.2.2.2⟩ (fun hHeld => ?_)
            generalize W.drew = wd at BK4 BKb HB HNX HCA HCB hHeld ⊢
            refine pure_ (i := 0) (N := some 30) (v := ?_) (a' := ?_) #[true, false, false, false, false, false, false, false, false] rfl rfl (by kernel_rfl) (fun _ _ _ h => h) (Or.inl ⟨by rfl, ?_⟩) ?_ ?_
            rotate_left
            · intro w'
              go_simp
              with_reducible rfl
            rotate_left
            · simp only [Act.put, List.setIfInBounds_toArray, List.set_cons_zero, List.set_cons_succ, i64_w, i32_w]
              rfl
            refine pure_ (i := 1) (N := some 31) (v := ?_) (a' := ?_) #[true, true, false, false, false, false, false, false, false] rfl rfl (by kernel_rfl) (fun _ _ _ h => h) (Or.inl ⟨by rfl, ?_⟩) ?_ ?_
            rotate_left
            · intro w'
              go_simp
              with_reducible rfl
            rotate_left
            · simp only [Act.put, List.setIfInBounds_toArray, List.set_cons_zero, List.set_cons_succ, i64_w, i32_w]
              rfl
            refine pure_ (i := 2) (N := some 32) (v := ?_) (a' := ?_) #[true, true, true, false, false, false, false, false, false] rfl rfl (by kernel_rfl) (fun _ _ _ h => h) (Or.inl ⟨by rfl, ?_⟩) ?_ ?_
            rotate_left
            · intro w'
              go_simp
              with_reducible rfl
            rotate_left
            · simp only [Act.put, List.setIfInBounds_toArray, List.set_cons_zero, List.set_cons_succ, i64_w, i32_w]
              rfl
            refine pure_ (i := 4) (N := some 34) (v := ?_) (a' := ?_) #[true, true, true, false, true, false, false, false, false] rfl rfl (by kernel_rfl) (fun _ _ _ h => h) (Or.inl ⟨by rfl, ?_⟩) ?_ ?_
            rotate_left
            · intro w'
              go_simp
              with_reducible rfl
            rotate_left
            · simp only [Act.put, List.setIfInBounds_toArray, List.set_cons_zero, List.set_cons_succ, i64_w, i32_w]
              rfl
            refine pure_ (i := 5) (N := some 35) (v := ?_) (a' := ?_) #[true, true, true, false, true, true, false, false, false] rfl rfl (by kernel_rfl) (fun _ _ _ h => h) (Or.inl ⟨by rfl, ?_⟩) ?_ ?_
            rotate_left
            · intro w'
              go_simp
              with_reducible rfl
            rotate_left
            · simp only [Act.put, List.setIfInBounds_toArray, List.set_cons_zero, List.set_cons_succ, i64_w, i32_w]
              rfl
            refine one_ (i := 3) (N := some 33) #[true, true, true, true, true, true, false, false, false] rfl rfl (by kernel_rfl) (by decide) (fun K hK => ?_)
            refine goes_ Try.func24 (by kernel_rfl) rfl #[.int .u32 a1, .int .u8 (i : Int)] (by rfl) rfl rfl (by simp only [List.map_toArray, List.map_cons, List.map_nil]; rfl) ?_
            with_reducible refine (trie_side.calls a1 (i : Int) 1 _ HSD.out).mono ?_
            rintro e w8 ⟨rfl, hdr⟩
            have hb := hdr.below
            refine ⟨_, rfl, ?_⟩
            have n0_ := Aside0.mk (blk_below BK4.out hb)
            have n1_ := Aside0.mk (blk_below BKb.out hb)
            have n2_ := Aside0.mk (below_step HB.out hb)
            have n3_ := Aside0.mk (HNX.out.move (hb.block h HNX.out.lt))
            have n4_ := Aside0.mk (HCA.out.below hb)
            have n5_ := Aside0.mk (HCB.out.below hb)
            clear BK4 BKb HB HNX HCA HCB
            have BK4 := n0_
            have BKb := n1_
            have HB := n2_
            have HNX := n3_
            have HCA := n4_
            have HCB := n5_
            clear n0_ n1_ n2_ n3_ n4_ n5_
            clear hb hdr
            refine hK.out _ _ ⟨HNX.out.cell.2.2.2.2.2.2.1, HNX.out.cell.2.2.2.2.2.2.2⟩ (fun hHeld => ?_)
            clear hK K
            refine norm_ (a' := ?_) ?_ ?_
            rotate_left
            · show Act.put _ (some 33) _ = _
              simp only [Act.put, List.setIfInBounds_toArray, List.set_cons_zero, List.set_cons_succ, i64_w, i32_w]
              rfl
            refine pure_ (i := 6) (N := some 36) (v := ?_) (a' := ?_) #[true, true, true, true, true, true, true, false, false] rfl rfl (by kernel_rfl) (fun _ _ _ h => h) (Or.inl ⟨by rfl, ?_⟩) ?_ ?_
            rotate_left
            · intro w'
              go_simp
              with_reducible rfl
            rotate_left
            · simp only [Act.put, List.setIfInBounds_toArray, List.set_cons_zero, List.set_cons_succ, i64_w, i32_w]
              rfl
            refine take_ (i := 7) (N := some 37) (v := ?_) (a' := ?_) #[true, true, true, true, true, true, true, true, false] rfl rfl (by kernel_rfl) (fun _ _ _ h => h) (Or.inl ⟨by rfl, ?_⟩) hHeld ?_ ?_
            rotate_left
            · rintro w' ⟨s0, s1⟩
              go_simp
              with_reducible rfl
            rotate_left
            · simp only [Act.put, List.setIfInBounds_toArray, List.set_cons_zero, List.set_cons_succ, i64_w, i32_w]
              rfl
            refine pure_ (i := 8) (N := some 8) (v := ?_) (a' := ?_) #[true, true, true, true, true, true, true, true, true] rfl rfl (by kernel_rfl) (fun _ _ _ h => h) (Or.inl ⟨by rfl, ?_⟩) ?_ ?_
            rotate_left
            · intro w'
              go_simp
              with_reducible rfl
            rotate_left
            · simp only [Act.put, List.setIfInBounds_toArray, List.set_cons_zero, List.set_cons_succ, i64_w, i32_w]
              rfl
            refine done_ (by kernel_rfl) ?_
            go_wp2_with (fail)
            go_roundg (33 - (i + 1))
            case measure => omega
            case rel => exact ⟨i + 1, _, b, (some r), rfl, rfl, by first | rfl | (refine qa_int ?_; omega), by omega, Nat.le_refl _, HCB, ⟨HLK.out⟩, BK4, BKb, HB⟩

/-! ### milestonelaw09_awake: function 7 -/
def milestonelaw09_awake.f  : Option (Bool) := (trie_Of.f (([(⟨(⟨167772160, 8⟩ : S27), 0, 0, 0⟩ : S33), (⟨(⟨167837696, 16⟩ : S27), 2, 0, 0⟩ : S33)] : List (S33)))).bind fun t107 => ((trie_Trie_Look.f t107 167838211).bind fun bt109 => (if bt109.2.2.2.2.2.1 = true then (if bt109.2.2.1 = 2 then ((trie_Trie_Len.f bt109.2.2.2.2.2.2).bind fun bt117 => (some (bt117.1 == 2))) else (some false)) else (some false)))
set_option maxHeartbeats 8000000 in
set_option maxRecDepth 100000 in
theorem milestonelaw09_awake.calls  (r : Bool) (w : World) (h : milestonelaw09_awake.f  = some r) :
    Calls Try.prog 7 #[] w fun e w' => e = .returned (.bool r) ∧ Below w.heap.size w w' := by
  have hu27 := Try.underlying27
  have hu33 := Try.underlying33
  have HB := Aside0.mk (Below.refl w.heap.size w)
  have H : ((trie_Of.f (([(⟨(⟨167772160, 8⟩ : S27), 0, 0, 0⟩ : S33), (⟨(⟨167837696, 16⟩ : S27), 2, 0, 0⟩ : S33)] : List (S33)))).bind fun t107 => ((trie_Trie_Look.f t107 167838211).bind fun bt109 => (if bt109.2.2.2.2.2.1 = true then (if bt109.2.2.1 = 2 then ((trie_Trie_Len.f bt109.2.2.2.2.2.2).bind fun bt117 => (some (bt117.1 == 2))) else (some false)) else (some false)))) = some r := h
  clear h
  obtain ⟨y104, hy104⟩ : ∃ y_ : List (S33), y_ = (([(⟨(⟨167772160, 8⟩ : S27), 0, 0, 0⟩ : S33), (⟨(⟨167837696, 16⟩ : S27), 2, 0, 0⟩ : S33)] : List (S33))) := ⟨_, rfl⟩
  replace H : ((trie_Of.f y104).bind fun t107 => ((trie_Trie_Look.f t107 167838211).bind fun bt109 => (if bt109.2.2.2.2.2.1 = true then (if bt109.2.2.1 = 2 then ((trie_Trie_Len.f bt109.2.2.2.2.2.2).bind fun bt117 => (some (bt117.1 == 2))) else (some false)) else (some false)))) = some r := by first | (rw [hy104]; with_reducible exact H) | (have H2_ := (Option.bind_some _ _).symm.trans H; rw [hy104]; with_reducible exact H2_) | (have H2_ := (Option.bind_some _ _).symm.trans H; with_reducible exact H2_) | with_reducible exact H | (rw [hy104]; exact H) | exact H
  have Ny104 := Aside0.mk hy104
  clear hy104
  replace H := Option.bind_eq_some_iff.mp H
  obtain ⟨t107, A10, H⟩ := H
  replace H : ((trie_Trie_Look.f t107 167838211).bind fun bt109 => (if bt109.2.2.2.2.2.1 = true then (if bt109.2.2.1 = 2 then ((trie_Trie_Len.f bt109.2.2.2.2.2.2).bind fun bt117 => (some (bt117.1 == 2))) else (some false)) else (some false))) = some r := H
  have A1 := Aside0.mk A10
  clear A10
  replace H := Option.bind_eq_some_iff.mp H
  obtain ⟨⟨t109, t110, t111, t112, t113, t114, t115⟩, A20, H⟩ := H
  replace H : (if t114 = true then (if t111 = 2 then ((trie_Trie_Len.f t115).bind fun bt117 => (some (bt117.1 == 2))) else (some false)) else (some false)) = some r := H
  have A2 := Aside0.mk A20
  clear A20
  by_cases c3 : t114 = true
  · subst c3
    have H1 : (if t111 = 2 then ((trie_Trie_Len.f t115).bind fun bt117 => (some (bt117.1 == 2))) else (some false)) = some r := by rw [if_pos rfl] at H; exact H
    clear H
    have H := H1
    clear H1
    by_cases c4 : t111 = 2
    · rw [if_pos c4] at H
      have c4b0 : (t111 == 2) = true := beq_iff_eq.mpr c4
      have c4b1 : (t111 != 2) = false := bne_eq_false_iff_eq.mpr c4
      clear c4
      replace H := Option.bind_eq_some_iff.mp H
      obtain ⟨⟨t117, t118⟩, A50, H⟩ := H
      replace H : (some (t117 == 2)) = some r := H
      have A5 := Aside0.mk A50
      clear A50
      obtain rfl := Option.some.inj H
      simp only [Option.some.injEq, Prod.mk.injEq] at H
      obtain ⟨rfl⟩ := H
      go_enter Try.func7, Try.ntmps7
      go_wp2_with (first | ((with_reducible refine gate_dst (N := 8) rfl ?_); refine Kd.R_lit k33 _ 33 ?hg (N := 8) ?hd (xs := ([(⟨(⟨167772160, 8⟩ : S27), 0, 0, 0⟩ : S33), (⟨(⟨167837696, 16⟩ : S27), 2, 0, 0⟩ : S33)] : List (S33))) (inner := [.int .u32 167772160, .int .u8 8, .int .i64 0, .int .u16 0, .int .u16 0, .int .u32 167837696, .int .u8 16, .int .i64 2, .int .u16 0, .int .u16 0]) (ok := fun _ => True) (okp := fun _ => True) ?hr ?hp (fun _ hk => hk) trivial (Below.refl _ _) (Nat.le_refl _) (by simp) ?_; (case hd => rfl); (case hg => rfl); (case hr => first | (go_simp; done) | (go_simp; rfl)); (case hp => exact (Reps.c5 (show Kd.M k33 _ _ _ (⟨(⟨167772160, 8⟩ : S27), 0, 0, 0⟩ : S33) [.int .u32 167772160, .int .u8 8, .int .i64 0, .int .u16 0, .int .u16 0] from (k33_mkM _ _ _ (⟨(⟨167772160, 8⟩ : S27), 0, 0, 0⟩ : S33) )) (Reps.c5 (show Kd.M k33 _ _ _ (⟨(⟨167837696, 16⟩ : S27), 2, 0, 0⟩ : S33) [.int .u32 167837696, .int .u8 16, .int .i64 2, .int .u16 0, .int .u16 0] from (k33_mkM _ _ _ (⟨(⟨167837696, 16⟩ : S27), 2, 0, 0⟩ : S33) )) (Reps.none _ _)))); intro v105 w6 ho7 hb hg_ hnew_; clear hg_ hnew_; (first | rw [← Ny104.out] at ho7 | (simp only [Int.reduceToNat] at ho7; rw [← Ny104.out] at ho7)); have n0_ := Aside0.mk (Kd.R_lower ho7 (below_size (by repeat (first | (with_reducible first | exact HB.out | apply below_alloc | apply pw_below_drewN | apply below_drew1) | exact HB.out)))); have n1_ := Aside0.mk (below_step (by repeat (first | (with_reducible first | exact HB.out | apply below_alloc | apply pw_below_drewN | apply below_drew1) | exact HB.out)) hb); clear HB; have HO106 := n0_; have HB := n1_; clear n0_ n1_; clear hb ho7; obtain ⟨Ao8, co8, eo8⟩ := Kd.R_slice HO106.out; subst eo8) | ((with_reducible refine gate_callee (f := 9) rfl ?_); refine goesL_ (some 9) rfl rfl Try.func9 (by kernel_rfl) rfl #[.slice Ao8 y104.length co8] rfl (by (try simp only [List.map_toArray, List.map_cons, List.map_nil]); first | done | rfl | (simp only [List.length_drop, List.length_take]; rfl) | (simp; done) | (refine qa_arr ?_; (repeat' (first | rfl | refine qa_cons ?_ ?_ | refine qa_int ?_ | refine qa_agg ?_ | refine qa_arr ?_ | omega)); done)) ?_; (with_reducible refine (trie_Of.calls _ _ y104 t107 w _ ?side1 ?side2 ?side3 A1.out).mono ?_); (case side1 => repeat (first | (with_reducible first | exact HB.out | apply below_alloc | apply pw_below_drewN | apply below_drew1) | exact HB.out)); (case side2 => repeat (first | exact (Kd.R_reads' HO106.out).2.2 | (with_reducible refine Kd.C_alloc ?_ _) | (with_reducible refine Kd.C_drewN ?_ _) | (with_reducible refine Kd.C_drew ?_))); (case side3 => exact (Kd.R_reads' HO106.out).2.1); rintro e w9 ⟨g108, rfl, hi, hb, hb2⟩; refine ⟨_, rfl, ?_⟩; have n0_ := Aside0.mk (Kd.R_below (by (with_reducible repeat (first | apply Kd.R_alloc | apply Kd.R_drewN | apply Kd.R_drew)); exact HO106.out) hb2); have n1_ := Aside0.mk (hb); have n2_ := Aside0.mk (hi); clear HO106; clear HB; have HO106 := n0_; have HB := n1_; have HI108 := n2_; clear n0_ n1_ n2_; (try clear hb); (try clear hb2); (try clear hk); (try clear hi)) | ((with_reducible refine gate_callee (f := 16) rfl ?_); refine goesL_ (some 12) rfl rfl Try.func16 (by kernel_rfl) rfl #[.pointer (some ⟨g108, 0, none⟩), .int .u32 167838211] rfl (by (try simp only [List.map_toArray, List.map_cons, List.map_nil]); first | done | rfl | (simp only [List.length_drop, List.length_take]; rfl) | (simp; done) | (refine qa_arr ?_; (repeat' (first | rfl | refine qa_cons ?_ ?_ | refine qa_int ?_ | refine qa_agg ?_ | refine qa_arr ?_ | omega)); done)) ?_; (with_reducible refine (trie_Trie_Look.calls g108 t107 167838211 t109 t110 t111 t112 t113 true t115 w _ ?side1 ?side2 A2.out).mono ?_); (case side1 => repeat (first | (with_reducible first | exact HI108.out | apply IsS46.alloc | apply IsS46.drewN | apply IsS46.drew | apply IsS46.set_0) | exact HI108.out)); (case side2 => repeat (first | (with_reducible first | exact HB.out | apply below_alloc | apply pw_below_drewN | apply below_drew1 | refine below_set ?_ (IsS46.ge HI108.out)) | exact HB.out)); rintro e w10 ⟨rfl, hi, hb, hk⟩; refine ⟨_, rfl, ?_⟩; have n0_ := Aside0.mk (Kd.R_keepT (by (with_reducible repeat (first | apply Kd.R_alloc | apply Kd.R_drewN | apply Kd.R_drew)); exact HO106.out) hk (by decide)); have n1_ := Aside0.mk (hb); have n2_ := Aside0.mk (hi); clear HO106; clear HB; clear HI108; have HO106 := n0_; have HB := n1_; have HI108 := n2_; clear n0_ n1_ n2_; (try clear hb); (try clear hb2); (try clear hk); (try clear hi)) | ((with_reducible refine gate_dst (N := 2) rfl ?_); refine box_event ?hg (N := 2) ?hd (cs := #[.int .u32 0, .int .u8 0, .int .i64 0, .int .u16 0, .int .u16 0]) (t := 33) ?hr ?_; (case hd => rfl); (case hg => rfl); (case hr => first | (go_simp; done) | (go_simp; rfl)); intro gb116 hg w11 hbox hb; have n0_ := Aside0.mk (Kd.R_below (Kd.R_elderB (by (with_reducible repeat (first | apply Kd.R_alloc | apply Kd.R_drewN | apply Kd.R_drew)); exact HO106.out) gb116 (Nat.le_of_eq hg.symm)) hb); have n1_ := Aside0.mk (IsS46.below (by repeat (first | (with_reducible first | exact HI108.out | apply IsS46.alloc | apply IsS46.drewN | apply IsS46.drew | apply IsS46.set_0) | exact HI108.out)) hb); have n2_ := Aside0.mk (below_step (by repeat (first | (with_reducible first | exact HB.out | apply below_alloc | apply pw_below_drewN | apply below_drew1 | refine below_set ?_ (IsS46.ge HI108.out)) | exact HB.out)) hb); have n3_ := Aside0.mk (hbox); have n4_ := Aside0.mk ((by rw [hg]; exact (below_size (by repeat (first | (with_reducible first | exact HB.out | apply below_alloc | apply pw_below_drewN | apply below_drew1 | refine below_set ?_ (IsS46.ge HI108.out)) | exact HB.out))) : w.heap.size ≤ gb116)); have n5_ := Aside0.mk ((by rw [hg]; exact (below_size (by repeat (first | (with_reducible first | exact HB.out | apply below_alloc | apply pw_below_drewN | apply below_drew1 | refine below_set ?_ (IsS46.ge HI108.out)) | exact HB.out))) : w.heap.size ≤ gb116)); have n6_ := Aside0.mk ((by rw [hg]; exact Nat.ne_of_lt (IsS46.lt (show IsS46 w _ g108 t115 from by repeat (first | (with_reducible first | exact HI108.out | apply IsS46.alloc | apply IsS46.drewN | apply IsS46.drew | apply IsS46.set_0) | exact HI108.out))) : g108 ≠ gb116)); have n7_ := Aside0.mk ((by rw [hg]; exact Nat.ne_of_gt (IsS46.lt (show IsS46 w _ g108 t115 from by repeat (first | (with_reducible first | exact HI108.out | apply IsS46.alloc | apply IsS46.drewN | apply IsS46.drew | apply IsS46.set_0) | exact HI108.out))) : gb116 ≠ g108)); clear HO106; clear HI108; clear HB; have HO106 := n0_; have HI108 := n1_; have HB := n2_; have BK116 := n3_; have GW116 := n4_; have GE116 := n5_; have NB108_116 := n6_; have NB116_108 := n7_; clear n0_ n1_ n2_ n3_ n4_ n5_ n6_ n7_; clear hb hbox hg; have hnb12 := NB116_108.out; have hnc12 := NB108_116.out; have hcz13_0 : w11.cell? ⟨gb116, 0, none⟩ = some (.int .u32 0) := (blk_cell BK116.out 0).trans rfl; have hcz13_1 : w11.cell? ⟨gb116, 1, none⟩ = some (.int .u8 0) := (blk_cell BK116.out 1).trans rfl; have hcz13_2 : w11.cell? ⟨gb116, 2, none⟩ = some (.int .i64 0) := (blk_cell BK116.out 2).trans rfl; have hcz13_3 : w11.cell? ⟨gb116, 3, none⟩ = some (.int .u16 0) := (blk_cell BK116.out 3).trans rfl; have hcz13_4 : w11.cell? ⟨gb116, 4, none⟩ = some (.int .u16 0) := (blk_cell BK116.out 4).trans rfl; have hfz13_0 := blk_frozen BK116.out 0; have hfz13_1 := blk_frozen BK116.out 1; have hfz13_2 := blk_frozen BK116.out 2; have hfz13_3 := blk_frozen BK116.out 3; have hfz13_4 := blk_frozen BK116.out 4) | (go_at_call 11; (with_reducible refine (trie_Trie_Len.calls g108 t115 t117 t118 w _ ?side1 ?side2 A5.out).mono ?_); (case side1 => repeat (first | (with_reducible first | exact HI108.out | apply IsS46.alloc | apply IsS46.drewN | apply IsS46.drew | apply IsS46.set_0 | (refine IsS46.far ?_ ?_ _; rotate_left; focus ((repeat (first | exact Oth.of_blk BK116.out (by decide) (by decide) | apply Oth.set | apply Oth.alloc | apply Oth.drewN | apply Oth.drew)); done))) | exact HI108.out)); (case side2 => repeat (first | (with_reducible first | exact HB.out | apply below_alloc | apply pw_below_drewN | apply below_drew1 | refine below_set ?_ (IsS46.ge HI108.out) | refine below_set ?_ GE116.out) | exact HB.out)); rintro e w14 ⟨rfl, hi, hb, hk⟩; have n0_ := Aside0.mk (Kd.R_keepT (by (with_reducible repeat (first | apply Kd.R_alloc | apply Kd.R_drewN | apply Kd.R_drew)); exact (Kd.R_mono (Kd.R_far (p := ⟨gb116, 4, none⟩) (Kd.R_far (p := ⟨gb116, 3, none⟩) (Kd.R_far (p := ⟨gb116, 2, none⟩) (Kd.R_far (p := ⟨gb116, 1, none⟩) (Kd.R_far (p := ⟨gb116, 0, none⟩) (Kd.R_mono HO106.out (fun k_ hk => (⟨hk, hk.2⟩ : _ ∧ k_ ≠ gb116))) (fun _ hk => hk.2) (.int .u32 t109)) (fun _ hk => hk.2) (.int .u8 t110)) (fun _ hk => hk.2) (.int .i64 t111)) (fun _ hk => hk.2) (.int .u16 t112)) (fun _ hk => hk.2) (.int .u16 t113)) (fun _ h_ => h_.1))) hk (by decide)); have n1_ := Aside0.mk (KeepT.blk hk (g := gb116) (o := .cells #[.int .u32 t109, .int .u8 t110, .int .i64 t111, .int .u16 t112, .int .u16 t113] 33 (0, 0)) (by (with_reducible repeat (first | refine blk_drewN ?_ _ | refine blk_drew ?_ | refine blk_alloc ?_ _)); refine blk_put (cs := #[.int .u32 t109, .int .u8 t110, .int .i64 t111, .int .u16 t112, .int .u16 0]) ?_ 4 _ rfl; (with_reducible repeat (first | refine blk_drewN ?_ _ | refine blk_drew ?_ | refine blk_alloc ?_ _)); refine blk_put (cs := #[.int .u32 t109, .int .u8 t110, .int .i64 t111, .int .u16 0, .int .u16 0]) ?_ 3 _ rfl; (with_reducible repeat (first | refine blk_drewN ?_ _ | refine blk_drew ?_ | refine blk_alloc ?_ _)); refine blk_put (cs := #[.int .u32 t109, .int .u8 t110, .int .i64 0, .int .u16 0, .int .u16 0]) ?_ 2 _ rfl; (with_reducible repeat (first | refine blk_drewN ?_ _ | refine blk_drew ?_ | refine blk_alloc ?_ _)); refine blk_put (cs := #[.int .u32 t109, .int .u8 0, .int .i64 0, .int .u16 0, .int .u16 0]) ?_ 1 _ rfl; (with_reducible repeat (first | refine blk_drewN ?_ _ | refine blk_drew ?_ | refine blk_alloc ?_ _)); refine blk_put (cs := #[.int .u32 0, .int .u8 0, .int .i64 0, .int .u16 0, .int .u16 0]) ?_ 0 _ rfl; (with_reducible repeat (first | refine blk_drewN ?_ _ | refine blk_drew ?_ | refine blk_alloc ?_ _)); exact BK116.out) rfl (by decide) (by decide)); have n2_ := Aside0.mk (hb); have n3_ := Aside0.mk (hi); clear HO106; clear BK116; clear HB; clear HI108; have HO106 := n0_; have BK116 := n1_; have HB := n2_; have HI108 := n3_; clear n0_ n1_ n2_ n3_; (try clear hb); (try clear hb2); (try clear hk); (try clear hi)) | (go_at_call 11; (refine calls_of_args (args' := #[.pointer (some ⟨g108, 0, none⟩)]) ?_ ?_; focus (first | rfl | (simp; done) | (refine qa_arr ?_; (repeat' (first | rfl | refine qa_cons ?_ ?_ | refine qa_int ?_ | refine qa_agg ?_ | refine qa_arr ?_ | omega)); done)); (with_reducible refine (trie_Trie_Len.calls g108 t115 t117 t118 w _ ?side1 ?side2 A5.out).mono ?_)); (case side1 => repeat (first | (with_reducible first | exact HI108.out | apply IsS46.alloc | apply IsS46.drewN | apply IsS46.drew | apply IsS46.set_0 | (refine IsS46.far ?_ ?_ _; rotate_left; focus ((repeat (first | exact Oth.of_blk BK116.out (by decide) (by decide) | apply Oth.set | apply Oth.alloc | apply Oth.drewN | apply Oth.drew)); done))) | exact HI108.out)); (case side2 => repeat (first | (with_reducible first | exact HB.out | apply below_alloc | apply pw_below_drewN | apply below_drew1 | refine below_set ?_ (IsS46.ge HI108.out) | refine below_set ?_ GE116.out) | exact HB.out)); rintro e w14 ⟨rfl, hi, hb, hk⟩; have n0_ := Aside0.mk (Kd.R_keepT (by (with_reducible repeat (first | apply Kd.R_alloc | apply Kd.R_drewN | apply Kd.R_drew)); exact (Kd.R_mono (Kd.R_far (p := ⟨gb116, 4, none⟩) (Kd.R_far (p := ⟨gb116, 3, none⟩) (Kd.R_far (p := ⟨gb116, 2, none⟩) (Kd.R_far (p := ⟨gb116, 1, none⟩) (Kd.R_far (p := ⟨gb116, 0, none⟩) (Kd.R_mono HO106.out (fun k_ hk => (⟨hk, hk.2⟩ : _ ∧ k_ ≠ gb116))) (fun _ hk => hk.2) (.int .u32 t109)) (fun _ hk => hk.2) (.int .u8 t110)) (fun _ hk => hk.2) (.int .i64 t111)) (fun _ hk => hk.2) (.int .u16 t112)) (fun _ hk => hk.2) (.int .u16 t113)) (fun _ h_ => h_.1))) hk (by decide)); have n1_ := Aside0.mk (KeepT.blk hk (g := gb116) (o := .cells #[.int .u32 t109, .int .u8 t110, .int .i64 t111, .int .u16 t112, .int .u16 t113] 33 (0, 0)) (by (with_reducible repeat (first | refine blk_drewN ?_ _ | refine blk_drew ?_ | refine blk_alloc ?_ _)); refine blk_put (cs := #[.int .u32 t109, .int .u8 t110, .int .i64 t111, .int .u16 t112, .int .u16 0]) ?_ 4 _ rfl; (with_reducible repeat (first | refine blk_drewN ?_ _ | refine blk_drew ?_ | refine blk_alloc ?_ _)); refine blk_put (cs := #[.int .u32 t109, .int .u8 t110, .int .i64 t111, .int .u16 0, .int .u16 0]) ?_ 3 _ rfl; (with_reducible repeat (first | refine blk_drewN ?_ _ | refine blk_drew ?_ | refine blk_alloc ?_ _)); refine blk_put (cs := #[.int .u32 t109, .int .u8 t110, .int .i64 0, .int .u16 0, .int .u16 0]) ?_ 2 _ rfl; (with_reducible repeat (first | refine blk_drewN ?_ _ | refine blk_drew ?_ | refine blk_alloc ?_ _)); refine blk_put (cs := #[.int .u32 t109, .int .u8 0, .int .i64 0, .int .u16 0, .int .u16 0]) ?_ 1 _ rfl; (with_reducible repeat (first | refine blk_drewN ?_ _ | refine blk_drew ?_ | refine blk_alloc ?_ _)); refine blk_put (cs := #[.int .u32 0, .int .u8 0, .int .i64 0, .int .u16 0, .int .u16 0]) ?_ 0 _ rfl; (with_reducible repeat (first | refine blk_drewN ?_ _ | refine blk_drew ?_ | refine blk_alloc ?_ _)); exact BK116.out) rfl (by decide) (by decide)); have n2_ := Aside0.mk (hb); have n3_ := Aside0.mk (hi); clear HO106; clear BK116; clear HB; clear HI108; have HO106 := n0_; have BK116 := n1_; have HB := n2_; have HI108 := n3_; clear n0_ n1_ n2_ n3_; (try clear hb); (try clear hb2); (try clear hk); (try clear hi)))
      go_ret
      exact ⟨by first | rfl | (simp [errW_none, errW_some] <;> rfl) | (simp [*, errW_none, errW_some] <;> rfl), by repeat (first | (with_reducible first | exact HB.out | apply below_alloc | apply pw_below_drewN | apply below_drew1 | refine below_set ?_ (IsS46.ge HI108.out) | refine below_set ?_ GE116.out) | exact HB.out)⟩
    · rw [if_neg c4] at H
      have c4b0 : (t111 == 2) = false := beq_eq_false_iff_ne.mpr c4
      have c4b1 : (t111 != 2) = true := bne_iff_ne.mpr c4
      obtain rfl := Option.some.inj H
      simp only [Option.some.injEq, Prod.mk.injEq] at H
      obtain ⟨rfl⟩ := H
      go_enter Try.func7, Try.ntmps7
      go_wp2_with (first | ((with_reducible refine gate_dst (N := 8) rfl ?_); refine Kd.R_lit k33 _ 33 ?hg (N := 8) ?hd (xs := ([(⟨(⟨167772160, 8⟩ : S27), 0, 0, 0⟩ : S33), (⟨(⟨167837696, 16⟩ : S27), 2, 0, 0⟩ : S33)] : List (S33))) (inner := [.int .u32 167772160, .int .u8 8, .int .i64 0, .int .u16 0, .int .u16 0, .int .u32 167837696, .int .u8 16, .int .i64 2, .int .u16 0, .int .u16 0]) (ok := fun _ => True) (okp := fun _ => True) ?hr ?hp (fun _ hk => hk) trivial (Below.refl _ _) (Nat.le_refl _) (by simp) ?_; (case hd => rfl); (case hg => rfl); (case hr => first | (go_simp; done) | (go_simp; rfl)); (case hp => exact (Reps.c5 (show Kd.M k33 _ _ _ (⟨(⟨167772160, 8⟩ : S27), 0, 0, 0⟩ : S33) [.int .u32 167772160, .int .u8 8, .int .i64 0, .int .u16 0, .int .u16 0] from (k33_mkM _ _ _ (⟨(⟨167772160, 8⟩ : S27), 0, 0, 0⟩ : S33) )) (Reps.c5 (show Kd.M k33 _ _ _ (⟨(⟨167837696, 16⟩ : S27), 2, 0, 0⟩ : S33) [.int .u32 167837696, .int .u8 16, .int .i64 2, .int .u16 0, .int .u16 0] from (k33_mkM _ _ _ (⟨(⟨167837696, 16⟩ : S27), 2, 0, 0⟩ : S33) )) (Reps.none _ _)))); intro v105 w15 ho16 hb hg_ hnew_; clear hg_ hnew_; (first | rw [← Ny104.out] at ho16 | (simp only [Int.reduceToNat] at ho16; rw [← Ny104.out] at ho16)); have n0_ := Aside0.mk (Kd.R_lower ho16 (below_size (by repeat (first | (with_reducible first | exact HB.out | apply below_alloc | apply pw_below_drewN | apply below_drew1) | exact HB.out)))); have n1_ := Aside0.mk (below_step (by repeat (first | (with_reducible first | exact HB.out | apply below_alloc | apply pw_below_drewN | apply below_drew1) | exact HB.out)) hb); clear HB; have HO106 := n0_; have HB := n1_; clear n0_ n1_; clear hb ho16; obtain ⟨Ao17, co17, eo17⟩ := Kd.R_slice HO106.out; subst eo17) | ((with_reducible refine gate_callee (f := 9) rfl ?_); refine goesL_ (some 9) rfl rfl Try.func9 (by kernel_rfl) rfl #[.slice Ao17 y104.length co17] rfl (by (try simp only [List.map_toArray, List.map_cons, List.map_nil]); first | done | rfl | (simp only [List.length_drop, List.length_take]; rfl) | (simp; done) | (refine qa_arr ?_; (repeat' (first | rfl | refine qa_cons ?_ ?_ | refine qa_int ?_ | refine qa_agg ?_ | refine qa_arr ?_ | omega)); done)) ?_; (with_reducible refine (trie_Of.calls _ _ y104 t107 w _ ?side1 ?side2 ?side3 A1.out).mono ?_); (case side1 => repeat (first | (with_reducible first | exact HB.out | apply below_alloc | apply pw_below_drewN | apply below_drew1) | exact HB.out)); (case side2 => repeat (first | exact (Kd.R_reads' HO106.out).2.2 | (with_reducible refine Kd.C_alloc ?_ _) | (with_reducible refine Kd.C_drewN ?_ _) | (with_reducible refine Kd.C_drew ?_))); (case side3 => exact (Kd.R_reads' HO106.out).2.1); rintro e w18 ⟨g108, rfl, hi, hb, hb2⟩; refine ⟨_, rfl, ?_⟩; have n0_ := Aside0.mk (Kd.R_below (by (with_reducible repeat (first | apply Kd.R_alloc | apply Kd.R_drewN | apply Kd.R_drew)); exact HO106.out) hb2); have n1_ := Aside0.mk (hb); have n2_ := Aside0.mk (hi); clear HO106; clear HB; have HO106 := n0_; have HB := n1_; have HI108 := n2_; clear n0_ n1_ n2_; (try clear hb); (try clear hb2); (try clear hk); (try clear hi)) | ((with_reducible refine gate_callee (f := 16) rfl ?_); refine goesL_ (some 12) rfl rfl Try.func16 (by kernel_rfl) rfl #[.pointer (some ⟨g108, 0, none⟩), .int .u32 167838211] rfl (by (try simp only [List.map_toArray, List.map_cons, List.map_nil]); first | done | rfl | (simp only [List.length_drop, List.length_take]; rfl) | (simp; done) | (refine qa_arr ?_; (repeat' (first | rfl | refine qa_cons ?_ ?_ | refine qa_int ?_ | refine qa_agg ?_ | refine qa_arr ?_ | omega)); done)) ?_; (with_reducible refine (trie_Trie_Look.calls g108 t107 167838211 t109 t110 t111 t112 t113 true t115 w _ ?side1 ?side2 A2.out).mono ?_); (case side1 => repeat (first | (with_reducible first | exact HI108.out | apply IsS46.alloc | apply IsS46.drewN | apply IsS46.drew | apply IsS46.set_0) | exact HI108.out)); (case side2 => repeat (first | (with_reducible first | exact HB.out | apply below_alloc | apply pw_below_drewN | apply below_drew1 | refine below_set ?_ (IsS46.ge HI108.out)) | exact HB.out)); rintro e w19 ⟨rfl, hi, hb, hk⟩; refine ⟨_, rfl, ?_⟩; have n0_ := Aside0.mk (Kd.R_keepT (by (with_reducible repeat (first | apply Kd.R_alloc | apply Kd.R_drewN | apply Kd.R_drew)); exact HO106.out) hk (by decide)); have n1_ := Aside0.mk (hb); have n2_ := Aside0.mk (hi); clear HO106; clear HB; clear HI108; have HO106 := n0_; have HB := n1_; have HI108 := n2_; clear n0_ n1_ n2_; (try clear hb); (try clear hb2); (try clear hk); (try clear hi)) | ((with_reducible refine gate_dst (N := 2) rfl ?_); refine box_event ?hg (N := 2) ?hd (cs := #[.int .u32 0, .int .u8 0, .int .i64 0, .int .u16 0, .int .u16 0]) (t := 33) ?hr ?_; (case hd => rfl); (case hg => rfl); (case hr => first | (go_simp; done) | (go_simp; rfl)); intro gb116 hg w20 hbox hb; have n0_ := Aside0.mk (Kd.R_below (Kd.R_elderB (by (with_reducible repeat (first | apply Kd.R_alloc | apply Kd.R_drewN | apply Kd.R_drew)); exact HO106.out) gb116 (Nat.le_of_eq hg.symm)) hb); have n1_ := Aside0.mk (IsS46.below (by repeat (first | (with_reducible first | exact HI108.out | apply IsS46.alloc | apply IsS46.drewN | apply IsS46.drew | apply IsS46.set_0) | exact HI108.out)) hb); have n2_ := Aside0.mk (below_step (by repeat (first | (with_reducible first | exact HB.out | apply below_alloc | apply pw_below_drewN | apply below_drew1 | refine below_set ?_ (IsS46.ge HI108.out)) | exact HB.out)) hb); have n3_ := Aside0.mk (hbox); have n4_ := Aside0.mk ((by rw [hg]; exact (below_size (by repeat (first | (with_reducible first | exact HB.out | apply below_alloc | apply pw_below_drewN | apply below_drew1 | refine below_set ?_ (IsS46.ge HI108.out)) | exact HB.out))) : w.heap.size ≤ gb116)); have n5_ := Aside0.mk ((by rw [hg]; exact (below_size (by repeat (first | (with_reducible first | exact HB.out | apply below_alloc | apply pw_below_drewN | apply below_drew1 | refine below_set ?_ (IsS46.ge HI108.out)) | exact HB.out))) : w.heap.size ≤ gb116)); have n6_ := Aside0.mk ((by rw [hg]; exact Nat.ne_of_lt (IsS46.lt (show IsS46 w _ g108 t115 from by repeat (first | (with_reducible first | exact HI108.out | apply IsS46.alloc | apply IsS46.drewN | apply IsS46.drew | apply IsS46.set_0) | exact HI108.out))) : g108 ≠ gb116)); have n7_ := Aside0.mk ((by rw [hg]; exact Nat.ne_of_gt (IsS46.lt (show IsS46 w _ g108 t115 from by repeat (first | (with_reducible first | exact HI108.out | apply IsS46.alloc | apply IsS46.drewN | apply IsS46.drew | apply IsS46.set_0) | exact HI108.out))) : gb116 ≠ g108)); clear HO106; clear HI108; clear HB; have HO106 := n0_; have HI108 := n1_; have HB := n2_; have BK116 := n3_; have GW116 := n4_; have GE116 := n5_; have NB108_116 := n6_; have NB116_108 := n7_; clear n0_ n1_ n2_ n3_ n4_ n5_ n6_ n7_; clear hb hbox hg; have hnb21 := NB116_108.out; have hnc21 := NB108_116.out; have hcz22_0 : w20.cell? ⟨gb116, 0, none⟩ = some (.int .u32 0) := (blk_cell BK116.out 0).trans rfl; have hcz22_1 : w20.cell? ⟨gb116, 1, none⟩ = some (.int .u8 0) := (blk_cell BK116.out 1).trans rfl; have hcz22_2 : w20.cell? ⟨gb116, 2, none⟩ = some (.int .i64 0) := (blk_cell BK116.out 2).trans rfl; have hcz22_3 : w20.cell? ⟨gb116, 3, none⟩ = some (.int .u16 0) := (blk_cell BK116.out 3).trans rfl; have hcz22_4 : w20.cell? ⟨gb116, 4, none⟩ = some (.int .u16 0) := (blk_cell BK116.out 4).trans rfl; have hfz22_0 := blk_frozen BK116.out 0; have hfz22_1 := blk_frozen BK116.out 1; have hfz22_2 := blk_frozen BK116.out 2; have hfz22_3 := blk_frozen BK116.out 3; have hfz22_4 := blk_frozen BK116.out 4))
      go_ret
      exact ⟨by first | rfl | (simp [errW_none, errW_some] <;> rfl) | (simp [*, errW_none, errW_some] <;> rfl), by repeat (first | (with_reducible first | exact HB.out | apply below_alloc | apply pw_below_drewN | apply below_drew1 | refine below_set ?_ (IsS46.ge HI108.out) | refine below_set ?_ GE116.out) | exact HB.out)⟩
  · replace c3 := Bool.eq_false_iff.mpr c3
    subst c3
    have H1 : (some false) = some r := by rw [if_neg (show ¬ (false = true) by decide)] at H; exact H
    clear H
    have H := H1
    clear H1
    obtain rfl := Option.some.inj H
    simp only [Option.some.injEq, Prod.mk.injEq] at H
    obtain ⟨rfl⟩ := H
    go_enter Try.func7, Try.ntmps7
    go_wp2_with (first | ((with_reducible refine gate_dst (N := 8) rfl ?_); refine Kd.R_lit k33 _ 33 ?hg (N := 8) ?hd (xs := ([(⟨(⟨167772160, 8⟩ : S27), 0, 0, 0⟩ : S33), (⟨(⟨167837696, 16⟩ : S27), 2, 0, 0⟩ : S33)] : List (S33))) (inner := [.int .u32 167772160, .int .u8 8, .int .i64 0, .int .u16 0, .int .u16 0, .int .u32 167837696, .int .u8 16, .int .i64 2, .int .u16 0, .int .u16 0]) (ok := fun _ => True) (okp := fun _ => True) ?hr ?hp (fun _ hk => hk) trivial (Below.refl _ _) (Nat.le_refl _) (by simp) ?_; (case hd => rfl); (case hg => rfl); (case hr => first | (go_simp; done) | (go_simp; rfl)); (case hp => exact (Reps.c5 (show Kd.M k33 _ _ _ (⟨(⟨167772160, 8⟩ : S27), 0, 0, 0⟩ : S33) [.int .u32 167772160, .int .u8 8, .int .i64 0, .int .u16 0, .int .u16 0] from (k33_mkM _ _ _ (⟨(⟨167772160, 8⟩ : S27), 0, 0, 0⟩ : S33) )) (Reps.c5 (show Kd.M k33 _ _ _ (⟨(⟨167837696, 16⟩ : S27), 2, 0, 0⟩ : S33) [.int .u32 167837696, .int .u8 16, .int .i64 2, .int .u16 0, .int .u16 0] from (k33_mkM _ _ _ (⟨(⟨167837696, 16⟩ : S27), 2, 0, 0⟩ : S33) )) (Reps.none _ _)))); intro v105 w23 ho24 hb hg_ hnew_; clear hg_ hnew_; (first | rw [← Ny104.out] at ho24 | (simp only [Int.reduceToNat] at ho24; rw [← Ny104.out] at ho24)); have n0_ := Aside0.mk (Kd.R_lower ho24 (below_size (by repeat (first | (with_reducible first | exact HB.out | apply below_alloc | apply pw_below_drewN | apply below_drew1) | exact HB.out)))); have n1_ := Aside0.mk (below_step (by repeat (first | (with_reducible first | exact HB.out | apply below_alloc | apply pw_below_drewN | apply below_drew1) | exact HB.out)) hb); clear HB; have HO106 := n0_; have HB := n1_; clear n0_ n1_; clear hb ho24; obtain ⟨Ao25, co25, eo25⟩ := Kd.R_slice HO106.out; subst eo25) | ((with_reducible refine gate_callee (f := 9) rfl ?_); refine goesL_ (some 9) rfl rfl Try.func9 (by kernel_rfl) rfl #[.slice Ao25 y104.length co25] rfl (by (try simp only [List.map_toArray, List.map_cons, List.map_nil]); first | done | rfl | (simp only [List.length_drop, List.length_take]; rfl) | (simp; done) | (refine qa_arr ?_; (repeat' (first | rfl | refine qa_cons ?_ ?_ | refine qa_int ?_ | refine qa_agg ?_ | refine qa_arr ?_ | omega)); done)) ?_; (with_reducible refine (trie_Of.calls _ _ y104 t107 w _ ?side1 ?side2 ?side3 A1.out).mono ?_); (case side1 => repeat (first | (with_reducible first | exact HB.out | apply below_alloc | apply pw_below_drewN | apply below_drew1) | exact HB.out)); (case side2 => repeat (first | exact (Kd.R_reads' HO106.out).2.2 | (with_reducible refine Kd.C_alloc ?_ _) | (with_reducible refine Kd.C_drewN ?_ _) | (with_reducible refine Kd.C_drew ?_))); (case side3 => exact (Kd.R_reads' HO106.out).2.1); rintro e w26 ⟨g108, rfl, hi, hb, hb2⟩; refine ⟨_, rfl, ?_⟩; have n0_ := Aside0.mk (Kd.R_below (by (with_reducible repeat (first | apply Kd.R_alloc | apply Kd.R_drewN | apply Kd.R_drew)); exact HO106.out) hb2); have n1_ := Aside0.mk (hb); have n2_ := Aside0.mk (hi); clear HO106; clear HB; have HO106 := n0_; have HB := n1_; have HI108 := n2_; clear n0_ n1_ n2_; (try clear hb); (try clear hb2); (try clear hk); (try clear hi)) | ((with_reducible refine gate_callee (f := 16) rfl ?_); refine goesL_ (some 12) rfl rfl Try.func16 (by kernel_rfl) rfl #[.pointer (some ⟨g108, 0, none⟩), .int .u32 167838211] rfl (by (try simp only [List.map_toArray, List.map_cons, List.map_nil]); first | done | rfl | (simp only [List.length_drop, List.length_take]; rfl) | (simp; done) | (refine qa_arr ?_; (repeat' (first | rfl | refine qa_cons ?_ ?_ | refine qa_int ?_ | refine qa_agg ?_ | refine qa_arr ?_ | omega)); done)) ?_; (with_reducible refine (trie_Trie_Look.calls g108 t107 167838211 t109 t110 t111 t112 t113 false t115 w _ ?side1 ?side2 A2.out).mono ?_); (case side1 => repeat (first | (with_reducible first | exact HI108.out | apply IsS46.alloc | apply IsS46.drewN | apply IsS46.drew | apply IsS46.set_0) | exact HI108.out)); (case side2 => repeat (first | (with_reducible first | exact HB.out | apply below_alloc | apply pw_below_drewN | apply below_drew1 | refine below_set ?_ (IsS46.ge HI108.out)) | exact HB.out)); rintro e w27 ⟨rfl, hi, hb, hk⟩; refine ⟨_, rfl, ?_⟩; have n0_ := Aside0.mk (Kd.R_keepT (by (with_reducible repeat (first | apply Kd.R_alloc | apply Kd.R_drewN | apply Kd.R_drew)); exact HO106.out) hk (by decide)); have n1_ := Aside0.mk (hb); have n2_ := Aside0.mk (hi); clear HO106; clear HB; clear HI108; have HO106 := n0_; have HB := n1_; have HI108 := n2_; clear n0_ n1_ n2_; (try clear hb); (try clear hb2); (try clear hk); (try clear hi)) | ((with_reducible refine gate_dst (N := 2) rfl ?_); refine box_event ?hg (N := 2) ?hd (cs := #[.int .u32 0, .int .u8 0, .int .i64 0, .int .u16 0, .int .u16 0]) (t := 33) ?hr ?_; (case hd => rfl); (case hg => rfl); (case hr => first | (go_simp; done) | (go_simp; rfl)); intro gb116 hg w28 hbox hb; have n0_ := Aside0.mk (Kd.R_below (Kd.R_elderB (by (with_reducible repeat (first | apply Kd.R_alloc | apply Kd.R_drewN | apply Kd.R_drew)); exact HO106.out) gb116 (Nat.le_of_eq hg.symm)) hb); have n1_ := Aside0.mk (IsS46.below (by repeat (first | (with_reducible first | exact HI108.out | apply IsS46.alloc | apply IsS46.drewN | apply IsS46.drew | apply IsS46.set_0) | exact HI108.out)) hb); have n2_ := Aside0.mk (below_step (by repeat (first | (with_reducible first | exact HB.out | apply below_alloc | apply pw_below_drewN | apply below_drew1 | refine below_set ?_ (IsS46.ge HI108.out)) | exact HB.out)) hb); have n3_ := Aside0.mk (hbox); have n4_ := Aside0.mk ((by rw [hg]; exact (below_size (by repeat (first | (with_reducible first | exact HB.out | apply below_alloc | apply pw_below_drewN | apply below_drew1 | refine below_set ?_ (IsS46.ge HI108.out)) | exact HB.out))) : w.heap.size ≤ gb116)); have n5_ := Aside0.mk ((by rw [hg]; exact (below_size (by repeat (first | (with_reducible first | exact HB.out | apply below_alloc | apply pw_below_drewN | apply below_drew1 | refine below_set ?_ (IsS46.ge HI108.out)) | exact HB.out))) : w.heap.size ≤ gb116)); have n6_ := Aside0.mk ((by rw [hg]; exact Nat.ne_of_lt (IsS46.lt (show IsS46 w _ g108 t115 from by repeat (first | (with_reducible first | exact HI108.out | apply IsS46.alloc | apply IsS46.drewN | apply IsS46.drew | apply IsS46.set_0) | exact HI108.out))) : g108 ≠ gb116)); have n7_ := Aside0.mk ((by rw [hg]; exact Nat.ne_of_gt (IsS46.lt (show IsS46 w _ g108 t115 from by repeat (first | (with_reducible first | exact HI108.out | apply IsS46.alloc | apply IsS46.drewN | apply IsS46.drew | apply IsS46.set_0) | exact HI108.out))) : gb116 ≠ g108)); clear HO106; clear HI108; clear HB; have HO106 := n0_; have HI108 := n1_; have HB := n2_; have BK116 := n3_; have GW116 := n4_; have GE116 := n5_; have NB108_116 := n6_; have NB116_108 := n7_; clear n0_ n1_ n2_ n3_ n4_ n5_ n6_ n7_; clear hb hbox hg; have hnb29 := NB116_108.out; have hnc29 := NB108_116.out; have hcz30_0 : w28.cell? ⟨gb116, 0, none⟩ = some (.int .u32 0) := (blk_cell BK116.out 0).trans rfl; have hcz30_1 : w28.cell? ⟨gb116, 1, none⟩ = some (.int .u8 0) := (blk_cell BK116.out 1).trans rfl; have hcz30_2 : w28.cell? ⟨gb116, 2, none⟩ = some (.int .i64 0) := (blk_cell BK116.out 2).trans rfl; have hcz30_3 : w28.cell? ⟨gb116, 3, none⟩ = some (.int .u16 0) := (blk_cell BK116.out 3).trans rfl; have hcz30_4 : w28.cell? ⟨gb116, 4, none⟩ = some (.int .u16 0) := (blk_cell BK116.out 4).trans rfl; have hfz30_0 := blk_frozen BK116.out 0; have hfz30_1 := blk_frozen BK116.out 1; have hfz30_2 := blk_frozen BK116.out 2; have hfz30_3 := blk_frozen BK116.out 3; have hfz30_4 := blk_frozen BK116.out 4))
    go_ret
    exact ⟨by first | rfl | (simp [errW_none, errW_some] <;> rfl) | (simp [*, errW_none, errW_some] <;> rfl), by repeat (first | (with_reducible first | exact HB.out | apply below_alloc | apply pw_below_drewN | apply below_drew1 | refine below_set ?_ (IsS46.ge HI108.out) | refine below_set ?_ GE116.out) | exact HB.out)⟩

/-! ### milestoneref01_Bit: function 28 -/
def milestoneref01_Bit.l0 : Nat → Int → Int → Option (Bool)
  | 0, _, _ => none
  | k + 1, x0, x1 => if x1 < 31 then (milestoneref01_Bit.l0 k ((Int.tdiv x0 2) % 4294967296) (wrap64 (x1 + 1))) else (some ((Int.tmod x0 2) == 1))
def milestoneref01_Bit.f (k : Nat) (a0 : Int) (a1 : Int) : Option (Bool) := milestoneref01_Bit.l0 k a0 a1
theorem milestoneref01_Bit.mono_l : ∀ k, (∀ y0 y1, LeO (milestoneref01_Bit.l0 k y0 y1) (milestoneref01_Bit.l0 (k + 1) y0 y1))
  | 0 => fun _ _ r h => by simp [milestoneref01_Bit.l0] at h
  | k + 1 => by
    have ih0 := milestoneref01_Bit.mono_l k
    · intro y0 y1
      unfold milestoneref01_Bit.l0
      repeat' first
      | (with_reducible exact ih0 _ _)
      | (with_reducible exact LeO.refl _)
      | (with_reducible exact LeO.none _)
      | (with_reducible refine LeO.ite ?_ ?_)
      | (with_reducible refine LeO.bind ?_ (fun _ => ?_))
      | exact ih0 _ _
      | exact LeO.none _
      | refine LeO.ite ?_ ?_
      | refine LeO.bind ?_ (fun _ => ?_)
theorem milestoneref01_Bit.mono : ∀ a0 a1 k, LeO (milestoneref01_Bit.f k a0 a1) (milestoneref01_Bit.f (k + 1) a0 a1) := by
  intro a0 a1 k
  have ih0 := milestoneref01_Bit.mono_l k
  unfold milestoneref01_Bit.f
  repeat' first
      | (with_reducible exact ih0 _ _)
      | (with_reducible exact LeO.refl _)
      | (with_reducible exact LeO.none _)
      | (with_reducible refine LeO.ite ?_ ?_)
      | (with_reducible refine LeO.bind ?_ (fun _ => ?_))
      | exact ih0 _ _
      | exact LeO.none _
      | refine LeO.ite ?_ ?_
      | refine LeO.bind ?_ (fun _ => ?_)
set_option maxHeartbeats 8000000 in
set_option maxRecDepth 100000 in
theorem milestoneref01_Bit.calls (k : Nat) (a0 : Int) (a1 : Int) (r : Bool) (w : World) (h : milestoneref01_Bit.f k a0 a1 = some r) :
    Calls Try.prog 28 #[.int .u32 a0, .int .i64 a1] w fun e w' => e = .returned (.bool r) ∧ Drawn0 w w' := by
  have H : (milestoneref01_Bit.l0 k a0 a1) = some r := h
  clear h
  have H' := Aside0.mk H
  clear H
  go_enter Try.func28, Try.ntmps28
  go_wp2
  go_loopg [0, 1] k (fun kq v0 v1 w' => ∃ (x0_1 : Int) (x1_1 : Int), v0 = .int .u32 x0_1 ∧ v1 = .int .i64 x1_1 ∧ Aside0 (milestoneref01_Bit.l0 kq x0_1 x1_1 = some r) ∧ Aside0 (kq ≤ k) ∧ Drawn0 w w')
  case atStart => exact ⟨(a0), (a1), (by first | rfl | (simp; done) | (simp [*]; done) | (refine qa_int ?_; omega) | (refine qa_int ?_; simp <;> omega)), (by first | rfl | (simp; done) | (simp [*]; done) | (refine qa_int ?_; omega) | (refine qa_int ?_; simp <;> omega)), H', ⟨Nat.le_refl _⟩, by repeat (first | exact Drawn0.refl _ | apply Drawn0.step)⟩
  case round =>
    clear H'
    try clear c2
    try clear p2
    obtain ⟨x0_1, x1_1, rfl, rfl, HA, HK1, ⟨m1, rfl⟩⟩ := hrel
    cases gk with
    | zero => exact absurd HA.out (by simp [milestoneref01_Bit.l0])
    | succ k1 =>
      have H := HA.out
      clear HA
      simp only [milestoneref01_Bit.l0] at H
      by_cases c3 : x1_1 < 31
      · rw [if_pos c3] at H
        have c3b0 : decide (x1_1 < 31) = true := decide_eq_true c3
        clear c3
        have H' := Aside0.mk H
        clear H
        go_wp2
        go_roundg k1
        case measure => have := HK1.out; omega
        case rel => exact ⟨((Int.tdiv x0_1 2) % 4294967296), (wrap64 (x1_1 + 1)), (by first | rfl | (simp; done) | (simp [*]; done) | (refine qa_int ?_; omega) | (refine qa_int ?_; simp <;> omega)), (by first | rfl | (simp; done) | (simp [*]; done) | (refine qa_int ?_; omega) | (refine qa_int ?_; simp <;> omega)), H', ⟨by have := HK1.out; omega⟩, by repeat (first | exact Drawn0.refl _ | apply Drawn0.step)⟩
      · rw [if_neg c3] at H
        have c3b0 : decide (x1_1 < 31) = false := decide_eq_false c3
        clear c3
        obtain rfl := Option.some.inj H
        simp only [Option.some.injEq, Prod.mk.injEq] at H
        obtain ⟨rfl⟩ := H
        go_wp2
        go_ret
        exact ⟨by first | rfl | (simp; done) | (simp [*]; done) | (refine qa_int ?_; omega) | (refine qa_int ?_; simp <;> omega), by repeat (first | exact Drawn0.refl _ | apply Drawn0.step)⟩

end Go.Proofs.Ytbmiifhmgfhidaa.QTriePlays
