-- Lines by a program of this session, for this claim.
import Derived.Test.YtbmiifhmgfhidaaQTriePlaysx0
import Derived.Test.YtbmiifhmgfhidaaQTriePlaysx3
import Derived.Test.YtbmiifhmgfhidaaQTriePlaysx4
namespace Go.Proofs.Ytbmiifhmgfhidaa.QTriePlays
open Go.RowKit Go.Proofs.YtbmiifhmgfhidaaW.PrintWords Go.Proofs.YtbmiifhmgfhidaaW.PrintLast Go.Proofs.YtbmiifhmgfhidaaW.PrintMore
attribute [local go_sem] max2_int min2_int max_two min_two max_three min_three max_four min_four   -- for this text's walks alone
set_option linter.unusedVariables false
set_option linter.unusedSimpArgs false

/-! ### trie_Trie_Get: function 18 -/
def trie_Trie_Get.g (T : Tr S33) (rt : Bool) (p : List Bool) : Option S33 := if rt = true then T.get p else none
def trie_Trie_Get.f (T : Tr S33) (a1_0 a1_1 : Int) : Option (Int × Int × Int × Int × Int × Bool × Tr S33) :=
  (prefix_Right.f a1_0 a1_1).bind fun rt => some ((oR (trie_Trie_Get.g T rt (pathFrom a1_0 a1_1.toNat 0))).f0.f0, (oR (trie_Trie_Get.g T rt (pathFrom a1_0 a1_1.toNat 0))).f0.f1, (oR (trie_Trie_Get.g T rt (pathFrom a1_0 a1_1.toNat 0))).f1, (oR (trie_Trie_Get.g T rt (pathFrom a1_0 a1_1.toNat 0))).f2, (oR (trie_Trie_Get.g T rt (pathFrom a1_0 a1_1.toNat 0))).f3, (trie_Trie_Get.g T rt (pathFrom a1_0 a1_1.toNat 0)).isSome, T)
set_option maxHeartbeats 8000000 in
set_option maxRecDepth 100000 in
theorem trie_Trie_Get.calls (g : Nat) (T : Tr S33) (a1_0 a1_1 : Int) (r1 r2 r3 r4 r5 : Int) (r6 : Bool) (r7 : Tr S33) (w0 w : World) (hI : IsS46 w0 w g T) (hB : Below w0.heap.size w0 w) (h : trie_Trie_Get.f T a1_0 a1_1 = some (r1, r2, r3, r4, r5, r6, r7)) :
    Calls Try.prog 18 #[.pointer (some ⟨g, 0, none⟩), .agg #[.int .u32 a1_0, .int .u8 a1_1]] w fun e w' => e = .returned (.tuple #[.agg #[.int .u32 r1, .int .u8 r2, .int .i64 r3, .int .u16 r4, .int .u16 r5], .bool r6]) ∧ IsS46 w0 w' g r7 ∧ Below w0.heap.size w0 w' ∧ KeepT w w' := by
  have hu33 := Try.underlying33
  have hu44 := Try.underlying44
  have hu46 := Try.underlying46
  have hu42 := Try.underlying42
  have hu27 := Try.underlying27
  unfold trie_Trie_Get.f at h
  obtain ⟨rt, hrt, h⟩ := Option.bind_eq_some_iff.mp h
  simp only [Option.some.injEq, Prod.mk.injEq] at h
  obtain ⟨rfl, rfl, rfl, rfl, rfl, rfl, rfl⟩ := h
  obtain ⟨d0, hd0⟩ : ∃ d0, trie_Trie_Get.g T rt (pathFrom a1_0 a1_1.toNat 0) = d0 := ⟨_, rfl⟩
  rw [hd0]
  have HI := Aside0.mk hI
  have HB := Aside0.mk hB
  have HD := Aside0.mk hd0
  have HRT := Aside0.mk hrt
  clear hI hB hd0 hrt
  refine Calls.mono (R := fun e w' => e = .returned (.tuple #[.agg #[.int .u32 (oR d0).f0.f0, .int .u8 (oR d0).f0.f1, .int .i64 (oR d0).f1, .int .u16 (oR d0).f2, .int .u16 (oR d0).f3], .bool d0.isSome]) ∧ Below w.heap.size w w') ?_ (fun e w' hq => ⟨hq.1, HI.out.below hq.2, below_step HB.out hq.2, KeepT.of_below hq.2⟩)
  go_enter Try.func18, Try.ntmps18
  go_wp2_with (first | ((with_reducible refine gate_dst (N := 3) rfl ?_); (try (refine gate_guard (by rfl) ?_; dsimp only)); refine box_event ?hg (N := 3) ?hd (cs := #[.int .u32 a1_0, .int .u8 a1_1]) (t := 27) ?hr ?_; (case hd => rfl); (case hg => rfl); (case hr => first | (go_simp; done) | (go_simp; rfl)); intro g3 hg w3 hbox hb; have BK3 := Aside0.mk hbox; have HB3 := Aside0.mk hb; clear hb hbox hg) | ((with_reducible refine gate_dst (N := 4) rfl ?_); (try (refine gate_guard (by rfl) ?_; dsimp only)); refine box_event ?hg (N := 4) ?hd (cs := #[.int .u32 0, .int .u8 0, .int .i64 0, .int .u16 0, .int .u16 0]) (t := 33) ?hr ?_; (case hd => rfl); (case hg => rfl); (case hr => first | (go_simp; done) | (go_simp; rfl)); intro g4 hg w4 hbox hb; have BK34 := Aside0.mk (blk_below BK3.out hb); have BK4 := Aside0.mk hbox; have GE4 := Aside0.mk (Nat.le_trans HB3.out.size (Nat.le_of_eq hg.symm)); have HB4 := Aside0.mk (below_step HB3.out hb); clear hb hbox hg BK3 HB3; have p0 : w4.cell? ⟨g3, 0, none⟩ = some (.int .u32 a1_0) := (blk_cell BK34.out 0).trans rfl; have p1 : w4.cell? ⟨g3, 1, none⟩ = some (.int .u8 a1_1) := (blk_cell BK34.out 1).trans rfl))
  refine (prefix_Right.calls a1_0 a1_1 rt _ HRT.out).mono ?_
  rintro e w5 ⟨rfl, hb⟩
  have HC := Aside0.mk (HI.out.cur.below (below_step HB4.out hb))
  have BK3 := Aside0.mk (blk_below BK34.out hb)
  have BK45 := Aside0.mk (blk_below BK4.out hb)
  have HB5 := Aside0.mk (below_step HB4.out hb)
  clear hb HI HB p0 p1 BK34 BK4 HB4
  have BK4 := BK45
  have HB := HB5
  clear BK45 HB5
  cases rt
  · have hz : none = d0 := HD.out
    subst hz
    have z0 : w5.cell? ⟨g4, 0, none⟩ = some (.int .u32 0) := (blk_cell BK4.out 0).trans rfl
    have z1 : w5.cell? ⟨g4, 1, none⟩ = some (.int .u8 0) := (blk_cell BK4.out 1).trans rfl
    have z2 : w5.cell? ⟨g4, 2, none⟩ = some (.int .i64 0) := (blk_cell BK4.out 2).trans rfl
    have z3 : w5.cell? ⟨g4, 3, none⟩ = some (.int .u16 0) := (blk_cell BK4.out 3).trans rfl
    have z4 : w5.cell? ⟨g4, 4, none⟩ = some (.int .u16 0) := (blk_cell BK4.out 4).trans rfl
    have y0 := blk_frozen BK4.out 0
    have y1 := blk_frozen BK4.out 1
    have y2 := blk_frozen BK4.out 2
    have y3 := blk_frozen BK4.out 3
    have y4 := blk_frozen BK4.out 4
    go_wp2_with (fail)
    refine bodyPost_ret (results_ct rfl _ _ g4 33 #[.int .u32 (oR none).f0.f0, .int .u8 (oR none).f0.f1, .int .i64 (oR none).f1, .int .u16 (oR none).f2, .int .u16 (oR none).f3] (0, 0) _ rfl (by refine blk_put (cs := #[.int .u32 (oR none).f0.f0, .int .u8 (oR none).f0.f1, .int .i64 (oR none).f1, .int .u16 (oR none).f2, .int .u16 0]) ?_ 4 _ rfl; refine blk_put (cs := #[.int .u32 (oR none).f0.f0, .int .u8 (oR none).f0.f1, .int .i64 (oR none).f1, .int .u16 0, .int .u16 0]) ?_ 3 _ rfl; refine blk_put (cs := #[.int .u32 (oR none).f0.f0, .int .u8 (oR none).f0.f1, .int .i64 0, .int .u16 0, .int .u16 0]) ?_ 2 _ rfl; refine blk_put (cs := #[.int .u32 (oR none).f0.f0, .int .u8 0, .int .i64 0, .int .u16 0, .int .u16 0]) ?_ 1 _ rfl; refine blk_put (cs := #[.int .u32 0, .int .u8 0, .int .i64 0, .int .u16 0, .int .u16 0]) ?_ 0 _ rfl; exact BK4.out) Try.underlying33 rfl (by kernel_rfl)) rfl ?_
    have ge4 := GE4.out
    exact ⟨rfl, below_set (below_set (below_set (below_set (below_set HB.out ge4) ge4) ge4) ge4) ge4⟩
  have HD1 := Aside0.mk (show T.get (pathFrom a1_0 a1_1.toNat 0) = d0 from HD.out)
  clear HD
  go_wp2_with (fail)
  go_loopg [6, 7] (a1_1.toNat + 1) (fun kx s6 s7 wr => ∃ (i : Nat) (v : Value) (s : Tr S33), s6 = v ∧ s7 = .int .u8 i ∧ i ≤ a1_1.toNat ∧ a1_1.toNat + 1 - i ≤ kx ∧ Aside0 (Cur wr v s) ∧ Aside0 (s.get (pathFrom a1_0 (a1_1.toNat - i) i) = d0) ∧ Aside0 (wr.heap[g3]? = some (.cells #[.int .u32 a1_0, .int .u8 a1_1] 27 (0, 0))) ∧ Aside0 (wr.heap[g4]? = some (.cells #[.int .u32 0, .int .u8 0, .int .i64 0, .int .u16 0, .int .u16 0] 33 (0, 0))) ∧ Aside0 (Below w.heap.size w wr))
  case atStart => exact ⟨0, _, T, rfl, rfl, Nat.zero_le _, by omega, HC, HD1, BK3, BK4, HB⟩
  case round =>
    clear HC HD1 BK3 BK4 HB
    have hle : a1_1 ≤ 32 := by
      have h1 := HRT.out
      unfold prefix_Right.f at h1
      by_cases h2 : a1_1 ≤ 32
      · exact h2
      · rw [if_neg h2] at h1; cases h1
    obtain ⟨i, v, s, rfl, rfl, hi, hgas, HC, HL, BK3, BK4, HB⟩ := hrel
    have p1 : wr.cell? ⟨g3, 1, none⟩ = some (.int .u8 a1_1) := (blk_cell BK3.out 1).trans rfl
    rcases HC.out with ⟨rfl, rfl⟩ | ⟨h, x, o, a, b, bs, rfl, rfl, hn⟩
    · have hl : d0 = none := HL.out.symm.trans (Tr.get_nil _)
      subst hl
      have z0 : wr.cell? ⟨g4, 0, none⟩ = some (.int .u32 0) := (blk_cell BK4.out 0).trans rfl
      have z1 : wr.cell? ⟨g4, 1, none⟩ = some (.int .u8 0) := (blk_cell BK4.out 1).trans rfl
      have z2 : wr.cell? ⟨g4, 2, none⟩ = some (.int .i64 0) := (blk_cell BK4.out 2).trans rfl
      have z3 : wr.cell? ⟨g4, 3, none⟩ = some (.int .u16 0) := (blk_cell BK4.out 3).trans rfl
      have z4 : wr.cell? ⟨g4, 4, none⟩ = some (.int .u16 0) := (blk_cell BK4.out 4).trans rfl
      have y0 := blk_frozen BK4.out 0
      have y1 := blk_frozen BK4.out 1
      have y2 := blk_frozen BK4.out 2
      have y3 := blk_frozen BK4.out 3
      have y4 := blk_frozen BK4.out 4
      by_cases hlt : (i : Int) < a1_1
      · have q1 : decide ((i : Int) < a1_1) = true := decide_eq_true hlt
        go_wp2_with (fail)
        refine bodyPost_ret (results_ct rfl _ _ g4 33 #[.int .u32 (oR none).f0.f0, .int .u8 (oR none).f0.f1, .int .i64 (oR none).f1, .int .u16 (oR none).f2, .int .u16 (oR none).f3] (0, 0) _ rfl (by refine blk_put (cs := #[.int .u32 (oR none).f0.f0, .int .u8 (oR none).f0.f1, .int .i64 (oR none).f1, .int .u16 (oR none).f2, .int .u16 0]) ?_ 4 _ rfl; refine blk_put (cs := #[.int .u32 (oR none).f0.f0, .int .u8 (oR none).f0.f1, .int .i64 (oR none).f1, .int .u16 0, .int .u16 0]) ?_ 3 _ rfl; refine blk_put (cs := #[.int .u32 (oR none).f0.f0, .int .u8 (oR none).f0.f1, .int .i64 0, .int .u16 0, .int .u16 0]) ?_ 2 _ rfl; refine blk_put (cs := #[.int .u32 (oR none).f0.f0, .int .u8 0, .int .i64 0, .int .u16 0, .int .u16 0]) ?_ 1 _ rfl; refine blk_put (cs := #[.int .u32 0, .int .u8 0, .int .i64 0, .int .u16 0, .int .u16 0]) ?_ 0 _ rfl; exact BK4.out) Try.underlying33 rfl (by kernel_rfl)) rfl ?_
        have ge4 := GE4.out
        exact ⟨rfl, below_set (below_set (below_set (below_set (below_set HB.out ge4) ge4) ge4) ge4) ge4⟩
      · have q1 : decide ((i : Int) < a1_1) = false := decide_eq_false hlt
        go_wp2_with (fail)
        refine bodyPost_ret (results_ct rfl _ _ g4 33 #[.int .u32 (oR none).f0.f0, .int .u8 (oR none).f0.f1, .int .i64 (oR none).f1, .int .u16 (oR none).f2, .int .u16 (oR none).f3] (0, 0) _ rfl (by refine blk_put (cs := #[.int .u32 (oR none).f0.f0, .int .u8 (oR none).f0.f1, .int .i64 (oR none).f1, .int .u16 (oR none).f2, .int .u16 0]) ?_ 4 _ rfl; refine blk_put (cs := #[.int .u32 (oR none).f0.f0, .int .u8 (oR none).f0.f1, .int .i64 (oR none).f1, .int .u16 0, .int .u16 0]) ?_ 3 _ rfl; refine blk_put (cs := #[.int .u32 (oR none).f0.f0, .int .u8 (oR none).f0.f1, .int .i64 0, .int .u16 0, .int .u16 0]) ?_ 2 _ rfl; refine blk_put (cs := #[.int .u32 (oR none).f0.f0, .int .u8 0, .int .i64 0, .int .u16 0, .int .u16 0]) ?_ 1 _ rfl; refine blk_put (cs := #[.int .u32 0, .int .u8 0, .int .i64 0, .int .u16 0, .int .u16 0]) ?_ 0 _ rfl; exact BK4.out) Try.underlying33 rfl (by kernel_rfl)) rfl ?_
        have ge4 := GE4.out
        exact ⟨rfl, below_set (below_set (below_set (below_set (below_set HB.out ge4) ge4) ge4) ge4) ge4⟩
    · have hx := hn
      obtain ⟨va, vb, ba, bb, hx, ha, hb', _⟩ := hx
      by_cases hlt : (i : Int) < a1_1
      · have q1 : decide ((i : Int) < a1_1) = true := decide_eq_true hlt
        go_upto_region 7 with (fail)
        have HCA := Aside0.mk ha.cur
        have HCB := Aside0.mk hb'.cur
        have HNX := Aside0.mk hx
        have HLK := Aside0.mk HL.out
        clear hn hx ha hb' HL HC p1
        have hside := side_is a1_0 i
        obtain ⟨bt, hbt⟩ : ∃ bt : Bool, (trie_side.f a1_0 (i : Int) == some 1) = bt := ⟨_, rfl⟩
        rw [hbt] at hside
        obtain ⟨m, hm⟩ : ∃ m : Nat, a1_1.toNat - i = m + 1 := ⟨a1_1.toNat - i - 1, by omega⟩
        have hm2 : a1_1.toNat - (i + 1) = m := by omega
        have hpath : pathFrom a1_0 (a1_1.toNat - i) i = bt :: pathFrom a1_0 (a1_1.toNat - (i + 1)) (i + 1) := by rw [hm, hm2, pathFrom, hbt]
        rw [hpath] at HLK
        have HSD := Aside0.mk hside
        clear hside hm hm2 hpath
        cases bt
        · have n0_ := Aside0.mk (blk_drew BK3.out)
          have n1_ := Aside0.mk (blk_drew BK4.out)
          have n2_ := Aside0.mk (below_drew1 HB.out)
          have n3_ := Aside0.mk (show Nx wr.drew h x _ va vb from HNX.out)
          have n4_ := Aside0.mk (HCA.out.frame (w1 := wr.drew) (fun _ _ _ => rfl))
          have n5_ := Aside0.mk (HCB.out.frame (w1 := wr.drew) (fun _ _ _ => rfl))
          clear BK3 BK4 HB HNX HCA HCB
          have BK3 := n0_
          have BK4 := n1_
          have HB := n2_
          have HNX := n3_
          have HCA := n4_
          have HCB := n5_
          clear n0_ n1_ n2_ n3_ n4_ n5_
          have HSD := Aside0.mk (show trie_side.f a1_0 (i : Int) = some 0 from HSD.out)
          refine start_ (n := 10) (S := fun w' => w'.cell? ⟨g3, 0, none⟩ = some (.int .u32 a1_0) ∧ w'.cell? ⟨h, 6, none⟩ = some va ∧ w'.cell? ⟨h, 7, none⟩ = some vb) (ds := []) #[false, false, false, false, false, false, false, false, false, false] (by kernel_rfl) rfl rfl ⟨(blk_cell BK3.out 0).trans rfl, HNX.out.cell.2.2.2.2.2.2.1, HNX.out.cell.2.2.2.2.2.2.2⟩ (fun hHeld => ?_)
          generalize wr.drew = wd at BK3 BK4 HB HNX HCA HCB hHeld ⊢
          refine pure_ (i := 0) (N := some 29) (v := ?_) (a' := ?_) #[true, false, false, false, false, false, false, false, false, false] rfl rfl (by kernel_rfl) (fun _ _ _ h => h) (Or.inl ⟨by rfl, ?_⟩) ?_ ?_
          rotate_left
          · intro w'
            go_simp
            with_reducible rfl
          rotate_left
          · simp only [Act.put, List.setIfInBounds_toArray, List.set_cons_zero, List.set_cons_succ, i64_w, i32_w]
            rfl
          refine pure_ (i := 1) (N := some 30) (v := ?_) (a' := ?_) #[true, true, false, false, false, false, false, false, false, false] rfl rfl (by kernel_rfl) (fun _ _ _ h => h) (Or.inl ⟨by rfl, ?_⟩) ?_ ?_
          rotate_left
          · intro w'
            go_simp
            with_reducible rfl
          rotate_left
          · simp only [Act.put, List.setIfInBounds_toArray, List.set_cons_zero, List.set_cons_succ, i64_w, i32_w]
            rfl
          refine pure_ (i := 3) (N := some 32) (v := ?_) (a' := ?_) #[true, true, false, true, false, false, false, false, false, false] rfl rfl (by kernel_rfl) (fun _ _ _ h => h) (Or.inl ⟨by rfl, ?_⟩) ?_ ?_
          rotate_left
          · intro w'
            go_simp
            with_reducible rfl
          rotate_left
          · simp only [Act.put, List.setIfInBounds_toArray, List.set_cons_zero, List.set_cons_succ, i64_w, i32_w]
            rfl
          refine pure_ (i := 5) (N := some 34) (v := ?_) (a' := ?_) #[true, true, false, true, false, true, false, false, false, false] rfl rfl (by kernel_rfl) (fun _ _ _ h => h) (Or.inl ⟨by rfl, ?_⟩) ?_ ?_
          rotate_left
          · intro w'
            go_simp
            with_reducible rfl
          rotate_left
          · simp only [Act.put, List.setIfInBounds_toArray, List.set_cons_zero, List.set_cons_succ, i64_w, i32_w]
            rfl
          refine pure_ (i := 6) (N := some 35) (v := ?_) (a' := ?_) #[true, true, false, true, false, true, true, false, false, false] rfl rfl (by kernel_rfl) (fun _ _ _ h => h) (Or.inl ⟨by rfl, ?_⟩) ?_ ?_
          rotate_left
          · intro w'
            go_simp
            with_reducible rfl
          rotate_left
          · simp only [Act.put, List.setIfInBounds_toArray, List.set_cons_zero, List.set_cons_succ, i64_w, i32_w]
            rfl
          refine take_ (i := 2) (N := some 31) (v := ?_) (a' := ?_) #[true, true, true, true, false, true, true, false, false, false] rfl rfl (by kernel_rfl) (fun _ _ _ h => h) (Or.inl ⟨by rfl, ?_⟩) hHeld ?_ ?_
          rotate_left
          · rintro w' ⟨s0, s1, s2⟩
            go_simp
            with_reducible rfl
          rotate_left
          · simp only [Act.put, List.setIfInBounds_toArray, List.set_cons_zero, List.set_cons_succ, i64_w, i32_w]
            rfl
          refine one_ (i := 4) (N := some 33) #[true, true, true, true, true, true, true, false, false, false] rfl rfl (by kernel_rfl) (by decide) (fun K hK => ?_)
          refine goes_ Try.func24 (by kernel_rfl) rfl #[.int .u32 a1_0, .int .u8 (i : Int)] (by rfl) rfl rfl (by simp only [List.map_toArray, List.map_cons, List.map_nil]; rfl) ?_
          with_reducible refine (trie_side.calls a1_0 (i : Int) 0 _ HSD.out).mono ?_
          rintro e w8 ⟨rfl, hdr⟩
          have hb := hdr.below
          refine ⟨_, rfl, ?_⟩
          have n0_ := Aside0.mk (blk_below BK3.out hb)
          have n1_ := Aside0.mk (blk_below BK4.out hb)
          have n2_ := Aside0.mk (below_step HB.out hb)
          have n3_ := Aside0.mk (HNX.out.move (hb.block h HNX.out.lt))
          have n4_ := Aside0.mk (HCA.out.below hb)
          have n5_ := Aside0.mk (HCB.out.below hb)
          clear BK3 BK4 HB HNX HCA HCB
          have BK3 := n0_
          have BK4 := n1_
          have HB := n2_
          have HNX := n3_
          have HCA := n4_
          have HCB := n5_
          clear n0_ n1_ n2_ n3_ n4_ n5_
          clear hb hdr
          refine hK.out _ _ ⟨(blk_cell BK3.out 0).trans rfl, HNX.out.cell.2.2.2.2.2.2.1, HNX.out.cell.2.2.2.2.2.2.2⟩ (fun hHeld => ?_)
          clear hK K
          refine norm_ (a' := ?_) ?_ ?_
          rotate_left
          · show Act.put _ (some 33) _ = _
            simp only [Act.put, List.setIfInBounds_toArray, List.set_cons_zero, List.set_cons_succ, i64_w, i32_w]
            rfl
          refine pure_ (i := 7) (N := some 36) (v := ?_) (a' := ?_) #[true, true, true, true, true, true, true, true, false, false] rfl rfl (by kernel_rfl) (fun _ _ _ h => h) (Or.inl ⟨by rfl, ?_⟩) ?_ ?_
          rotate_left
          · intro w'
            go_simp
            with_reducible rfl
          rotate_left
          · simp only [Act.put, List.setIfInBounds_toArray, List.set_cons_zero, List.set_cons_succ, i64_w, i32_w]
            rfl
          refine take_ (i := 8) (N := some 37) (v := ?_) (a' := ?_) #[true, true, true, true, true, true, true, true, true, false] rfl rfl (by kernel_rfl) (fun _ _ _ h => h) (Or.inl ⟨by rfl, ?_⟩) hHeld ?_ ?_
          rotate_left
          · rintro w' ⟨s0, s1, s2⟩
            go_simp
            with_reducible rfl
          rotate_left
          · simp only [Act.put, List.setIfInBounds_toArray, List.set_cons_zero, List.set_cons_succ, i64_w, i32_w]
            rfl
          refine pure_ (i := 9) (N := some 6) (v := ?_) (a' := ?_) #[true, true, true, true, true, true, true, true, true, true] rfl rfl (by kernel_rfl) (fun _ _ _ h => h) (Or.inl ⟨by rfl, ?_⟩) ?_ ?_
          rotate_left
          · intro w'
            go_simp
            with_reducible rfl
          rotate_left
          · simp only [Act.put, List.setIfInBounds_toArray, List.set_cons_zero, List.set_cons_succ, i64_w, i32_w]
            rfl
          refine done_ (by kernel_rfl) ?_
          go_wp2_with (fail)
          go_roundg (a1_1.toNat + 1 - (i + 1))
          case measure => omega
          case rel => exact ⟨i + 1, _, a, rfl, by first | rfl | (refine qa_int ?_; omega), by omega, Nat.le_refl _, HCA, ⟨HLK.out⟩, BK3, BK4, HB⟩
        · have n0_ := Aside0.mk (blk_drew BK3.out)
          have n1_ := Aside0.mk (blk_drew BK4.out)
          have n2_ := Aside0.mk (below_drew1 HB.out)
          have n3_ := Aside0.mk (show Nx wr.drew h x _ va vb from HNX.out)
          have n4_ := Aside0.mk (HCA.out.frame (w1 := wr.drew) (fun _ _ _ => rfl))
          have n5_ := Aside0.mk (HCB.out.frame (w1 := wr.drew) (fun _ _ _ => rfl))
          clear BK3 BK4 HB HNX HCA HCB
          have BK3 := n0_
          have BK4 := n1_
          have HB := n2_
          have HNX := n3_
          have HCA := n4_
          have HCB := n5_
          clear n0_ n1_ n2_ n3_ n4_ n5_
          have HSD := Aside0.mk (show trie_side.f a1_0 (i : Int) = some 1 from HSD.out)
          refine start_ (n := 10) (S := fun w' => w'.cell? ⟨g3, 0, none⟩ = some (.int .u32 a1_0) ∧ w'.cell? ⟨h, 6, none⟩ = some va ∧ w'.cell? ⟨h, 7, none⟩ = some vb) (ds := []) #[false, false, false, false, false, false, false, false, false, false] (by kernel_rfl) rfl rfl ⟨(blk_cell BK3.out 0).trans rfl, HNX.out.cell.2.2.2.2.2.2.1, HNX.out.cell.2.2.2.2.2.2.2⟩ (fun hHeld => ?_)
          generalize wr.drew = wd at BK3 BK4 HB HNX HCA HCB hHeld ⊢
          refine pure_ (i := 0) (N := some 29) (v := ?_) (a' := ?_) #[true, false, false, false, false, false, false, false, false, false] rfl rfl (by kernel_rfl) (fun _ _ _ h => h) (Or.inl ⟨by rfl, ?_⟩) ?_ ?_
          rotate_left
          · intro w'
            go_simp
            with_reducible rfl
          rotate_left
          · simp only [Act.put, List.setIfInBounds_toArray, List.set_cons_zero, List.set_cons_succ, i64_w, i32_w]
            rfl
          refine pure_ (i := 1) (N := some 30) (v := ?_) (a' := ?_) #[true, true, false, false, false, false, false, false, false, false] rfl rfl (by kernel_rfl) (fun _ _ _ h => h) (Or.inl ⟨by rfl, ?_⟩) ?_ ?_
          rotate_left
          · intro w'
            go_simp
            with_reducible rfl
          rotate_left
          · simp only [Act.put, List.setIfInBounds_toArray, List.set_cons_zero, List.set_cons_succ, i64_w, i32_w]
            rfl
          refine pure_ (i := 3) (N := some 32) (v := ?_) (a' := ?_) #[true, true, false, true, false, false, false, false, false, false] rfl rfl (by kernel_rfl) (fun _ _ _ h => h) (Or.inl ⟨by rfl, ?_⟩) ?_ ?_
          rotate_left
          · intro w'
            go_simp
            with_reducible rfl
          rotate_left
          · simp only [Act.put, List.setIfInBounds_toArray, List.set_cons_zero, List.set_cons_succ, i64_w, i32_w]
            rfl
          refine pure_ (i := 5) (N := some 34) (v := ?_) (a' := ?_) #[true, true, false, true, false, true, false, false, false, false] rfl rfl (by kernel_rfl) (fun _ _ _ h => h) (Or.inl ⟨by rfl, ?_⟩) ?_ ?_
          rotate_left
          · intro w'
            go_simp
            with_reducible rfl
          rotate_left
          · simp only [Act.put, List.setIfInBounds_toArray, List.set_cons_zero, List.set_cons_succ, i64_w, i32_w]
            rfl
          refine pure_ (i := 6) (N := some 35) (v := ?_) (a' := ?_) #[true, true, false, true, false, true, true, false, false, false] rfl rfl (by kernel_rfl) (fun _ _ _ h => h) (Or.inl ⟨by rfl, ?_⟩) ?_ ?_
          rotate_left
          · intro w'
            go_simp
            with_reducible rfl
          rotate_left
          · simp only [Act.put, List.setIfInBounds_toArray, List.set_cons_zero, List.set_cons_succ, i64_w, i32_w]
            rfl
          refine take_ (i := 2) (N := some 31) (v := ?_) (a' := ?_) #[true, true, true, true, false, true, true, false, false, false] rfl rfl (by kernel_rfl) (fun _ _ _ h => h) (Or.inl ⟨by rfl, ?_⟩) hHeld ?_ ?_
          rotate_left
          · rintro w' ⟨s0, s1, s2⟩
            go_simp
            with_reducible rfl
          rotate_left
          · simp only [Act.put, List.setIfInBounds_toArray, List.set_cons_zero, List.set_cons_succ, i64_w, i32_w]
            rfl
          refine one_ (i := 4) (N := some 33) #[true, true, true, true, true, true, true, false, false, false] rfl rfl (by kernel_rfl) (by decide) (fun K hK => ?_)
          refine goes_ Try.func24 (by kernel_rfl) rfl #[.int .u32 a1_0, .int .u8 (i : Int)] (by rfl) rfl rfl (by simp only [List.map_toArray, List.map_cons, List.map_nil]; rfl) ?_
          with_reducible refine (trie_side.calls a1_0 (i : Int) 1 _ HSD.out).mono ?_
          rintro e w8 ⟨rfl, hdr⟩
          have hb := hdr.below
          refine ⟨_, rfl, ?_⟩
          have n0_ := Aside0.mk (blk_below BK3.out hb)
          have n1_ := Aside0.mk (blk_below BK4.out hb)
          have n2_ := Aside0.mk (below_step HB.out hb)
          have n3_ := Aside0.mk (HNX.out.move (hb.block h HNX.out.lt))
          have n4_ := Aside0.mk (HCA.out.below hb)
          have n5_ := Aside0.mk (HCB.out.below hb)
          clear BK3 BK4 HB HNX HCA HCB
          have BK3 := n0_
          have BK4 := n1_
          have HB := n2_
          have HNX := n3_
          have HCA := n4_
          have HCB := n5_
          clear n0_ n1_ n2_ n3_ n4_ n5_
          clear hb hdr
          refine hK.out _ _ ⟨(blk_cell BK3.out 0).trans rfl, HNX.out.cell.2.2.2.2.2.2.1, HNX.out.cell.2.2.2.2.2.2.2⟩ (fun hHeld => ?_)
          clear hK K
          refine norm_ (a' := ?_) ?_ ?_
          rotate_left
          · show Act.put _ (some 33) _ = _
            simp only [Act.put, List.setIfInBounds_toArray, List.set_cons_zero, List.set_cons_succ, i64_w, i32_w]
            rfl
          refine pure_ (i := 7) (N := some 36) (v := ?_) (a' := ?_) #[true, true, true, true, true, true, true, true, false, false] rfl rfl (by kernel_rfl) (fun _ _ _ h => h) (Or.inl ⟨by rfl, ?_⟩) ?_ ?_
          rotate_left
          · intro w'
            go_simp
            with_reducible rfl
          rotate_left
          · simp only [Act.put, List.setIfInBounds_toArray, List.set_cons_zero, List.set_cons_succ, i64_w, i32_w]
            rfl
          refine take_ (i := 8) (N := some 37) (v := ?_) (a' := ?_) #[true, true, true, true, true, true, true, true, true, false] rfl rfl (by kernel_rfl) (fun _ _ _ h => h) (Or.inl ⟨by rfl, ?_⟩) hHeld ?_ ?_
          rotate_left
          · rintro w' ⟨s0, s1, s2⟩
            go_simp
            with_reducible rfl
          rotate_left
          · simp only [Act.put, List.setIfInBounds_toArray, List.set_cons_zero, List.set_cons_succ, i64_w, i32_w]
            rfl
          refine pure_ (i := 9) (N := some 6) (v := ?_) (a' := ?_) #[true, true, true, true, true, true, true, true, true, true] rfl rfl (by kernel_rfl) (fun _ _ _ h => h) (Or.inl ⟨by rfl, ?_⟩) ?_ ?_
          rotate_left
          · intro w'
            go_simp
            with_reducible rfl
          rotate_left
          · simp only [Act.put, List.setIfInBounds_toArray, List.set_cons_zero, List.set_cons_succ, i64_w, i32_w]
            rfl
          refine done_ (by kernel_rfl) ?_
          go_wp2_with (fail)
          go_roundg (a1_1.toNat + 1 - (i + 1))
          case measure => omega
          case rel => exact ⟨i + 1, _, b, rfl, by first | rfl | (refine qa_int ?_; omega), by omega, Nat.le_refl _, HCB, ⟨HLK.out⟩, BK3, BK4, HB⟩
      · have q1 : decide ((i : Int) < a1_1) = false := decide_eq_false hlt
        have hz : a1_1.toNat - i = 0 := by omega
        have hl : o = d0 := by have := HL.out; rw [hz] at this; exact this
        subst hl
        have c0 : wr.cell? ⟨h, 0, none⟩ = some (.bool o.isSome) := hx.cell.1
        have c1 := hx.cell.2.1
        have c2 := hx.cell.2.2.1
        have c3 := hx.cell.2.2.2.1
        have c4 := hx.cell.2.2.2.2.1
        have c5 := hx.cell.2.2.2.2.2.1
        have z0 : wr.cell? ⟨g4, 0, none⟩ = some (.int .u32 0) := (blk_cell BK4.out 0).trans rfl
        have z1 : wr.cell? ⟨g4, 1, none⟩ = some (.int .u8 0) := (blk_cell BK4.out 1).trans rfl
        have z2 : wr.cell? ⟨g4, 2, none⟩ = some (.int .i64 0) := (blk_cell BK4.out 2).trans rfl
        have z3 : wr.cell? ⟨g4, 3, none⟩ = some (.int .u16 0) := (blk_cell BK4.out 3).trans rfl
        have z4 : wr.cell? ⟨g4, 4, none⟩ = some (.int .u16 0) := (blk_cell BK4.out 4).trans rfl
        have y0 := blk_frozen BK4.out 0
        have y1 := blk_frozen BK4.out 1
        have y2 := blk_frozen BK4.out 2
        have y3 := blk_frozen BK4.out 3
        have y4 := blk_frozen BK4.out 4
        cases o with
        | none =>
          go_wp2_with (fail)
          refine bodyPost_ret (results_ct rfl _ _ g4 33 #[.int .u32 (oR none).f0.f0, .int .u8 (oR none).f0.f1, .int .i64 (oR none).f1, .int .u16 (oR none).f2, .int .u16 (oR none).f3] (0, 0) _ rfl (by refine blk_put (cs := #[.int .u32 (oR none).f0.f0, .int .u8 (oR none).f0.f1, .int .i64 (oR none).f1, .int .u16 (oR none).f2, .int .u16 0]) ?_ 4 _ rfl; refine blk_put (cs := #[.int .u32 (oR none).f0.f0, .int .u8 (oR none).f0.f1, .int .i64 (oR none).f1, .int .u16 0, .int .u16 0]) ?_ 3 _ rfl; refine blk_put (cs := #[.int .u32 (oR none).f0.f0, .int .u8 (oR none).f0.f1, .int .i64 0, .int .u16 0, .int .u16 0]) ?_ 2 _ rfl; refine blk_put (cs := #[.int .u32 (oR none).f0.f0, .int .u8 0, .int .i64 0, .int .u16 0, .int .u16 0]) ?_ 1 _ rfl; refine blk_put (cs := #[.int .u32 0, .int .u8 0, .int .i64 0, .int .u16 0, .int .u16 0]) ?_ 0 _ rfl; exact BK4.out) Try.underlying33 rfl (by kernel_rfl)) rfl ?_
          have ge4 := GE4.out
          exact ⟨rfl, below_set (below_set (below_set (below_set (below_set HB.out ge4) ge4) ge4) ge4) ge4⟩
        | some r =>
          go_wp2_with (fail)
          refine bodyPost_ret (results_ct rfl _ _ g4 33 #[.int .u32 (oR (some r)).f0.f0, .int .u8 (oR (some r)).f0.f1, .int .i64 (oR (some r)).f1, .int .u16 (oR (some r)).f2, .int .u16 (oR (some r)).f3] (0, 0) _ rfl (by refine blk_put (cs := #[.int .u32 (oR (some r)).f0.f0, .int .u8 (oR (some r)).f0.f1, .int .i64 (oR (some r)).f1, .int .u16 (oR (some r)).f2, .int .u16 0]) ?_ 4 _ rfl; refine blk_put (cs := #[.int .u32 (oR (some r)).f0.f0, .int .u8 (oR (some r)).f0.f1, .int .i64 (oR (some r)).f1, .int .u16 0, .int .u16 0]) ?_ 3 _ rfl; refine blk_put (cs := #[.int .u32 (oR (some r)).f0.f0, .int .u8 (oR (some r)).f0.f1, .int .i64 0, .int .u16 0, .int .u16 0]) ?_ 2 _ rfl; refine blk_put (cs := #[.int .u32 (oR (some r)).f0.f0, .int .u8 0, .int .i64 0, .int .u16 0, .int .u16 0]) ?_ 1 _ rfl; refine blk_put (cs := #[.int .u32 0, .int .u8 0, .int .i64 0, .int .u16 0, .int .u16 0]) ?_ 0 _ rfl; exact BK4.out) Try.underlying33 rfl (by kernel_rfl)) rfl ?_
          have ge4 := GE4.out
          exact ⟨rfl, below_set (below_set (below_set (below_set (below_set HB.out ge4) ge4) ge4) ge4) ge4⟩

end Go.Proofs.Ytbmiifhmgfhidaa.QTriePlays
