-- Lines by a program of this session, for this claim.
import Derived.Test.YtbmiifhmgfhidaaQTrieNestsx0
import Derived.Test.YtbmiifhmgfhidaaQTrieNestsx1
import Derived.Test.YtbmiifhmgfhidaaQTrieNestsx2
namespace Go.Proofs.Ytbmiifhmgfhidaa.QTrieNests
open Go.RowKit Go.Proofs.YtbmiifhmgfhidaaW.PrintWords Go.Proofs.YtbmiifhmgfhidaaW.PrintLast Go.Proofs.YtbmiifhmgfhidaaW.PrintMore
attribute [local go_sem] max2_int min2_int max_two min_two max_three min_three max_four min_four   -- for this text's walks alone
set_option linter.unusedVariables false
set_option linter.unusedSimpArgs false

/-! ### trie_drop: function 25 -/
set_option maxHeartbeats 8000000 in
set_option maxRecDepth 100000 in
theorem trie_drop.calls (a1_0 a1_1 : Int) (h0 : 0 ≤ a1_1) (hle : a1_1 ≤ 32) (w0 : World) : ∀ (m : Nat) (at_ : Nat) (h : Nat) (x : Option Int) (o : Option S33) (a b : Tr S33) (bs : List Nat) (w : World), at_ + m = a1_1.toNat → Nod w h x o a b bs → (h :: bs).Nodup → (∀ k ∈ h :: bs, w0.heap.size ≤ k) → Below w0.heap.size w0 w →
    Calls Try.prog 25 #[.pointer (some ⟨h, 0, none⟩), .agg #[.int .u32 a1_0, .int .u8 a1_1], .int .u8 (at_ : Int)] w fun e w' => e = .returned (.bool ((Tr.node o a b).get (pathFrom a1_0 m at_)).isSome) ∧ (∃ o' a' b' bs', (Tr.node o a b).dropC (pathFrom a1_0 m at_) = .node o' a' b' ∧ Nod w' h x o' a' b' bs' ∧ (∀ k ∈ bs', k ∈ bs) ∧ (h ∉ bs' ∧ bs'.Nodup)) ∧ Below w0.heap.size w0 w' ∧ Kb w w' (h :: bs) := by
  intro m
  induction m with
  | zero =>
    intro at_ h x o a b bs w hm hn hd hge hB
    have hu33 := Try.underlying33
    have hu44 := Try.underlying44
    have hu42 := Try.underlying42
    have hu27 := Try.underlying27
    have HB := Aside0.mk hB
    have HN := Aside0.mk hn
    have HD := Aside0.mk hd
    have HG := Aside0.mk hge
    clear hB hn hd hge
    go_enter Try.func25, Try.ntmps25
    go_upto_region 1 with ((with_reducible refine gate_dst (N := 4) rfl ?_); (try (refine gate_guard (by rfl) ?_; dsimp only)); refine box_event ?hg (N := 4) ?hd (cs := #[.int .u32 a1_0, .int .u8 a1_1]) (t := 27) ?hr ?_; (case hd => rfl); (case hg => rfl); (case hr => first | (go_simp; done) | (go_simp; rfl)); intro g4 hg w4 hbox hb; have BK4 := Aside0.mk hbox; have HB4 := Aside0.mk hb; clear hb hbox hg; have p0 : w4.cell? ⟨g4, 0, none⟩ = some (.int .u32 a1_0) := (blk_cell BK4.out 0).trans rfl; have p1 : w4.cell? ⟨g4, 1, none⟩ = some (.int .u8 a1_1) := (blk_cell BK4.out 1).trans rfl)
    obtain ⟨va, vb, ba, bb, hx, ha, hb', rfl⟩ := HN.out.frame (fun k hk => HB4.out.block k (HN.out.lt k hk))
    have c0 : w4.cell? ⟨h, 0, none⟩ = some (.bool o.isSome) := hx.cell.1
    have z1 := hx.cell.2.1
    have z2 := hx.cell.2.2.1
    have z3 := hx.cell.2.2.2.1
    have z4 := hx.cell.2.2.2.2.1
    have z5 := hx.cell.2.2.2.2.2.1
    have f0 := hx.frozen 0
    have f1 := hx.frozen 1
    have f2 := hx.frozen 2
    have f3 := hx.frozen 3
    have f4 := hx.frozen 4
    have f5 := hx.frozen 5
    have q1 : ((at_ : Int) == a1_1) = true := beq_iff_eq.mpr (by omega)
    have HX := Aside0.mk hx
    have HA := Aside0.mk ha
    have HO := Aside0.mk hb'
    clear hx ha hb'
    go_wp2_with (fail)
    go_ret
    have hgh : w0.heap.size ≤ h := HG.out h List.mem_cons_self
    have hB1 := below_step HB.out HB4.out
    have hdd := List.nodup_cons.1 HD.out
    have hfr : ∀ k, k ≠ h → ((((((w4.setCell ⟨h, 0, none⟩ (.bool false)).setCell ⟨h, 1, none⟩ (.int .u32 0)).setCell ⟨h, 2, none⟩ (.int .u8 0)).setCell ⟨h, 3, none⟩ (.int .i64 0)).setCell ⟨h, 4, none⟩ (.int .u16 0)).setCell ⟨h, 5, none⟩ (.int .u16 0)).heap[k]? = w4.heap[k]? := fun k hk => by
      rw [heap_set _ _ _ _ _ hk, heap_set _ _ _ _ _ hk, heap_set _ _ _ _ _ hk, heap_set _ _ _ _ _ hk, heap_set _ _ _ _ _ hk, heap_set _ _ _ _ _ hk]
    have hmem : ∀ k, k ∈ ba ∨ k ∈ bb → k ≠ h := fun k hk e => hdd.1 (by rw [← e]; exact List.mem_append.2 hk)
    refine ⟨rfl, ⟨none, a, b, ba ++ bb, Tr.dropC_nil o a b, ⟨va, vb, ba, bb, HX.out.clear, HA.out.frame (fun k hk => hfr k (hmem k (.inl hk))), HO.out.frame (fun k hk => hfr k (hmem k (.inr hk))), rfl⟩, fun _ hk => hk, hdd⟩, below_set (below_set (below_set (below_set (below_set (below_set hB1 hgh) hgh) hgh) hgh) hgh) hgh, ?_⟩
    exact Kb.set (Kb.set (Kb.set (Kb.set (Kb.set (Kb.set (Kb.of_below HB4.out _) List.mem_cons_self _ _) List.mem_cons_self _ _) List.mem_cons_self _ _) List.mem_cons_self _ _) List.mem_cons_self _ _) List.mem_cons_self _ _
  | succ m ih =>
    intro at_ h x o a b bs w hm hn hd hge hB
    have hu33 := Try.underlying33
    have hu44 := Try.underlying44
    have hu42 := Try.underlying42
    have hu27 := Try.underlying27
    have HB := Aside0.mk hB
    have HN := Aside0.mk hn
    have HD := Aside0.mk hd
    have HG := Aside0.mk hge
    have IH := Aside0.mk ih
    clear hB hn hd hge ih
    have q1 : ((at_ : Int) == a1_1) = false := beq_eq_false_iff_ne.mpr (by omega)
    have hside := side_is a1_0 at_
    obtain ⟨bt, hbt⟩ : ∃ bt : Bool, (trie_side.f a1_0 (at_ : Int) == some 1) = bt := ⟨_, rfl⟩
    have hpath : pathFrom a1_0 (m + 1) at_ = bt :: pathFrom a1_0 m (at_ + 1) := by rw [pathFrom, hbt]
    rw [hbt] at hside
    rw [hpath]
    clear hpath hbt
    go_enter Try.func25, Try.ntmps25
    go_wp2_with ((with_reducible refine gate_dst (N := 4) rfl ?_); (try (refine gate_guard (by rfl) ?_; dsimp only)); refine box_event ?hg (N := 4) ?hd (cs := #[.int .u32 a1_0, .int .u8 a1_1]) (t := 27) ?hr ?_; (case hd => rfl); (case hg => rfl); (case hr => first | (go_simp; done) | (go_simp; rfl)); intro g4 hg w4 hbox hb; have BK4 := Aside0.mk hbox; have HB4 := Aside0.mk hb; clear hb hbox hg; have p0 : w4.cell? ⟨g4, 0, none⟩ = some (.int .u32 a1_0) := (blk_cell BK4.out 0).trans rfl; have p1 : w4.cell? ⟨g4, 1, none⟩ = some (.int .u8 a1_1) := (blk_cell BK4.out 1).trans rfl)
    refine (trie_side.calls a1_0 (at_ : Int) _ _ hside).mono ?_
    rintro e w5 ⟨rfl, hdr⟩
    have hb := hdr.below
    have HB5 := Aside0.mk (below_step HB4.out hb)
    have BK5 := Aside0.mk (blk_below BK4.out hb)
    clear hb hdr p0 p1 BK4 HB4 hside
    have p0 : w5.cell? ⟨g4, 0, none⟩ = some (.int .u32 a1_0) := (blk_cell BK5.out 0).trans rfl
    have p1 : w5.cell? ⟨g4, 1, none⟩ = some (.int .u8 a1_1) := (blk_cell BK5.out 1).trans rfl
    obtain ⟨va, vb, ba, bb, hx, ha, hb', rfl⟩ := HN.out.frame (fun k hk => HB5.out.block k (HN.out.lt k hk))
    clear HN
    cases bt
    · cases a with
      | nil =>
        obtain ⟨rfl, rfl⟩ : va = .pointer none ∧ ba = [] := ha
        have c6 : w5.cell? ⟨h, 6, none⟩ = some (.pointer none) := hx.cell.2.2.2.2.2.2.1
        have HX := Aside0.mk hx
        have HO := Aside0.mk hb'
        clear hx hb'
        have hg0 : (Tr.node o Tr.nil b).get (false :: pathFrom a1_0 m (at_ + 1)) = none := Tr.get_nil (pathFrom a1_0 m (at_ + 1))
        go_wp2_with (fail)
        go_ret
        exact ⟨by rw [hg0]; rfl, ⟨o, _, _, _, Tr.dropC_no hg0, ⟨_, _, _, _, HX.out, ⟨rfl, rfl⟩, HO.out, rfl⟩, fun _ hk => hk, List.nodup_cons.1 HD.out⟩, below_step HB.out HB5.out, Kb.of_below HB5.out _⟩
      | node o2 a2 b2 =>
        obtain ⟨h2, va2, vb2, ba2, bb2, rfl, hx2, ha2, hb2, rfl⟩ := ha
        have c6 : w5.cell? ⟨h, 6, none⟩ = some (.pointer (some ⟨h2, 0, none⟩)) := hx.cell.2.2.2.2.2.2.1
        have HX := Aside0.mk hx
        have HO := Aside0.mk hb'
        have HY := Aside0.mk (show Nod w5 h2 none o2 a2 b2 (ba2 ++ bb2) from ⟨va2, vb2, ba2, bb2, hx2, ha2, hb2, rfl⟩)
        clear hx hx2 ha2 hb2 hb'
        go_wp2_with (fail)
        have hsubs : ∀ k, k ∈ h2 :: (ba2 ++ bb2) → k ∈ h :: ((h2 :: (ba2 ++ bb2)) ++ bb) := fun k hk => List.mem_cons_of_mem _ (List.mem_append_left _ hk)
        have hd2 : (h2 :: (ba2 ++ bb2)).Nodup := by have h1 := (List.nodup_cons.1 HD.out).2; rw [List.nodup_append] at h1; exact h1.1
        have IH1 := IH.out (at_ + 1) h2 none o2 a2 b2 (ba2 ++ bb2) w5 (by omega) HY.out hd2 (fun k hk => HG.out k (hsubs k hk)) (below_step HB.out HB5.out)
        have hc : (((at_ + 1 : Nat)) : Int) = (at_ : Int) + 1 := by omega
        rw [hc] at IH1
        refine IH1.mono ?_
        rintro e w6 ⟨rfl, ⟨o3, a3, b3, bs3, he3, hn3, hsub3, hnd3⟩, hB6, hK6⟩
        obtain ⟨hA, hC⟩ := nod_left HX.out HO.out HD.out hK6 hn3 hsub3 hnd3
        have HK6 := Aside0.mk ((Kb.of_below HB5.out _).trans hK6 hsubs)
        have HB6 := Aside0.mk hB6
        have hx6 := hn3
        obtain ⟨va3, vb3, ba3, bb3, hx6, ha3, hb3, _⟩ := hx6
        have hgx : (Tr.node o (Tr.node o2 a2 b2) b).get (false :: pathFrom a1_0 m (at_ + 1)) = (Tr.node o2 a2 b2).get (pathFrom a1_0 m (at_ + 1)) := rfl
        cases hget : ((Tr.node o2 a2 b2).get (pathFrom a1_0 m (at_ + 1))).isSome
        · have hgn : (Tr.node o2 a2 b2).get (pathFrom a1_0 m (at_ + 1)) = none := by simpa using hget
          rw [Tr.dropC_no hgn] at he3
          injection he3 with e1 e2 e3
          subst e1 e2 e3
          go_wp2_with (fail)
          go_ret
          obtain ⟨bs', hA1, hA2⟩ := hA
          exact ⟨by rw [hgx, hget]; rfl, ⟨_, _, _, bs', Tr.dropC_no (hgx.trans hgn), hA1, hA2⟩, HB6.out, HK6.out⟩
        · have hdc := Tr.dropC_left (o := o) (b := b) hget
          rw [he3] at hdc
          have HDC := Aside0.mk hdc
          clear hdc
          have c0 : w6.cell? ⟨h2, 0, none⟩ = some (.bool o3.isSome) := hx6.cell.1
          have c6 : w6.cell? ⟨h2, 6, none⟩ = some va3 := hx6.cell.2.2.2.2.2.2.1
          have c7 : w6.cell? ⟨h2, 7, none⟩ = some vb3 := hx6.cell.2.2.2.2.2.2.2
          have hxh : Nx w6 h x o _ _ := HX.out.move (hK6.2 h HX.out.lt (fun hm => (List.nodup_cons.1 HD.out).1 (List.mem_append_left _ hm)))
          have d6 := hxh.cell.2.2.2.2.2.2.1
          have y6 := hxh.frozen 6
          have HA := Aside0.mk hA
          have HC := Aside0.mk hC
          have hin : h ∈ h :: ((h2 :: (ba2 ++ bb2)) ++ bb) := List.mem_cons_self
          have hgh : w0.heap.size ≤ h := HG.out h hin
          have HNA := Aside0.mk ha3.nil_iff
          have HNB := Aside0.mk hb3.nil_iff
          clear hA hC hx6 ha3 hb3 hxh hK6 hn3 hB6
          cases o3 with
          | some r3 =>
            go_wp2_with (fail)
            go_ret
            obtain ⟨bs', hA1, hA2⟩ := HA.out
            exact ⟨by rw [hgx, hget]; rfl, ⟨_, _, _, bs', HDC.out, hA1, hA2⟩, HB6.out, HK6.out⟩
          | none =>
            rcases HNA.out with ⟨rfl, rfl⟩ | ⟨⟨k3, rfl⟩, o4, a4, b4, rfl⟩
            · rcases HNB.out with ⟨rfl, rfl⟩ | ⟨⟨k5, rfl⟩, o5, a5, b5, rfl⟩
              · have e42 := eq42 w6 none none
                go_wp2_with (fail)
                go_ret
                obtain ⟨bs', hA1, hA2⟩ := HC.out
                exact ⟨by rw [hgx, hget]; rfl, ⟨_, _, _, bs', HDC.out, hA1, hA2⟩, below_set HB6.out hgh, Kb.set HK6.out hin _ _⟩
              · have e42 := eq42 w6 none (some ⟨k5, 0, none⟩)
                go_wp2_with (fail)
                go_ret
                obtain ⟨bs', hA1, hA2⟩ := HA.out
                exact ⟨by rw [hgx, hget]; rfl, ⟨_, _, _, bs', HDC.out, hA1, hA2⟩, HB6.out, HK6.out⟩
            · have e42 : ∀ z, _ := eq42 w6 (some ⟨k3, 0, none⟩)
              rcases HNB.out with ⟨rfl, rfl⟩ | ⟨⟨k5, rfl⟩, o5, a5, b5, rfl⟩
              · have e43 := e42 none
                go_wp2_with (fail)
                go_ret
                obtain ⟨bs', hA1, hA2⟩ := HA.out
                exact ⟨by rw [hgx, hget]; rfl, ⟨_, _, _, bs', HDC.out, hA1, hA2⟩, HB6.out, HK6.out⟩
              · have e43 := e42 (some ⟨k5, 0, none⟩)
                go_wp2_with (fail)
                go_ret
                obtain ⟨bs', hA1, hA2⟩ := HA.out
                exact ⟨by rw [hgx, hget]; rfl, ⟨_, _, _, bs', HDC.out, hA1, hA2⟩, HB6.out, HK6.out⟩
    · cases b with
      | nil =>
        obtain ⟨rfl, rfl⟩ : vb = .pointer none ∧ bb = [] := hb'
        have c6 : w5.cell? ⟨h, 7, none⟩ = some (.pointer none) := hx.cell.2.2.2.2.2.2.2
        have HX := Aside0.mk hx
        have HO := Aside0.mk ha
        clear hx ha
        have hg0 : (Tr.node o a Tr.nil).get (true :: pathFrom a1_0 m (at_ + 1)) = none := Tr.get_nil (pathFrom a1_0 m (at_ + 1))
        go_wp2_with (fail)
        go_ret
        exact ⟨by rw [hg0]; rfl, ⟨o, _, _, _, Tr.dropC_no hg0, ⟨_, _, _, _, HX.out, HO.out, ⟨rfl, rfl⟩, rfl⟩, fun _ hk => hk, List.nodup_cons.1 HD.out⟩, below_step HB.out HB5.out, Kb.of_below HB5.out _⟩
      | node o2 a2 b2 =>
        obtain ⟨h2, va2, vb2, ba2, bb2, rfl, hx2, ha2, hb2, rfl⟩ := hb'
        have c6 : w5.cell? ⟨h, 7, none⟩ = some (.pointer (some ⟨h2, 0, none⟩)) := hx.cell.2.2.2.2.2.2.2
        have HX := Aside0.mk hx
        have HO := Aside0.mk ha
        have HY := Aside0.mk (show Nod w5 h2 none o2 a2 b2 (ba2 ++ bb2) from ⟨va2, vb2, ba2, bb2, hx2, ha2, hb2, rfl⟩)
        clear hx hx2 ha2 hb2 ha
        go_wp2_with (fail)
        have hsubs : ∀ k, k ∈ h2 :: (ba2 ++ bb2) → k ∈ h :: (ba ++ (h2 :: (ba2 ++ bb2))) := fun k hk => List.mem_cons_of_mem _ (List.mem_append_right _ hk)
        have hd2 : (h2 :: (ba2 ++ bb2)).Nodup := by have h1 := (List.nodup_cons.1 HD.out).2; rw [List.nodup_append] at h1; exact h1.2.1
        have IH1 := IH.out (at_ + 1) h2 none o2 a2 b2 (ba2 ++ bb2) w5 (by omega) HY.out hd2 (fun k hk => HG.out k (hsubs k hk)) (below_step HB.out HB5.out)
        have hc : (((at_ + 1 : Nat)) : Int) = (at_ : Int) + 1 := by omega
        rw [hc] at IH1
        refine IH1.mono ?_
        rintro e w6 ⟨rfl, ⟨o3, a3, b3, bs3, he3, hn3, hsub3, hnd3⟩, hB6, hK6⟩
        obtain ⟨hA, hC⟩ := nod_right HX.out HO.out HD.out hK6 hn3 hsub3 hnd3
        have HK6 := Aside0.mk ((Kb.of_below HB5.out _).trans hK6 hsubs)
        have HB6 := Aside0.mk hB6
        have hx6 := hn3
        obtain ⟨va3, vb3, ba3, bb3, hx6, ha3, hb3, _⟩ := hx6
        have hgx : (Tr.node o a (Tr.node o2 a2 b2)).get (true :: pathFrom a1_0 m (at_ + 1)) = (Tr.node o2 a2 b2).get (pathFrom a1_0 m (at_ + 1)) := rfl
        cases hget : ((Tr.node o2 a2 b2).get (pathFrom a1_0 m (at_ + 1))).isSome
        · have hgn : (Tr.node o2 a2 b2).get (pathFrom a1_0 m (at_ + 1)) = none := by simpa using hget
          rw [Tr.dropC_no hgn] at he3
          injection he3 with e1 e2 e3
          subst e1 e2 e3
          go_wp2_with (fail)
          go_ret
          obtain ⟨bs', hA1, hA2⟩ := hA
          exact ⟨by rw [hgx, hget]; rfl, ⟨_, _, _, bs', Tr.dropC_no (hgx.trans hgn), hA1, hA2⟩, HB6.out, HK6.out⟩
        · have hdc := Tr.dropC_right (o := o) (a := a) hget
          rw [he3] at hdc
          have HDC := Aside0.mk hdc
          clear hdc
          have c0 : w6.cell? ⟨h2, 0, none⟩ = some (.bool o3.isSome) := hx6.cell.1
          have c6 : w6.cell? ⟨h2, 6, none⟩ = some va3 := hx6.cell.2.2.2.2.2.2.1
          have c7 : w6.cell? ⟨h2, 7, none⟩ = some vb3 := hx6.cell.2.2.2.2.2.2.2
          have hxh : Nx w6 h x o _ _ := HX.out.move (hK6.2 h HX.out.lt (fun hm => (List.nodup_cons.1 HD.out).1 (List.mem_append_right _ hm)))
          have d6 := hxh.cell.2.2.2.2.2.2.2
          have y6 := hxh.frozen 7
          have HA := Aside0.mk hA
          have HC := Aside0.mk hC
          have hin : h ∈ h :: (ba ++ (h2 :: (ba2 ++ bb2))) := List.mem_cons_self
          have hgh : w0.heap.size ≤ h := HG.out h hin
          have HNA := Aside0.mk ha3.nil_iff
          have HNB := Aside0.mk hb3.nil_iff
          clear hA hC hx6 ha3 hb3 hxh hK6 hn3 hB6
          cases o3 with
          | some r3 =>
            go_wp2_with (fail)
            go_ret
            obtain ⟨bs', hA1, hA2⟩ := HA.out
            exact ⟨by rw [hgx, hget]; rfl, ⟨_, _, _, bs', HDC.out, hA1, hA2⟩, HB6.out, HK6.out⟩
          | none =>
            rcases HNA.out with ⟨rfl, rfl⟩ | ⟨⟨k3, rfl⟩, o4, a4, b4, rfl⟩
            · rcases HNB.out with ⟨rfl, rfl⟩ | ⟨⟨k5, rfl⟩, o5, a5, b5, rfl⟩
              · have e42 := eq42 w6 none none
                go_wp2_with (fail)
                go_ret
                obtain ⟨bs', hA1, hA2⟩ := HC.out
                exact ⟨by rw [hgx, hget]; rfl, ⟨_, _, _, bs', HDC.out, hA1, hA2⟩, below_set HB6.out hgh, Kb.set HK6.out hin _ _⟩
              · have e42 := eq42 w6 none (some ⟨k5, 0, none⟩)
                go_wp2_with (fail)
                go_ret
                obtain ⟨bs', hA1, hA2⟩ := HA.out
                exact ⟨by rw [hgx, hget]; rfl, ⟨_, _, _, bs', HDC.out, hA1, hA2⟩, HB6.out, HK6.out⟩
            · have e42 : ∀ z, _ := eq42 w6 (some ⟨k3, 0, none⟩)
              rcases HNB.out with ⟨rfl, rfl⟩ | ⟨⟨k5, rfl⟩, o5, a5, b5, rfl⟩
              · have e43 := e42 none
                go_wp2_with (fail)
                go_ret
                obtain ⟨bs', hA1, hA2⟩ := HA.out
                exact ⟨by rw [hgx, hget]; rfl, ⟨_, _, _, bs', HDC.out, hA1, hA2⟩, HB6.out, HK6.out⟩
              · have e43 := e42 (some ⟨k5, 0, none⟩)
                go_wp2_with (fail)
                go_ret
                obtain ⟨bs', hA1, hA2⟩ := HA.out
                exact ⟨by rw [hgx, hget]; rfl, ⟨_, _, _, bs', HDC.out, hA1, hA2⟩, HB6.out, HK6.out⟩

/-! ### trie_Trie_Drop: function 15 -/
def trie_Trie_Drop.f (T : Tr S33) (a1_0 a1_1 : Int) : Option (Int × Tr S33) :=
  (prefix_Right.f a1_0 a1_1).bind fun rt => if rt = true then (if 0 ≤ a1_1 ∧ T.all.length < 1000000 then (if (T.get (pathFrom a1_0 a1_1.toNat 0)).isSome = true then some (0, T.drop (pathFrom a1_0 a1_1.toNat 0)) else some (2, T)) else none) else some (2, T)
set_option maxHeartbeats 8000000 in
set_option maxRecDepth 100000 in
theorem trie_Trie_Drop.calls (g : Nat) (T : Tr S33) (a1_0 a1_1 : Int) (r1 : Int) (r2 : Tr S33) (w0 w : World) (hI : IsS46 w0 w g T) (hB : Below w0.heap.size w0 w) (h : trie_Trie_Drop.f T a1_0 a1_1 = some (r1, r2)) :
    Calls Try.prog 15 #[.pointer (some ⟨g, 0, none⟩), .agg #[.int .u32 a1_0, .int .u8 a1_1]] w fun e w' => e = .returned (.int .i64 r1) ∧ IsS46 w0 w' g r2 ∧ Below w0.heap.size w0 w' ∧ KeepT w w' := by
  have hu46 := Try.underlying46
  have hu27 := Try.underlying27
  unfold trie_Trie_Drop.f at h
  obtain ⟨rt, hrt, h⟩ := Option.bind_eq_some_iff.mp h
  have HI := Aside0.mk hI
  have HB := Aside0.mk hB
  have HRT := Aside0.mk hrt
  have HH := Aside0.mk h
  clear hI hB hrt h
  go_enter Try.func15, Try.ntmps15
  go_upto_region 1 with ((with_reducible refine gate_dst (N := 3) rfl ?_); (try (refine gate_guard (by rfl) ?_; dsimp only)); refine box_event ?hg (N := 3) ?hd (cs := #[.int .u32 a1_0, .int .u8 a1_1]) (t := 27) ?hr ?_; (case hd => rfl); (case hg => rfl); (case hr => first | (go_simp; done) | (go_simp; rfl)); intro g3 hg w3 hbox hb; have BK3 := Aside0.mk hbox; have HB3 := Aside0.mk hb; clear hb hbox hg)
  have HI3 := Aside0.mk (HI.out.below HB3.out)
  clear HI
  cases rt
  · have hh : some ((2 : Int), T) = some (r1, r2) := HH.out
    simp only [Option.some.injEq, Prod.mk.injEq] at hh
    obtain ⟨rfl, rfl⟩ := hh
    clear HH
    have n0_ := Aside0.mk (blk_drew BK3.out)
    have n1_ := Aside0.mk (below_drew1 HB3.out)
    have n2_ := Aside0.mk (HI3.out.frame (W1 := w3.drew) (fun _ _ _ => rfl))
    clear BK3 HB3 HI3
    have BK3 := n0_
    have HB3 := n1_
    have HI3 := n2_
    clear n0_ n1_ n2_
    refine start_ (n := 15) (S := fun w' => w'.cell? ⟨g3, 0, none⟩ = some (.int .u32 a1_0) ∧ w'.cell? ⟨g3, 1, none⟩ = some (.int .u8 a1_1)) (ds := []) #[false, false, false, false, false, false, false, false, false, false, false, false, false, false, false] (by kernel_rfl) rfl rfl ⟨(blk_cell BK3.out 0).trans rfl, (blk_cell BK3.out 1).trans rfl⟩ (fun hHeld => ?_)
    generalize w3.drew = wd at BK3 HB3 HI3 hHeld ⊢
    refine pure_ (i := 0) (N := some 5) (v := ?_) (a' := ?_) #[true, false, false, false, false, false, false, false, false, false, false, false, false, false, false] rfl rfl (by kernel_rfl) (fun _ _ _ h => h) (Or.inl ⟨by rfl, ?_⟩) ?_ ?_
    rotate_left
    · intro w'
      go_simp
      with_reducible rfl
    rotate_left
    · simp only [Act.put, List.setIfInBounds_toArray, List.set_cons_zero, List.set_cons_succ, i64_w, i32_w]
      rfl
    refine pure_ (i := 1) (N := some 6) (v := ?_) (a' := ?_) #[true, true, false, false, false, false, false, false, false, false, false, false, false, false, false] rfl rfl (by kernel_rfl) (fun _ _ _ h => h) (Or.inl ⟨by rfl, ?_⟩) ?_ ?_
    rotate_left
    · intro w'
      go_simp
      with_reducible rfl
    rotate_left
    · simp only [Act.put, List.setIfInBounds_toArray, List.set_cons_zero, List.set_cons_succ, i64_w, i32_w]
      rfl
    refine pure_ (i := 2) (N := some 7) (v := ?_) (a' := ?_) #[true, true, true, false, false, false, false, false, false, false, false, false, false, false, false] rfl rfl (by kernel_rfl) (fun _ _ _ h => h) (Or.inl ⟨by rfl, ?_⟩) ?_ ?_
    rotate_left
    · intro w'
      go_simp
      with_reducible rfl
    rotate_left
    · simp only [Act.put, List.setIfInBounds_toArray, List.set_cons_zero, List.set_cons_succ, i64_w, i32_w]
      rfl
    refine take_ (i := 3) (N := some 8) (v := ?_) (a' := ?_) #[true, true, true, true, false, false, false, false, false, false, false, false, false, false, false] rfl rfl (by kernel_rfl) (fun _ _ _ h => h) (Or.inl ⟨by rfl, ?_⟩) hHeld ?_ ?_
    rotate_left
    · rintro w' ⟨s0, s1⟩
      go_simp
      with_reducible rfl
    rotate_left
    · simp only [Act.put, List.setIfInBounds_toArray, List.set_cons_zero, List.set_cons_succ, i64_w, i32_w]
      rfl
    refine one_ (i := 4) (N := some 9) #[true, true, true, true, true, false, false, false, false, false, false, false, false, false, false] rfl rfl (by kernel_rfl) (by decide) (fun K hK => ?_)
    refine goes_ Try.func23 (by kernel_rfl) rfl #[.agg #[.int .u32 a1_0, .int .u8 a1_1]] (by rfl) rfl rfl (by simp only [List.map_toArray, List.map_cons, List.map_nil]; rfl) ?_
    with_reducible refine (prefix_Right.calls a1_0 a1_1 false _ HRT.out).mono ?_
    rintro e w8 ⟨rfl, hb⟩
    refine ⟨_, rfl, ?_⟩
    have n0_ := Aside0.mk (blk_below BK3.out hb)
    have n1_ := Aside0.mk (below_step HB3.out hb)
    have n2_ := Aside0.mk (HI3.out.below hb)
    clear BK3 HB3 HI3
    have BK3 := n0_
    have HB3 := n1_
    have HI3 := n2_
    clear n0_ n1_ n2_
    clear hb
    refine hK.out _ _ ⟨(blk_cell BK3.out 0).trans rfl, (blk_cell BK3.out 1).trans rfl⟩ (fun hHeld => ?_)
    clear hK K
    refine norm_ (a' := ?_) ?_ ?_
    rotate_left
    · show Act.put _ (some 9) _ = _
      simp only [Act.put, List.setIfInBounds_toArray, List.set_cons_zero, List.set_cons_succ, i64_w, i32_w]
      rfl
    refine pure_ (i := 5) (N := some 10) (v := ?_) (a' := ?_) #[true, true, true, true, true, true, false, false, false, false, false, false, false, false, false] rfl rfl (by kernel_rfl) (fun _ _ _ h => h) (Or.inl ⟨by rfl, ?_⟩) ?_ ?_
    rotate_left
    · intro w'
      go_simp
      with_reducible rfl
    rotate_left
    · simp only [Act.put, List.setIfInBounds_toArray, List.set_cons_zero, List.set_cons_succ, i64_w, i32_w]
      rfl
    refine pure_ (i := 6) (N := some 11) (v := ?_) (a' := ?_) #[true, true, true, true, true, true, true, false, false, false, false, false, false, false, false] rfl rfl (by kernel_rfl) (fun _ _ _ h => h) (Or.inl ⟨by rfl, ?_⟩) ?_ ?_
    rotate_left
    · intro w'
      go_simp
      with_reducible rfl
    rotate_left
    · simp only [Act.put, List.setIfInBounds_toArray, List.set_cons_zero, List.set_cons_succ, i64_w, i32_w]
      rfl
    refine pure_ (i := 7) (N := some 12) (v := ?_) (a' := ?_) #[true, true, true, true, true, true, true, true, false, false, false, false, false, false, false] rfl rfl (by kernel_rfl) (fun _ _ _ h => h) (Or.inl ⟨by rfl, ?_⟩) ?_ ?_
    rotate_left
    · intro w'
      go_simp
      with_reducible rfl
    rotate_left
    · simp only [Act.put, List.setIfInBounds_toArray, List.set_cons_zero, List.set_cons_succ, i64_w, i32_w]
      rfl
    refine pure_ (i := 8) (N := some 13) (v := undef) (a' := ?_) #[true, true, true, true, true, true, true, true, true, false, false, false, false, false, false] rfl rfl (by kernel_rfl) (fun _ _ _ h => h) (Or.inr ⟨by rfl, rfl⟩) ?_ ?_
    rotate_left
    · simp only [Act.put, List.setIfInBounds_toArray, List.set_cons_zero, List.set_cons_succ, i64_w, i32_w]
      rfl
    refine pure_ (i := 9) (N := some 14) (v := undef) (a' := ?_) #[true, true, true, true, true, true, true, true, true, true, false, false, false, false, false] rfl rfl (by kernel_rfl) (fun _ _ _ h => h) (Or.inr ⟨by rfl, rfl⟩) ?_ ?_
    rotate_left
    · simp only [Act.put, List.setIfInBounds_toArray, List.set_cons_zero, List.set_cons_succ, i64_w, i32_w]
      rfl
    refine pure_ (i := 10) (N := some 15) (v := undef) (a' := ?_) #[true, true, true, true, true, true, true, true, true, true, true, false, false, false, false] rfl rfl (by kernel_rfl) (fun _ _ _ h => h) (Or.inr ⟨by rfl, rfl⟩) ?_ ?_
    rotate_left
    · simp only [Act.put, List.setIfInBounds_toArray, List.set_cons_zero, List.set_cons_succ, i64_w, i32_w]
      rfl
    refine pure_ (i := 11) (N := some 16) (v := undef) (a' := ?_) #[true, true, true, true, true, true, true, true, true, true, true, true, false, false, false] rfl rfl (by kernel_rfl) (fun _ _ _ h => h) (Or.inr ⟨by rfl, rfl⟩) ?_ ?_
    rotate_left
    · simp only [Act.put, List.setIfInBounds_toArray, List.set_cons_zero, List.set_cons_succ, i64_w, i32_w]
      rfl
    refine pure_ (i := 12) (N := some 17) (v := undef) (a' := ?_) #[true, true, true, true, true, true, true, true, true, true, true, true, true, false, false] rfl rfl (by kernel_rfl) (fun _ _ _ h => h) (Or.inr ⟨by rfl, rfl⟩) ?_ ?_
    rotate_left
    · simp only [Act.put, List.setIfInBounds_toArray, List.set_cons_zero, List.set_cons_succ, i64_w, i32_w]
      rfl
    refine pure_ (i := 13) (N := some 18) (v := undef) (a' := ?_) #[true, true, true, true, true, true, true, true, true, true, true, true, true, true, false] rfl rfl (by kernel_rfl) (fun _ _ _ h => h) (Or.inr ⟨by rfl, rfl⟩) ?_ ?_
    rotate_left
    · simp only [Act.put, List.setIfInBounds_toArray, List.set_cons_zero, List.set_cons_succ, i64_w, i32_w]
      rfl
    refine pure_ (i := 14) (N := some 19) (v := ?_) (a' := ?_) #[true, true, true, true, true, true, true, true, true, true, true, true, true, true, true] rfl rfl (by kernel_rfl) (fun _ _ _ h => h) (Or.inl ⟨by rfl, ?_⟩) ?_ ?_
    rotate_left
    · intro w'
      go_simp
      with_reducible rfl
    rotate_left
    · simp only [Act.put, List.setIfInBounds_toArray, List.set_cons_zero, List.set_cons_succ, i64_w, i32_w]
      rfl
    refine done_ (by kernel_rfl) ?_
    go_wp2_with (fail)
    go_ret
    exact ⟨rfl, HI3.out, below_step HB.out HB3.out, KeepT.of_below HB3.out⟩
  have hle : a1_1 ≤ 32 := by
    have h1 := HRT.out
    unfold prefix_Right.f at h1
    by_cases h2 : a1_1 ≤ 32
    · exact h2
    · rw [if_neg h2] at h1; cases h1
  have hh0 : (if 0 ≤ a1_1 ∧ T.all.length < 1000000 then (if (T.get (pathFrom a1_0 a1_1.toNat 0)).isSome = true then some ((0 : Int), T.drop (pathFrom a1_0 a1_1.toNat 0)) else some (2, T)) else none) = some (r1, r2) := HH.out
  have hc : 0 ≤ a1_1 ∧ T.all.length < 1000000 := by
    by_cases h2 : 0 ≤ a1_1 ∧ T.all.length < 1000000
    · exact h2
    · rw [if_neg h2] at hh0; cases hh0
  rw [if_pos hc] at hh0
  obtain ⟨h0, hcnt⟩ := hc
  have HC := Aside0.mk hcnt
  have HH0 := Aside0.mk hh0
  clear HH hh0 hcnt
  obtain ⟨gb, hgb⟩ : ∃ gb : Bool, (T.get (pathFrom a1_0 a1_1.toNat 0)).isSome = gb := ⟨_, rfl⟩
  have HGB := Aside0.mk hgb
  clear hgb
  have n0_ := Aside0.mk (blk_drew BK3.out)
  have n1_ := Aside0.mk (below_drew1 HB3.out)
  have n2_ := Aside0.mk (HI3.out.frame (W1 := w3.drew) (fun _ _ _ => rfl))
  clear BK3 HB3 HI3
  have BK3 := n0_
  have HB3 := n1_
  have HI3 := n2_
  clear n0_ n1_ n2_
  refine start_ (n := 15) (S := fun w' => w'.cell? ⟨g3, 0, none⟩ = some (.int .u32 a1_0) ∧ w'.cell? ⟨g3, 1, none⟩ = some (.int .u8 a1_1)) (ds := []) #[false, false, false, false, false, false, false, false, false, false, false, false, false, false, false] (by kernel_rfl) rfl rfl ⟨(blk_cell BK3.out 0).trans rfl, (blk_cell BK3.out 1).trans rfl⟩ (fun hHeld => ?_)
  generalize w3.drew = wd at BK3 HB3 HI3 hHeld ⊢
  refine pure_ (i := 0) (N := some 5) (v := ?_) (a' := ?_) #[true, false, false, false, false, false, false, false, false, false, false, false, false, false, false] rfl rfl (by kernel_rfl) (fun _ _ _ h => h) (Or.inl ⟨by rfl, ?_⟩) ?_ ?_
  rotate_left
  · intro w'
    go_simp
    with_reducible rfl
  rotate_left
  · simp only [Act.put, List.setIfInBounds_toArray, List.set_cons_zero, List.set_cons_succ, i64_w, i32_w]
    rfl
  refine pure_ (i := 1) (N := some 6) (v := ?_) (a' := ?_) #[true, true, false, false, false, false, false, false, false, false, false, false, false, false, false] rfl rfl (by kernel_rfl) (fun _ _ _ h => h) (Or.inl ⟨by rfl, ?_⟩) ?_ ?_
  rotate_left
  · intro w'
    go_simp
    with_reducible rfl
  rotate_left
  · simp only [Act.put, List.setIfInBounds_toArray, List.set_cons_zero, List.set_cons_succ, i64_w, i32_w]
    rfl
  refine pure_ (i := 2) (N := some 7) (v := ?_) (a' := ?_) #[true, true, true, false, false, false, false, false, false, false, false, false, false, false, false] rfl rfl (by kernel_rfl) (fun _ _ _ h => h) (Or.inl ⟨by rfl, ?_⟩) ?_ ?_
  rotate_left
  · intro w'
    go_simp
    with_reducible rfl
  rotate_left
  · simp only [Act.put, List.setIfInBounds_toArray, List.set_cons_zero, List.set_cons_succ, i64_w, i32_w]
    rfl
  refine take_ (i := 3) (N := some 8) (v := ?_) (a' := ?_) #[true, true, true, true, false, false, false, false, false, false, false, false, false, false, false] rfl rfl (by kernel_rfl) (fun _ _ _ h => h) (Or.inl ⟨by rfl, ?_⟩) hHeld ?_ ?_
  rotate_left
  · rintro w' ⟨s0, s1⟩
    go_simp
    with_reducible rfl
  rotate_left
  · simp only [Act.put, List.setIfInBounds_toArray, List.set_cons_zero, List.set_cons_succ, i64_w, i32_w]
    rfl
  refine one_ (i := 4) (N := some 9) #[true, true, true, true, true, false, false, false, false, false, false, false, false, false, false] rfl rfl (by kernel_rfl) (by decide) (fun K hK => ?_)
  refine goes_ Try.func23 (by kernel_rfl) rfl #[.agg #[.int .u32 a1_0, .int .u8 a1_1]] (by rfl) rfl rfl (by simp only [List.map_toArray, List.map_cons, List.map_nil]; rfl) ?_
  with_reducible refine (prefix_Right.calls a1_0 a1_1 true _ HRT.out).mono ?_
  rintro e w8 ⟨rfl, hb⟩
  refine ⟨_, rfl, ?_⟩
  have n0_ := Aside0.mk (blk_below BK3.out hb)
  have n1_ := Aside0.mk (below_step HB3.out hb)
  have n2_ := Aside0.mk (HI3.out.below hb)
  clear BK3 HB3 HI3
  have BK3 := n0_
  have HB3 := n1_
  have HI3 := n2_
  clear n0_ n1_ n2_
  clear hb
  refine hK.out _ _ ⟨(blk_cell BK3.out 0).trans rfl, (blk_cell BK3.out 1).trans rfl⟩ (fun hHeld => ?_)
  clear hK K
  refine norm_ (a' := ?_) ?_ ?_
  rotate_left
  · show Act.put _ (some 9) _ = _
    simp only [Act.put, List.setIfInBounds_toArray, List.set_cons_zero, List.set_cons_succ, i64_w, i32_w]
    rfl
  refine pure_ (i := 5) (N := some 10) (v := ?_) (a' := ?_) #[true, true, true, true, true, true, false, false, false, false, false, false, false, false, false] rfl rfl (by kernel_rfl) (fun _ _ _ h => h) (Or.inl ⟨by rfl, ?_⟩) ?_ ?_
  rotate_left
  · intro w'
    go_simp
    with_reducible rfl
  rotate_left
  · simp only [Act.put, List.setIfInBounds_toArray, List.set_cons_zero, List.set_cons_succ, i64_w, i32_w]
    rfl
  refine pure_ (i := 6) (N := some 11) (v := ?_) (a' := ?_) #[true, true, true, true, true, true, true, false, false, false, false, false, false, false, false] rfl rfl (by kernel_rfl) (fun _ _ _ h => h) (Or.inl ⟨by rfl, ?_⟩) ?_ ?_
  rotate_left
  · intro w'
    go_simp
    with_reducible rfl
  rotate_left
  · simp only [Act.put, List.setIfInBounds_toArray, List.set_cons_zero, List.set_cons_succ, i64_w, i32_w]
    rfl
  refine pure_ (i := 7) (N := some 12) (v := ?_) (a' := ?_) #[true, true, true, true, true, true, true, true, false, false, false, false, false, false, false] rfl rfl (by kernel_rfl) (fun _ _ _ h => h) (Or.inl ⟨by rfl, ?_⟩) ?_ ?_
  rotate_left
  · intro w'
    go_simp
    with_reducible rfl
  rotate_left
  · simp only [Act.put, List.setIfInBounds_toArray, List.set_cons_zero, List.set_cons_succ, i64_w, i32_w]
    rfl
  refine pure_ (i := 8) (N := some 13) (v := ?_) (a' := ?_) #[true, true, true, true, true, true, true, true, true, false, false, false, false, false, false] rfl rfl (by kernel_rfl) (fun _ _ _ h => h) (Or.inl ⟨by rfl, ?_⟩) ?_ ?_
  rotate_left
  · intro w'
    go_simp
    with_reducible rfl
  rotate_left
  · simp only [Act.put, List.setIfInBounds_toArray, List.set_cons_zero, List.set_cons_succ, i64_w, i32_w]
    rfl
  refine pure_ (i := 9) (N := some 14) (v := ?_) (a' := ?_) #[true, true, true, true, true, true, true, true, true, true, false, false, false, false, false] rfl rfl (by kernel_rfl) (fun _ _ _ h => h) (Or.inl ⟨by rfl, ?_⟩) ?_ ?_
  rotate_left
  · intro w'
    go_simp
    with_reducible rfl
  rotate_left
  · simp only [Act.put, List.setIfInBounds_toArray, List.set_cons_zero, List.set_cons_succ, i64_w, i32_w]
    rfl
  refine pure_ (i := 10) (N := some 15) (v := ?_) (a' := ?_) #[true, true, true, true, true, true, true, true, true, true, true, false, false, false, false] rfl rfl (by kernel_rfl) (fun _ _ _ h => h) (Or.inl ⟨by rfl, ?_⟩) ?_ ?_
  rotate_left
  · intro w'
    go_simp
    with_reducible rfl
  rotate_left
  · simp only [Act.put, List.setIfInBounds_toArray, List.set_cons_zero, List.set_cons_succ, i64_w, i32_w]
    rfl
  refine take_ (i := 11) (N := some 16) (v := ?_) (a' := ?_) #[true, true, true, true, true, true, true, true, true, true, true, true, false, false, false] rfl rfl (by kernel_rfl) (fun _ _ _ h => h) (Or.inl ⟨by rfl, ?_⟩) hHeld ?_ ?_
  rotate_left
  · rintro w' ⟨s0, s1⟩
    go_simp
    with_reducible rfl
  rotate_left
  · simp only [Act.put, List.setIfInBounds_toArray, List.set_cons_zero, List.set_cons_succ, i64_w, i32_w]
    rfl
  refine one_ (i := 12) (N := some 17) #[true, true, true, true, true, true, true, true, true, true, true, true, true, false, false] rfl rfl (by kernel_rfl) (by decide) (fun K hK => ?_)
  obtain ⟨o, a, b, bs, hT, hn, hd, hge⟩ := HI3.out
  subst hT
  have hlt := hn.lt
  have hty := hn.typed
  refine goes_ Try.func25 (by kernel_rfl) rfl #[.pointer (some ⟨g, 0, none⟩), .agg #[.int .u32 a1_0, .int .u8 a1_1], .int .u8 ((0 : Nat) : Int)] (by rfl) rfl rfl (by simp only [List.map_toArray, List.map_cons, List.map_nil]; rfl) ?_
  with_reducible refine (trie_drop.calls a1_0 a1_1 h0 hle w0 a1_1.toNat 0 g _ o a b bs _ (Nat.zero_add _) hn hd hge (below_step HB.out HB3.out)).mono ?_
  rintro e w8 ⟨he, ⟨o', a', b', bs', hdc, hn', hsub, hnd⟩, hb8, hk8⟩
  rw [HGB.out] at he
  subst he
  refine ⟨_, rfl, ?_⟩
  have hk := Kb.keepT hk8 hty
  have n0_ := Aside0.mk ((hk.2 g3 ⟨_, _, BK3.out, by decide, by decide⟩).trans BK3.out)
  have HB8 := Aside0.mk hb8
  have HK8 := Aside0.mk ((KeepT.of_below HB3.out).trans hk)
  have HN8 := Aside0.mk hn'
  have HDC := Aside0.mk hdc
  have HSUB := Aside0.mk (show ∀ k ∈ g :: bs', w0.heap.size ≤ k from fun k hm => by rcases List.mem_cons.1 hm with rfl | hm; exact hge k List.mem_cons_self; exact hge k (List.mem_cons_of_mem _ (hsub k hm)))
  have HND := Aside0.mk (List.nodup_cons.2 hnd)
  clear hdc hn' hsub hnd hb8 hk8 hk hlt hty hn hd hge BK3 HI3 HB3
  have BK3 := n0_
  clear n0_
  refine hK.out _ _ ⟨(blk_cell BK3.out 0).trans rfl, (blk_cell BK3.out 1).trans rfl⟩ (fun hHeld => ?_)
  clear hK K
  refine norm_ (a' := ?_) ?_ ?_
  rotate_left
  · show Act.put _ (some 17) _ = _
    simp only [Act.put, List.setIfInBounds_toArray, List.set_cons_zero, List.set_cons_succ, i64_w, i32_w]
    rfl
  refine pure_ (i := 13) (N := some 18) (v := ?_) (a' := ?_) #[true, true, true, true, true, true, true, true, true, true, true, true, true, true, false] rfl rfl (by kernel_rfl) (fun _ _ _ h => h) (Or.inl ⟨by rfl, ?_⟩) ?_ ?_
  rotate_left
  · intro w'
    go_simp
    with_reducible rfl
  rotate_left
  · simp only [Act.put, List.setIfInBounds_toArray, List.set_cons_zero, List.set_cons_succ, i64_w, i32_w]
    rfl
  refine pure_ (i := 14) (N := some 19) (v := ?_) (a' := ?_) #[true, true, true, true, true, true, true, true, true, true, true, true, true, true, true] rfl rfl (by kernel_rfl) (fun _ _ _ h => h) (Or.inl ⟨by rfl, ?_⟩) ?_ ?_
  rotate_left
  · intro w'
    go_simp
    with_reducible rfl
  rotate_left
  · simp only [Act.put, List.setIfInBounds_toArray, List.set_cons_zero, List.set_cons_succ, i64_w, i32_w]
    rfl
  refine done_ (by kernel_rfl) ?_
  cases gb
  · have hget := HGB.out
    have hh := HH0.out
    rw [if_neg (by rw [hget]; decide)] at hh
    simp only [Option.some.injEq, Prod.mk.injEq] at hh
    obtain ⟨rfl, rfl⟩ := hh
    have hdc := HDC.out
    rw [Tr.dropC_no (by simpa using hget)] at hdc
    injection hdc with e1 e2 e3
    subst e1 e2 e3
    go_wp2_with (fail)
    go_ret
    exact ⟨rfl, ⟨_, _, _, _, rfl, HN8.out, HND.out, HSUB.out⟩, HB8.out, HK8.out⟩
  · have hget := HGB.out
    have hh := HH0.out
    rw [if_pos hget] at hh
    simp only [Option.some.injEq, Prod.mk.injEq] at hh
    obtain ⟨rfl, rfl⟩ := hh
    have hdc := HDC.out
    unfold Tr.dropC at hdc
    rw [if_pos hget] at hdc
    obtain ⟨va, vb, ba, bb, hx, ha, hb', hbs⟩ := HN8.out
    have c8 := hx.n
    have y8 := hx.frozen 8
    have HX := Aside0.mk hx
    have HA := Aside0.mk ha
    have HBb := Aside0.mk hb'
    have HDD := Aside0.mk hdc
    clear hx ha hb' hdc HDC
    go_wp2_with (fail)
    go_ret
    have hlen := Tr.len_drop (pathFrom a1_0 a1_1.toNat 0) (Tr.node o a b)
    have hone : ((Tr.node o a b).get (pathFrom a1_0 a1_1.toNat 0)).toList.length = 1 := by
      cases hg : (Tr.node o a b).get (pathFrom a1_0 a1_1.toNat 0) with
      | none => rw [hg] at hget; cases hget
      | some r => rfl
    rw [HDD.out, hone] at hlen
    have hcn := HC.out
    have hw : wrap64 (((Tr.node o a b).all.length : Int) - 1) = ((Tr.node o' a' b').all.length : Int) := by unfold wrap64; omega
    have hmem : ∀ k, k ∈ ba ∨ k ∈ bb → k ≠ g := fun k hk e => (List.nodup_cons.1 HND.out).1 (by rw [hbs, ← e]; exact List.mem_append.2 hk)
    refine ⟨rfl, ⟨o', a', b', bs', HDD.out, ?_, HND.out, HSUB.out⟩, below_set HB8.out (HSUB.out g List.mem_cons_self), KeepT.setT HK8.out HX.out.typed _ _⟩
    rw [HDD.out, hw]
    exact ⟨va, vb, ba, bb, HX.out.set8 _, HA.out.frame (fun k hk => heap_set _ _ _ _ _ (hmem k (.inl hk))), HBb.out.frame (fun k hk => heap_set _ _ _ _ _ (hmem k (.inr hk))), hbs⟩

/-! ### prefix_Has: function 19 -/
def prefix_Has.f (a0_0 : Int) (a0_1 : Int) (a1 : Int) : Option (Bool) := (prefix_mask.f a0_1).bind fun t131 => (some ((Go.bits .and .u32 a1 t131) == a0_0))
set_option maxHeartbeats 8000000 in
set_option maxRecDepth 100000 in
theorem prefix_Has.calls (a0_0 : Int) (a0_1 : Int) (a1 : Int) (r : Bool) (w : World) (h : prefix_Has.f a0_0 a0_1 a1 = some r) :
    Calls Try.prog 19 #[.agg #[.int .u32 a0_0, .int .u8 a0_1], .int .u32 a1] w fun e w' => e = .returned (.bool r) ∧ Below w.heap.size w w' := by
  have hu27 := Try.underlying27
  have HB := Aside0.mk (Below.refl w.heap.size w)
  have H : ((prefix_mask.f a0_1).bind fun t131 => (some ((Go.bits .and .u32 a1 t131) == a0_0))) = some r := h
  clear h
  replace H := Option.bind_eq_some_iff.mp H
  obtain ⟨t131, A30, H⟩ := H
  replace H : (some ((Go.bits .and .u32 a1 t131) == a0_0)) = some r := H
  have A3 := Aside0.mk A30
  clear A30
  obtain rfl := Option.some.inj H
  simp only [Option.some.injEq, Prod.mk.injEq] at H
  obtain ⟨rfl⟩ := H
  go_enter Try.func19, Try.ntmps19
  go_wp2_with (first | ((with_reducible refine gate_dst (N := 2) rfl ?_); refine box_event ?hg (N := 2) ?hd (cs := #[.int .u32 a0_0, .int .u8 a0_1]) (t := 27) ?hr ?_; (case hd => rfl); (case hg => rfl); (case hr => first | (go_simp; done) | (go_simp; rfl)); intro gb130 hg w4 hbox hb; have n0_ := Aside0.mk (below_step (by repeat (first | (with_reducible first | exact HB.out | apply below_alloc | apply pw_below_drewN | apply below_drew1) | exact HB.out)) hb); have n1_ := Aside0.mk (hbox); have n2_ := Aside0.mk ((by rw [hg]; exact (below_size (by repeat (first | (with_reducible first | exact HB.out | apply below_alloc | apply pw_below_drewN | apply below_drew1) | exact HB.out))) : w.heap.size ≤ gb130)); have n3_ := Aside0.mk ((by rw [hg]; exact (below_size (by repeat (first | (with_reducible first | exact HB.out | apply below_alloc | apply pw_below_drewN | apply below_drew1) | exact HB.out))) : w.heap.size ≤ gb130)); clear HB; have HB := n0_; have BK130 := n1_; have GW130 := n2_; have GE130 := n3_; clear n0_ n1_ n2_ n3_; clear hb hbox hg; have hcz5_0 : w4.cell? ⟨gb130, 0, none⟩ = some (.int .u32 a0_0) := (blk_cell BK130.out 0).trans rfl; have hcz5_1 : w4.cell? ⟨gb130, 1, none⟩ = some (.int .u8 a0_1) := (blk_cell BK130.out 1).trans rfl; have hfz5_0 := blk_frozen BK130.out 0; have hfz5_1 := blk_frozen BK130.out 1) | (go_at_call 27; (with_reducible refine (prefix_mask.calls a0_1 t131 _ A3.out).mono ?_); rintro e w' ⟨rfl, ⟨nd, rfl⟩⟩; (try first | exact ⟨rfl, _, World.drewN_drewN _ _ _⟩ | exact ⟨rfl, _, Eq.trans (World.drewN_drewN _ _ _) (congrArg (World.drewN _) (Nat.add_assoc _ _ _))⟩)) | (go_at_call 27; (refine calls_of_args (args' := #[.int .u8 a0_1]) ?_ ?_; focus (first | rfl | (simp; done) | (refine qa_arr ?_; (repeat' (first | rfl | refine qa_cons ?_ ?_ | refine qa_int ?_ | refine qa_agg ?_ | refine qa_arr ?_ | omega)); done)); (with_reducible refine (prefix_mask.calls a0_1 t131 _ A3.out).mono ?_)); rintro e w' ⟨rfl, ⟨nd, rfl⟩⟩; (try first | exact ⟨rfl, _, World.drewN_drewN _ _ _⟩ | exact ⟨rfl, _, Eq.trans (World.drewN_drewN _ _ _) (congrArg (World.drewN _) (Nat.add_assoc _ _ _))⟩)))
  repeat (go_quiet (first | ((with_reducible refine gate_dst (N := 2) rfl ?_); refine box_event ?hg (N := 2) ?hd (cs := #[.int .u32 a0_0, .int .u8 a0_1]) (t := 27) ?hr ?_; (case hd => rfl); (case hg => rfl); (case hr => first | (go_simp; done) | (go_simp; rfl)); intro gb130 hg w4 hbox hb; have n0_ := Aside0.mk (below_step (by repeat (first | (with_reducible first | exact HB.out | apply below_alloc | apply pw_below_drewN | apply below_drew1) | exact HB.out)) hb); have n1_ := Aside0.mk (hbox); have n2_ := Aside0.mk ((by rw [hg]; exact (below_size (by repeat (first | (with_reducible first | exact HB.out | apply below_alloc | apply pw_below_drewN | apply below_drew1) | exact HB.out))) : w.heap.size ≤ gb130)); have n3_ := Aside0.mk ((by rw [hg]; exact (below_size (by repeat (first | (with_reducible first | exact HB.out | apply below_alloc | apply pw_below_drewN | apply below_drew1) | exact HB.out))) : w.heap.size ≤ gb130)); clear HB; have HB := n0_; have BK130 := n1_; have GW130 := n2_; have GE130 := n3_; clear n0_ n1_ n2_ n3_; clear hb hbox hg; have hcz5_0 : w4.cell? ⟨gb130, 0, none⟩ = some (.int .u32 a0_0) := (blk_cell BK130.out 0).trans rfl; have hcz5_1 : w4.cell? ⟨gb130, 1, none⟩ = some (.int .u8 a0_1) := (blk_cell BK130.out 1).trans rfl; have hfz5_0 := blk_frozen BK130.out 0; have hfz5_1 := blk_frozen BK130.out 1) | (go_at_call 27; (with_reducible refine (prefix_mask.calls a0_1 t131 _ A3.out).mono ?_); rintro e w' ⟨rfl, ⟨nd, rfl⟩⟩; (try first | exact ⟨rfl, _, World.drewN_drewN _ _ _⟩ | exact ⟨rfl, _, Eq.trans (World.drewN_drewN _ _ _) (congrArg (World.drewN _) (Nat.add_assoc _ _ _))⟩)) | (go_at_call 27; (refine calls_of_args (args' := #[.int .u8 a0_1]) ?_ ?_; focus (first | rfl | (simp; done) | (refine qa_arr ?_; (repeat' (first | rfl | refine qa_cons ?_ ?_ | refine qa_int ?_ | refine qa_agg ?_ | refine qa_arr ?_ | omega)); done)); (with_reducible refine (prefix_mask.calls a0_1 t131 _ A3.out).mono ?_)); rintro e w' ⟨rfl, ⟨nd, rfl⟩⟩; (try first | exact ⟨rfl, _, World.drewN_drewN _ _ _⟩ | exact ⟨rfl, _, Eq.trans (World.drewN_drewN _ _ _) (congrArg (World.drewN _) (Nat.add_assoc _ _ _))⟩))); try go_wp2_with (first | ((with_reducible refine gate_dst (N := 2) rfl ?_); refine box_event ?hg (N := 2) ?hd (cs := #[.int .u32 a0_0, .int .u8 a0_1]) (t := 27) ?hr ?_; (case hd => rfl); (case hg => rfl); (case hr => first | (go_simp; done) | (go_simp; rfl)); intro gb130 hg w4 hbox hb; have n0_ := Aside0.mk (below_step (by repeat (first | (with_reducible first | exact HB.out | apply below_alloc | apply pw_below_drewN | apply below_drew1) | exact HB.out)) hb); have n1_ := Aside0.mk (hbox); have n2_ := Aside0.mk ((by rw [hg]; exact (below_size (by repeat (first | (with_reducible first | exact HB.out | apply below_alloc | apply pw_below_drewN | apply below_drew1) | exact HB.out))) : w.heap.size ≤ gb130)); have n3_ := Aside0.mk ((by rw [hg]; exact (below_size (by repeat (first | (with_reducible first | exact HB.out | apply below_alloc | apply pw_below_drewN | apply below_drew1) | exact HB.out))) : w.heap.size ≤ gb130)); clear HB; have HB := n0_; have BK130 := n1_; have GW130 := n2_; have GE130 := n3_; clear n0_ n1_ n2_ n3_; clear hb hbox hg; have hcz5_0 : w4.cell? ⟨gb130, 0, none⟩ = some (.int .u32 a0_0) := (blk_cell BK130.out 0).trans rfl; have hcz5_1 : w4.cell? ⟨gb130, 1, none⟩ = some (.int .u8 a0_1) := (blk_cell BK130.out 1).trans rfl; have hfz5_0 := blk_frozen BK130.out 0; have hfz5_1 := blk_frozen BK130.out 1) | (go_at_call 27; (with_reducible refine (prefix_mask.calls a0_1 t131 _ A3.out).mono ?_); rintro e w' ⟨rfl, ⟨nd, rfl⟩⟩; (try first | exact ⟨rfl, _, World.drewN_drewN _ _ _⟩ | exact ⟨rfl, _, Eq.trans (World.drewN_drewN _ _ _) (congrArg (World.drewN _) (Nat.add_assoc _ _ _))⟩)) | (go_at_call 27; (refine calls_of_args (args' := #[.int .u8 a0_1]) ?_ ?_; focus (first | rfl | (simp; done) | (refine qa_arr ?_; (repeat' (first | rfl | refine qa_cons ?_ ?_ | refine qa_int ?_ | refine qa_agg ?_ | refine qa_arr ?_ | omega)); done)); (with_reducible refine (prefix_mask.calls a0_1 t131 _ A3.out).mono ?_)); rintro e w' ⟨rfl, ⟨nd, rfl⟩⟩; (try first | exact ⟨rfl, _, World.drewN_drewN _ _ _⟩ | exact ⟨rfl, _, Eq.trans (World.drewN_drewN _ _ _) (congrArg (World.drewN _) (Nat.add_assoc _ _ _))⟩))))
  go_ret
  exact ⟨by first | rfl | (simp [errW_none, errW_some] <;> rfl) | (simp [*, errW_none, errW_some] <;> rfl), by repeat (first | (with_reducible first | exact HB.out | apply below_alloc | apply pw_below_drewN | apply below_drew1 | refine below_set ?_ GE130.out) | exact HB.out)⟩

end Go.Proofs.Ytbmiifhmgfhidaa.QTrieNests
