-- Lines by a program of this session, for this claim.
import Derived.Test.YtbmiifhmgfhidaaQTriePlaysx0
import Derived.Test.YtbmiifhmgfhidaaQTriePlaysx3
import Derived.Test.YtbmiifhmgfhidaaQTriePlaysx4
import Derived.Test.YtbmiifhmgfhidaaQTriePlaysx5
import Derived.Test.YtbmiifhmgfhidaaQTriePlaysx6
namespace Go.Proofs.Ytbmiifhmgfhidaa.QTriePlays
open Go.RowKit Go.Proofs.YtbmiifhmgfhidaaW.PrintWords Go.Proofs.YtbmiifhmgfhidaaW.PrintLast Go.Proofs.YtbmiifhmgfhidaaW.PrintMore
attribute [local go_sem] max2_int min2_int max_two min_two max_three min_three max_four min_four   -- for this text's walks alone
set_option linter.unusedVariables false
set_option linter.unusedSimpArgs false

/-! ### trie_Trie_Drop: function 15 -/
def trie_Trie_Drop.f (T : Tr S33) (a1_0 a1_1 : Int) : Option (Int × Tr S33) :=
  (prefix_Right.f a1_0 a1_1).bind fun rt => if rt = true then (if 0 ≤ a1_1 ∧ T.all.length < 1000000 then (if (T.get (pathFrom a1_0 a1_1.toNat 0)).isSome = true then some (0, T.drop (pathFrom a1_0 a1_1.toNat 0)) else some (2, T)) else none) else some (2, T)
set_option maxHeartbeats 8000000 in
set_option maxRecDepth 100000 in
theorem trie_Trie_Drop.calls (g : Nat) (T : Tr S33) (a1_0 a1_1 : Int) (r1 : Int) (r2 : Tr S33) (w0 w : World) (hI : IsS46 w0 w g T) (hB : Below w0.heap.size w0 w) (h : trie_Trie_Drop.f T a1_0 a1_1 = some (r1, r2)) :
    Calls Try.prog 15 #[.pointer (some ⟨g, 0, none⟩), .agg #[.int .u32 a1_0, .int .u8 a1_1]] w fun e w' => e = .returned (.int .i64 r1) ∧ IsS46 w0 w' g r2 ∧ Below w0.heap.size w0 w' ∧ KeepT w w' := by
  have hu46 := Try.underlying46
  have hu27 := Try.underlying27
  unfold trie_Trie_Drop.f at h
  obtain ⟨rt, hrt, h⟩ := Option.bind_eq_some_iff.mp h
  have HI := Aside0.mk hI
  have HB := Aside0.mk hB
  have HRT := Aside0.mk hrt
  have HH := Aside0.mk h
  clear hI hB hrt h
  go_enter Try.func15, Try.ntmps15
  go_upto_region 1 with ((with_reducible refine gate_dst (N := 3) rfl ?_); (try (refine gate_guard (by rfl) ?_; dsimp only)); refine box_event ?hg (N := 3) ?hd (cs := #[.int .u32 a1_0, .int .u8 a1_1]) (t := 27) ?hr ?_; (case hd => rfl); (case hg => rfl); (case hr => first | (go_simp; done) | (go_simp; rfl)); intro g3 hg w3 hbox hb; have BK3 := Aside0.mk hbox; have HB3 := Aside0.mk hb; clear hb hbox hg)
  have HI3 := Aside0.mk (HI.out.below HB3.out)
  clear HI
  cases rt
  · have hh : some ((2 : Int), T) = some (r1, r2) := HH.out
    simp only [Option.some.injEq, Prod.mk.injEq] at hh
    obtain ⟨rfl, rfl⟩ := hh
    clear HH
    have n0_ := Aside0.mk (blk_drew BK3.out)
    have n1_ := Aside0.mk (below_drew1 HB3.out)
    have n2_ := Aside0.mk (HI3.out.frame (W1 := w3.drew) (fun _ _ _ => rfl))
    clear BK3 HB3 HI3
    have BK3 := n0_
    have HB3 := n1_
    have HI3 := n2_
    clear n0_ n1_ n2_
    refine start_ (n := 15) (S := fun w' => w'.cell? ⟨g3, 0, none⟩ = some (.int .u32 a1_0) ∧ w'.cell? ⟨g3, 1, none⟩ = some (.int .u8 a1_1)) (ds := []) #[false, false, false, false, false, false, false, false, false, false, false, false, false, false, false] (by kernel_rfl) rfl rfl ⟨(blk_cell BK3.out 0).trans rfl, (blk_cell BK3.out 1).trans rfl⟩ (fun hHeld => ?_)
    generalize w3.drew = wd at BK3 HB3 HI3 hHeld ⊢
    refine pure_ (i := 0) (N := some 5) (v := ?_) (a' := ?_) #[true, false, false, false, false, false, false, false, false, false, false, false, false, false, false] rfl rfl (by kernel_rfl) (fun _ _ _ h => h) (Or.inl ⟨by rfl, ?_⟩) ?_ ?_
    rotate_left
    · intro w'
      go_simp
      with_reducible rfl
    rotate_left
    · simp only [Act.put, List.setIfInBounds_toArray, List.set_cons_zero, List.set_cons_succ, i64_w, i32_w]
      rfl
    refine pure_ (i := 1) (N := some 6) (v := ?_) (a' := ?_) #[true, true, false, false, false, false, false, false, false, false, false, false, false, false, false] rfl rfl (by kernel_rfl) (fun _ _ _ h => h) (Or.inl ⟨by rfl, ?_⟩) ?_ ?_
    rotate_left
    · intro w'
      go_simp
      with_reducible rfl
    rotate_left
    · simp only [Act.put, List.setIfInBounds_toArray, List.set_cons_zero, List.set_cons_succ, i64_w, i32_w]
      rfl
    refine pure_ (i := 2) (N := some 7) (v := ?_) (a' := ?_) #[true, true, true, false, false, false, false, false, false, false, false, false, false, false, false] rfl rfl (by kernel_rfl) (fun _ _ _ h => h) (Or.inl ⟨by rfl, ?_⟩) ?_ ?_
    rotate_left
    · intro w'
      go_simp
      with_reducible rfl
    rotate_left
    · simp only [Act.put, List.setIfInBounds_toArray, List.set_cons_zero, List.set_cons_succ, i64_w, i32_w]
      rfl
    refine take_ (i := 3) (N := some 8) (v := ?_) (a' := ?_) #[true, true, true, true, false, false, false, false, false, false, false, false, false, false, false] rfl rfl (by kernel_rfl) (fun _ _ _ h => h) (Or.inl ⟨by rfl, ?_⟩) hHeld ?_ ?_
    rotate_left
    · rintro w' ⟨s0, s1⟩
      go_simp
      with_reducible rfl
    rotate_left
    · simp only [Act.put, List.setIfInBounds_toArray, List.set_cons_zero, List.set_cons_succ, i64_w, i32_w]
      rfl
    refine one_ (i := 4) (N := some 9) #[true, true, true, true, true, false, false, false, false, false, false, false, false, false, false] rfl rfl (by kernel_rfl) (by decide) (fun K hK => ?_)
    refine goes_ Try.func23 (by kernel_rfl) rfl #[.agg #[.int .u32 a1_0, .int .u8 a1_1]] (by rfl) rfl rfl (by simp only [List.map_toArray, List.map_cons, List.map_nil]; rfl) ?_
    with_reducible refine (prefix_Right.calls a1_0 a1_1 false _ HRT.out).mono ?_
    rintro e w8 ⟨rfl, hb⟩
    refine ⟨_, rfl, ?_⟩
    have n0_ := Aside0.mk (blk_below BK3.out hb)
    have n1_ := Aside0.mk (below_step HB3.out hb)
    have n2_ := Aside0.mk (HI3.out.below hb)
    clear BK3 HB3 HI3
    have BK3 := n0_
    have HB3 := n1_
    have HI3 := n2_
    clear n0_ n1_ n2_
    clear hb
    refine hK.out _ _ ⟨(blk_cell BK3.out 0).trans rfl, (blk_cell BK3.out 1).trans rfl⟩ (fun hHeld => ?_)
    clear hK K
    refine norm_ (a' := ?_) ?_ ?_
    rotate_left
    · show Act.put _ (some 9) _ = _
      simp only [Act.put, List.setIfInBounds_toArray, List.set_cons_zero, List.set_cons_succ, i64_w, i32_w]
      rfl
    refine pure_ (i := 5) (N := some 10) (v := ?_) (a' := ?_) #[true, true, true, true, true, true, false, false, false, false, false, false, false, false, false] rfl rfl (by kernel_rfl) (fun _ _ _ h => h) (Or.inl ⟨by rfl, ?_⟩) ?_ ?_
    rotate_left
    · intro w'
      go_simp
      with_reducible rfl
    rotate_left
    · simp only [Act.put, List.setIfInBounds_toArray, List.set_cons_zero, List.set_cons_succ, i64_w, i32_w]
      rfl
    refine pure_ (i := 6) (N := some 11) (v := ?_) (a' := ?_) #[true, true, true, true, true, true, true, false, false, false, false, false, false, false, false] rfl rfl (by kernel_rfl) (fun _ _ _ h => h) (Or.inl ⟨by rfl, ?_⟩) ?_ ?_
    rotate_left
    · intro w'
      go_simp
      with_reducible rfl
    rotate_left
    · simp only [Act.put, List.setIfInBounds_toArray, List.set_cons_zero, List.set_cons_succ, i64_w, i32_w]
      rfl
    refine pure_ (i := 7) (N := some 12) (v := ?_) (a' := ?_) #[true, true, true, true, true, true, true, true, false, false, false, false, false, false, false] rfl rfl (by kernel_rfl) (fun _ _ _ h => h) (Or.inl ⟨by rfl, ?_⟩) ?_ ?_
    rotate_left
    · intro w'
      go_simp
      with_reducible rfl
    rotate_left
    · simp only [Act.put, List.setIfInBounds_toArray, List.set_cons_zero, List.set_cons_succ, i64_w, i32_w]
      rfl
    refine pure_ (i := 8) (N := some 13) (v := undef) (a' := ?_) #[true, true, true, true, true, true, true, true, true, false, false, false, false, false, false] rfl rfl (by kernel_rfl) (fun _ _ _ h => h) (Or.inr ⟨by rfl, rfl⟩) ?_ ?_
    rotate_left
    · simp only [Act.put, List.setIfInBounds_toArray, List.set_cons_zero, List.set_cons_succ, i64_w, i32_w]
      rfl
    refine pure_ (i := 9) (N := some 14) (v := undef) (a' := ?_) #[true, true, true, true, true, true, true, true, true, true, false, false, false, false, false] rfl rfl (by kernel_rfl) (fun _ _ _ h => h) (Or.inr ⟨by rfl, rfl⟩) ?_ ?_
    rotate_left
    · simp only [Act.put, List.setIfInBounds_toArray, List.set_cons_zero, List.set_cons_succ, i64_w, i32_w]
      rfl
    refine pure_ (i := 10) (N := some 15) (v := undef) (a' := ?_) #[true, true, true, true, true, true, true, true, true, true, true, false, false, false, false] rfl rfl (by kernel_rfl) (fun _ _ _ h => h) (Or.inr ⟨by rfl, rfl⟩) ?_ ?_
    rotate_left
    · simp only [Act.put, List.setIfInBounds_toArray, List.set_cons_zero, List.set_cons_succ, i64_w, i32_w]
      rfl
    refine pure_ (i := 11) (N := some 16) (v := undef) (a' := ?_) #[true, true, true, true, true, true, true, true, true, true, true, true, false, false, false] rfl rfl (by kernel_rfl) (fun _ _ _ h => h) (Or.inr ⟨by rfl, rfl⟩) ?_ ?_
    rotate_left
    · simp only [Act.put, List.setIfInBounds_toArray, List.set_cons_zero, List.set_cons_succ, i64_w, i32_w]
      rfl
    refine pure_ (i := 12) (N := some 17) (v := undef) (a' := ?_) #[true, true, true, true, true, true, true, true, true, true, true, true, true, false, false] rfl rfl (by kernel_rfl) (fun _ _ _ h => h) (Or.inr ⟨by rfl, rfl⟩) ?_ ?_
    rotate_left
    · simp only [Act.put, List.setIfInBounds_toArray, List.set_cons_zero, List.set_cons_succ, i64_w, i32_w]
      rfl
    refine pure_ (i := 13) (N := some 18) (v := undef) (a' := ?_) #[true, true, true, true, true, true, true, true, true, true, true, true, true, true, false] rfl rfl (by kernel_rfl) (fun _ _ _ h => h) (Or.inr ⟨by rfl, rfl⟩) ?_ ?_
    rotate_left
    · simp only [Act.put, List.setIfInBounds_toArray, List.set_cons_zero, List.set_cons_succ, i64_w, i32_w]
      rfl
    refine pure_ (i := 14) (N := some 19) (v := ?_) (a' := ?_) #[true, true, true, true, true, true, true, true, true, true, true, true, true, true, true] rfl rfl (by kernel_rfl) (fun _ _ _ h => h) (Or.inl ⟨by rfl, ?_⟩) ?_ ?_
    rotate_left
    · intro w'
      go_simp
      with_reducible rfl
    rotate_left
    · simp only [Act.put, List.setIfInBounds_toArray, List.set_cons_zero, List.set_cons_succ, i64_w, i32_w]
      rfl
    refine done_ (by kernel_rfl) ?_
    go_wp2_with (fail)
    go_ret
    exact ⟨rfl, HI3.out, below_step HB.out HB3.out, KeepT.of_below HB3.out⟩
  have hle : a1_1 ≤ 32 := by
    have h1 := HRT.out
    unfold prefix_Right.f at h1
    by_cases h2 : a1_1 ≤ 32
    · exact h2
    · rw [if_neg h2] at h1; cases h1
  have hh0 : (if 0 ≤ a1_1 ∧ T.all.length < 1000000 then (if (T.get (pathFrom a1_0 a1_1.toNat 0)).isSome = true then some ((0 : Int), T.drop (pathFrom a1_0 a1_1.toNat 0)) else some (2, T)) else none) = some (r1, r2) := HH.out
  have hc : 0 ≤ a1_1 ∧ T.all.length < 1000000 := by
    by_cases h2 : 0 ≤ a1_1 ∧ T.all.length < 1000000
    · exact h2
    · rw [if_neg h2] at hh0; cases hh0
  rw [if_pos hc] at hh0
  obtain ⟨h0, hcnt⟩ := hc
  have HC := Aside0.mk hcnt
  have HH0 := Aside0.mk hh0
  clear HH hh0 hcnt
  obtain ⟨gb, hgb⟩ : ∃ gb : Bool, (T.get (pathFrom a1_0 a1_1.toNat 0)).isSome = gb := ⟨_, rfl⟩
  have HGB := Aside0.mk hgb
  clear hgb
  have n0_ := Aside0.mk (blk_drew BK3.out)
  have n1_ := Aside0.mk (below_drew1 HB3.out)
  have n2_ := Aside0.mk (HI3.out.frame (W1 := w3.drew) (fun _ _ _ => rfl))
  clear BK3 HB3 HI3
  have BK3 := n0_
  have HB3 := n1_
  have HI3 := n2_
  clear n0_ n1_ n2_
  refine start_ (n := 15) (S := fun w' => w'.cell? ⟨g3, 0, none⟩ = some (.int .u32 a1_0) ∧ w'.cell? ⟨g3, 1, none⟩ = some (.int .u8 a1_1)) (ds := []) #[false, false, false, false, false, false, false, false, false, false, false, false, false, false, false] (by kernel_rfl) rfl rfl ⟨(blk_cell BK3.out 0).trans rfl, (blk_cell BK3.out 1).trans rfl⟩ (fun hHeld => ?_)
  generalize w3.drew = wd at BK3 HB3 HI3 hHeld ⊢
  refine pure_ (i := 0) (N := some 5) (v := ?_) (a' := ?_) #[true, false, false, false, false, false, false, false, false, false, false, false, false, false, false] rfl rfl (by kernel_rfl) (fun _ _ _ h => h) (Or.inl ⟨by rfl, ?_⟩) ?_ ?_
  rotate_left
  · intro w'
    go_simp
    with_reducible rfl
  rotate_left
  · simp only [Act.put, List.setIfInBounds_toArray, List.set_cons_zero, List.set_cons_succ, i64_w, i32_w]
    rfl
  refine pure_ (i := 1) (N := some 6) (v := ?_) (a' := ?_) #[true, true, false, false, false, false, false, false, false, false, false, false, false, false, false] rfl rfl (by kernel_rfl) (fun _ _ _ h => h) (Or.inl ⟨by rfl, ?_⟩) ?_ ?_
  rotate_left
  · intro w'
    go_simp
    with_reducible rfl
  rotate_left
  · simp only [Act.put, List.setIfInBounds_toArray, List.set_cons_zero, List.set_cons_succ, i64_w, i32_w]
    rfl
  refine pure_ (i := 2) (N := some 7) (v := ?_) (a' := ?_) #[true, true, true, false, false, false, false, false, false, false, false, false, false, false, false] rfl rfl (by kernel_rfl) (fun _ _ _ h => h) (Or.inl ⟨by rfl, ?_⟩) ?_ ?_
  rotate_left
  · intro w'
    go_simp
    with_reducible rfl
  rotate_left
  · simp only [Act.put, List.setIfInBounds_toArray, List.set_cons_zero, List.set_cons_succ, i64_w, i32_w]
    rfl
  refine take_ (i := 3) (N := some 8) (v := ?_) (a' := ?_) #[true, true, true, true, false, false, false, false, false, false, false, false, false, false, false] rfl rfl (by kernel_rfl) (fun _ _ _ h => h) (Or.inl ⟨by rfl, ?_⟩) hHeld ?_ ?_
  rotate_left
  · rintro w' ⟨s0, s1⟩
    go_simp
    with_reducible rfl
  rotate_left
  · simp only [Act.put, List.setIfInBounds_toArray, List.set_cons_zero, List.set_cons_succ, i64_w, i32_w]
    rfl
  refine one_ (i := 4) (N := some 9) #[true, true, true, true, true, false, false, false, false, false, false, false, false, false, false] rfl rfl (by kernel_rfl) (by decide) (fun K hK => ?_)
  refine goes_ Try.func23 (by kernel_rfl) rfl #[.agg #[.int .u32 a1_0, .int .u8 a1_1]] (by rfl) rfl rfl (by simp only [List.map_toArray, List.map_cons, List.map_nil]; rfl) ?_
  with_reducible refine (prefix_Right.calls a1_0 a1_1 true _ HRT.out).mono ?_
  rintro e w8 ⟨rfl, hb⟩
  refine ⟨_, rfl, ?_⟩
  have n0_ := Aside0.mk (blk_below BK3.out hb)
  have n1_ := Aside0.mk (below_step HB3.out hb)
  have n2_ := Aside0.mk (HI3.out.below hb)
  clear BK3 HB3 HI3
  have BK3 := n0_
  have HB3 := n1_
  have HI3 := n2_
  clear n0_ n1_ n2_
  clear hb
  refine hK.out _ _ ⟨(blk_cell BK3.out 0).trans rfl, (blk_cell BK3.out 1).trans rfl⟩ (fun hHeld => ?_)
  clear hK K
  refine norm_ (a' := ?_) ?_ ?_
  rotate_left
  · show Act.put _ (some 9) _ = _
    simp only [Act.put, List.setIfInBounds_toArray, List.set_cons_zero, List.set_cons_succ, i64_w, i32_w]
    rfl
  refine pure_ (i := 5) (N := some 10) (v := ?_) (a' := ?_) #[true, true, true, true, true, true, false, false, false, false, false, false, false, false, false] rfl rfl (by kernel_rfl) (fun _ _ _ h => h) (Or.inl ⟨by rfl, ?_⟩) ?_ ?_
  rotate_left
  · intro w'
    go_simp
    with_reducible rfl
  rotate_left
  · simp only [Act.put, List.setIfInBounds_toArray, List.set_cons_zero, List.set_cons_succ, i64_w, i32_w]
    rfl
  refine pure_ (i := 6) (N := some 11) (v := ?_) (a' := ?_) #[true, true, true, true, true, true, true, false, false, false, false, false, false, false, false] rfl rfl (by kernel_rfl) (fun _ _ _ h => h) (Or.inl ⟨by rfl, ?_⟩) ?_ ?_
  rotate_left
  · intro w'
    go_simp
    with_reducible rfl
  rotate_left
  · simp only [Act.put, List.setIfInBounds_toArray, List.set_cons_zero, List.set_cons_succ, i64_w, i32_w]
    rfl
  refine pure_ (i := 7) (N := some 12) (v := ?_) (a' := ?_) #[true, true, true, true, true, true, true, true, false, false, false, false, false, false, false] rfl rfl (by kernel_rfl) (fun _ _ _ h => h) (Or.inl ⟨by rfl, ?_⟩) ?_ ?_
  rotate_left
  · intro w'
    go_simp
    with_reducible rfl
  rotate_left
  · simp only [Act.put, List.setIfInBounds_toArray, List.set_cons_zero, List.set_cons_succ, i64_w, i32_w]
    rfl
  refine pure_ (i := 8) (N := some 13) (v := ?_) (a' := ?_) #[true, true, true, true, true, true, true, true, true, false, false, false, false, false, false] rfl rfl (by kernel_rfl) (fun _ _ _ h => h) (Or.inl ⟨by rfl, ?_⟩) ?_ ?_
  rotate_left
  · intro w'
    go_simp
    with_reducible rfl
  rotate_left
  · simp only [Act.put, List.setIfInBounds_toArray, List.set_cons_zero, List.set_cons_succ, i64_w, i32_w]
    rfl
  refine pure_ (i := 9) (N := some 14) (v := ?_) (a' := ?_) #[true, true, true, true, true, true, true, true, true, true, false, false, false, false, false] rfl rfl (by kernel_rfl) (fun _ _ _ h => h) (Or.inl ⟨by rfl, ?_⟩) ?_ ?_
  rotate_left
  · intro w'
    go_simp
    with_reducible rfl
  rotate_left
  · simp only [Act.put, List.setIfInBounds_toArray, List.set_cons_zero, List.set_cons_succ, i64_w, i32_w]
    rfl
  refine pure_ (i := 10) (N := some 15) (v := ?_) (a' := ?_) #[true, true, true, true, true, true, true, true, true, true, true, false, false, false, false] rfl rfl (by kernel_rfl) (fun _ _ _ h => h) (Or.inl ⟨by rfl, ?_⟩) ?_ ?_
  rotate_left
  · intro w'
    go_simp
    with_reducible rfl
  rotate_left
  · simp only [Act.put, List.setIfInBounds_toArray, List.set_cons_zero, List.set_cons_succ, i64_w, i32_w]
    rfl
  refine take_ (i := 11) (N := some 16) (v := ?_) (a' := ?_) #[true, true, true, true, true, true, true, true, true, true, true, true, false, false, false] rfl rfl (by kernel_rfl) (fun _ _ _ h => h) (Or.inl ⟨by rfl, ?_⟩) hHeld ?_ ?_
  rotate_left
  · rintro w' ⟨s0, s1⟩
    go_simp
    with_reducible rfl
  rotate_left
  · simp only [Act.put, List.setIfInBounds_toArray, List.set_cons_zero, List.set_cons_succ, i64_w, i32_w]
    rfl
  refine one_ (i := 12) (N := some 17) #[true, true, true, true, true, true, true, true, true, true, true, true, true, false, false] rfl rfl (by kernel_rfl) (by decide) (fun K hK => ?_)
  obtain ⟨o, a, b, bs, hT, hn, hd, hge⟩ := HI3.out
  subst hT
  have hlt := hn.lt
  have hty := hn.typed
  refine goes_ Try.func25 (by kernel_rfl) rfl #[.pointer (some ⟨g, 0, none⟩), .agg #[.int .u32 a1_0, .int .u8 a1_1], .int .u8 ((0 : Nat) : Int)] (by rfl) rfl rfl (by simp only [List.map_toArray, List.map_cons, List.map_nil]; rfl) ?_
  with_reducible refine (trie_drop.calls a1_0 a1_1 h0 hle w0 a1_1.toNat 0 g _ o a b bs _ (Nat.zero_add _) hn hd hge (below_step HB.out HB3.out)).mono ?_
  rintro e w8 ⟨he, ⟨o', a', b', bs', hdc, hn', hsub, hnd⟩, hb8, hk8⟩
  rw [HGB.out] at he
  subst he
  refine ⟨_, rfl, ?_⟩
  have hk := Kb.keepT hk8 hty
  have n0_ := Aside0.mk ((hk.2 g3 ⟨_, _, BK3.out, by decide, by decide⟩).trans BK3.out)
  have HB8 := Aside0.mk hb8
  have HK8 := Aside0.mk ((KeepT.of_below HB3.out).trans hk)
  have HN8 := Aside0.mk hn'
  have HDC := Aside0.mk hdc
  have HSUB := Aside0.mk (show ∀ k ∈ g :: bs', w0.heap.size ≤ k from fun k hm => by rcases List.mem_cons.1 hm with rfl | hm; exact hge k List.mem_cons_self; exact hge k (List.mem_cons_of_mem _ (hsub k hm)))
  have HND := Aside0.mk (List.nodup_cons.2 hnd)
  clear hdc hn' hsub hnd hb8 hk8 hk hlt hty hn hd hge BK3 HI3 HB3
  have BK3 := n0_
  clear n0_
  refine hK.out _ _ ⟨(blk_cell BK3.out 0).trans rfl, (blk_cell BK3.out 1).trans rfl⟩ (fun hHeld => ?_)
  clear hK K
  refine norm_ (a' := ?_) ?_ ?_
  rotate_left
  · show Act.put _ (some 17) _ = _
    simp only [Act.put, List.setIfInBounds_toArray, List.set_cons_zero, List.set_cons_succ, i64_w, i32_w]
    rfl
  refine pure_ (i := 13) (N := some 18) (v := ?_) (a' := ?_) #[true, true, true, true, true, true, true, true, true, true, true, true, true, true, false] rfl rfl (by kernel_rfl) (fun _ _ _ h => h) (Or.inl ⟨by rfl, ?_⟩) ?_ ?_
  rotate_left
  · intro w'
    go_simp
    with_reducible rfl
  rotate_left
  · simp only [Act.put, List.setIfInBounds_toArray, List.set_cons_zero, List.set_cons_succ, i64_w, i32_w]
    rfl
  refine pure_ (i := 14) (N := some 19) (v := ?_) (a' := ?_) #[true, true, true, true, true, true, true, true, true, true, true, true, true, true, true] rfl rfl (by kernel_rfl) (fun _ _ _ h => h) (Or.inl ⟨by rfl, ?_⟩) ?_ ?_
  rotate_left
  · intro w'
    go_simp
    with_reducible rfl
  rotate_left
  · simp only [Act.put, List.setIfInBounds_toArray, List.set_cons_zero, List.set_cons_succ, i64_w, i32_w]
    rfl
  refine done_ (by kernel_rfl) ?_
  cases gb
  · have hget := HGB.out
    have hh := HH0.out
    rw [if_neg (by rw [hget]; decide)] at hh
    simp only [Option.some.injEq, Prod.mk.injEq] at hh
    obtain ⟨rfl, rfl⟩ := hh
    have hdc := HDC.out
    rw [Tr.dropC_no (by simpa using hget)] at hdc
    injection hdc with e1 e2 e3
    subst e1 e2 e3
    go_wp2_with (fail)
    go_ret
    exact ⟨rfl, ⟨_, _, _, _, rfl, HN8.out, HND.out, HSUB.out⟩, HB8.out, HK8.out⟩
  · have hget := HGB.out
    have hh := HH0.out
    rw [if_pos hget] at hh
    simp only [Option.some.injEq, Prod.mk.injEq] at hh
    obtain ⟨rfl, rfl⟩ := hh
    have hdc := HDC.out
    unfold Tr.dropC at hdc
    rw [if_pos hget] at hdc
    obtain ⟨va, vb, ba, bb, hx, ha, hb', hbs⟩ := HN8.out
    have c8 := hx.n
    have y8 := hx.frozen 8
    have HX := Aside0.mk hx
    have HA := Aside0.mk ha
    have HBb := Aside0.mk hb'
    have HDD := Aside0.mk hdc
    clear hx ha hb' hdc HDC
    go_wp2_with (fail)
    go_ret
    have hlen := Tr.len_drop (pathFrom a1_0 a1_1.toNat 0) (Tr.node o a b)
    have hone : ((Tr.node o a b).get (pathFrom a1_0 a1_1.toNat 0)).toList.length = 1 := by
      cases hg : (Tr.node o a b).get (pathFrom a1_0 a1_1.toNat 0) with
      | none => rw [hg] at hget; cases hget
      | some r => rfl
    rw [HDD.out, hone] at hlen
    have hcn := HC.out
    have hw : wrap64 (((Tr.node o a b).all.length : Int) - 1) = ((Tr.node o' a' b').all.length : Int) := by unfold wrap64; omega
    have hmem : ∀ k, k ∈ ba ∨ k ∈ bb → k ≠ g := fun k hk e => (List.nodup_cons.1 HND.out).1 (by rw [hbs, ← e]; exact List.mem_append.2 hk)
    refine ⟨rfl, ⟨o', a', b', bs', HDD.out, ?_, HND.out, HSUB.out⟩, below_set HB8.out (HSUB.out g List.mem_cons_self), KeepT.setT HK8.out HX.out.typed _ _⟩
    rw [HDD.out, hw]
    exact ⟨va, vb, ba, bb, HX.out.set8 _, HA.out.frame (fun k hk => heap_set _ _ _ _ _ (hmem k (.inl hk))), HBb.out.frame (fun k hk => heap_set _ _ _ _ _ (hmem k (.inr hk))), hbs⟩

/-! ### milestoneref01_Has: function 26 -/
def milestoneref01_Has.l0 : Nat → Int → Int → Int → Int → Option (Bool)
  | 0, _, _, _, _ => none
  | k + 1, x1, x5, x133000, x133001 => if x5 < (wrap64 (x133001)) then ((milestoneref01_Bit.f k x133000 x5).bind fun t133 => ((milestoneref01_Bit.f k x1 x5).bind fun t134 => (if (t133 != t134) = true then (some false) else (milestoneref01_Has.l0 k x1 (wrap64 (x5 + 1)) x133000 x133001)))) else (some true)
def milestoneref01_Has.f (k : Nat) (a0_0 : Int) (a0_1 : Int) (a1 : Int) : Option (Bool) := milestoneref01_Has.l0 k a1 0 a0_0 a0_1
theorem milestoneref01_Has.mono_l : ∀ k, (∀ y0 y1 y2 y3, LeO (milestoneref01_Has.l0 k y0 y1 y2 y3) (milestoneref01_Has.l0 (k + 1) y0 y1 y2 y3))
  | 0 => fun _ _ _ _ r h => by simp [milestoneref01_Has.l0] at h
  | k + 1 => by
    have ih0 := milestoneref01_Has.mono_l k
    · intro y0 y1 y2 y3
      unfold milestoneref01_Has.l0
      repeat' first
      | (with_reducible exact ih0 _ _ _ _)
      | (with_reducible exact milestoneref01_Bit.mono _ _ _)
      | (with_reducible exact LeO.refl _)
      | (with_reducible exact LeO.none _)
      | (with_reducible refine LeO.ite ?_ ?_)
      | (with_reducible refine LeO.bind ?_ (fun _ => ?_))
      | exact ih0 _ _ _ _
      | exact milestoneref01_Bit.mono _ _ _
      | exact LeO.none _
      | refine LeO.ite ?_ ?_
      | refine LeO.bind ?_ (fun _ => ?_)
theorem milestoneref01_Has.mono : ∀ a0 a1 a2 k, LeO (milestoneref01_Has.f k a0 a1 a2) (milestoneref01_Has.f (k + 1) a0 a1 a2) := by
  intro a0 a1 a2 k
  have ih0 := milestoneref01_Has.mono_l k
  unfold milestoneref01_Has.f
  repeat' first
      | (with_reducible exact ih0 _ _ _ _)
      | (with_reducible exact milestoneref01_Bit.mono _ _ _)
      | (with_reducible exact LeO.refl _)
      | (with_reducible exact LeO.none _)
      | (with_reducible refine LeO.ite ?_ ?_)
      | (with_reducible refine LeO.bind ?_ (fun _ => ?_))
      | exact ih0 _ _ _ _
      | exact milestoneref01_Bit.mono _ _ _
      | exact LeO.none _
      | refine LeO.ite ?_ ?_
      | refine LeO.bind ?_ (fun _ => ?_)
set_option maxHeartbeats 8000000 in
set_option maxRecDepth 100000 in
theorem milestoneref01_Has.calls (k : Nat) (a0_0 : Int) (a0_1 : Int) (a1 : Int) (r : Bool) (w : World) (h : milestoneref01_Has.f k a0_0 a0_1 a1 = some r) :
    Calls Try.prog 26 #[.agg #[.int .u32 a0_0, .int .u8 a0_1], .int .u32 a1] w fun e w' => e = .returned (.bool r) ∧ Below w.heap.size w w' := by
  have hu27 := Try.underlying27
  have HB := Aside0.mk (Below.refl w.heap.size w)
  have H : (milestoneref01_Has.l0 k a1 0 a0_0 a0_1) = some r := h
  clear h
  have H' := Aside0.mk H
  clear H
  go_enter Try.func26, Try.ntmps26
  go_wp2_with (first | ((with_reducible refine gate_dst (N := 2) rfl ?_); refine box_event ?hg (N := 2) ?hd (cs := #[.int .u32 a0_0, .int .u8 a0_1]) (t := 27) ?hr ?_; (case hd => rfl); (case hg => rfl); (case hr => first | (go_simp; done) | (go_simp; rfl)); intro gb132 hg w3 hbox hb; have n0_ := Aside0.mk (below_step (by repeat (first | (with_reducible first | exact HB.out | apply below_alloc | apply pw_below_drewN | apply below_drew1) | exact HB.out)) hb); have n1_ := Aside0.mk (hbox); have n2_ := Aside0.mk ((by rw [hg]; exact (below_size (by repeat (first | (with_reducible first | exact HB.out | apply below_alloc | apply pw_below_drewN | apply below_drew1) | exact HB.out))) : w.heap.size ≤ gb132)); have n3_ := Aside0.mk ((by rw [hg]; exact (below_size (by repeat (first | (with_reducible first | exact HB.out | apply below_alloc | apply pw_below_drewN | apply below_drew1) | exact HB.out))) : w.heap.size ≤ gb132)); clear HB; have HB := n0_; have BK132 := n1_; have GW132 := n2_; have GE132 := n3_; clear n0_ n1_ n2_ n3_; clear hb hbox hg))
  go_loopg [5] k (fun kq v5 w' => ∃ (x5_1 : Int), v5 = .int .i64 x5_1 ∧ Aside0 (milestoneref01_Has.l0 kq a1 x5_1 a0_0 a0_1 = some r) ∧ Aside0 (kq ≤ k) ∧ Aside0 (w'.heap[gb132]? = some (.cells #[.int .u32 a0_0, .int .u8 a0_1] 27 (0, 0))) ∧ Aside0 (Below w.heap.size w w'))
  case atStart => exact ⟨(0), (by first | rfl | (simp; done) | (simp [*]; done) | (refine qa_int ?_; omega) | (refine qa_int ?_; simp <;> omega)), H', ⟨Nat.le_refl _⟩, ⟨by (with_reducible repeat (first | refine blk_drewN ?_ _ | refine blk_drew ?_ | refine blk_alloc ?_ _)); exact BK132.out⟩, ⟨by repeat (first | (with_reducible first | exact HB.out | apply below_alloc | apply pw_below_drewN | apply below_drew1 | refine below_set ?_ GE132.out) | exact HB.out)⟩⟩
  case round =>
    clear H'
    try clear c2
    try clear p2
    obtain ⟨x5_1, rfl, HA, HK1, BK132, HB⟩ := hrel
    cases gk with
    | zero => exact absurd HA.out (by simp [milestoneref01_Has.l0])
    | succ k1 =>
      have H := HA.out
      clear HA
      simp only [milestoneref01_Has.l0] at H
      by_cases c4 : x5_1 < (wrap64 (a0_1))
      · rw [if_pos c4] at H
        have c4b0 : decide (x5_1 < (wrap64 (a0_1))) = true := decide_eq_true c4
        clear c4
        replace H := Option.bind_eq_some_iff.mp H
        obtain ⟨t133, A50, H⟩ := H
        replace H : ((milestoneref01_Bit.f k1 a1 x5_1).bind fun t134 => (if (t133 != t134) = true then (some false) else (milestoneref01_Has.l0 k1 a1 (wrap64 (x5_1 + 1)) a0_0 a0_1))) = some r := H
        have A5 := Aside0.mk A50
        clear A50
        replace H := Option.bind_eq_some_iff.mp H
        obtain ⟨t134, A60, H⟩ := H
        replace H : (if (t133 != t134) = true then (some false) else (milestoneref01_Has.l0 k1 a1 (wrap64 (x5_1 + 1)) a0_0 a0_1)) = some r := H
        have A6 := Aside0.mk A60
        clear A60
        by_cases c7 : (t133 != t134) = true
        · rw [if_pos c7] at H
          have c7b0 : (t133 != t134) = true := c7
          (try (have c7b1 : decide (t133 = t134) = false := by simpa using c7))
          (try (have c7b2 : (t133 == t134) = false := by simpa using c7))
          (try (have c7b3 : ¬ (t133 = t134) := by simpa using c7))
          clear c7
          obtain rfl := Option.some.inj H
          simp only [Option.some.injEq, Prod.mk.injEq] at H
          obtain ⟨rfl⟩ := H
          have hcz8_0 : wr.cell? ⟨gb132, 0, none⟩ = some (.int .u32 a0_0) := (blk_cell BK132.out 0).trans rfl
          have hcz8_1 : wr.cell? ⟨gb132, 1, none⟩ = some (.int .u8 a0_1) := (blk_cell BK132.out 1).trans rfl
          have hfz8_0 := blk_frozen BK132.out 0
          have hfz8_1 := blk_frozen BK132.out 1
          go_wp2_with (first | ((with_reducible refine gate_callee (f := 28) rfl ?_); refine goesL_ (some 16) rfl rfl Try.func28 (by kernel_rfl) rfl #[.int .u32 a0_0, .int .i64 x5_1] rfl (by (try simp only [List.map_toArray, List.map_cons, List.map_nil]); first | done | rfl | (simp only [List.length_drop, List.length_take]; rfl) | (simp; done) | (refine qa_arr ?_; (repeat' (first | rfl | refine qa_cons ?_ ?_ | refine qa_int ?_ | refine qa_agg ?_ | refine qa_arr ?_ | omega)); done)) ?_; (with_reducible refine (milestoneref01_Bit.calls k1 a0_0 x5_1 t133 _ A5.out).mono ?_); rintro e w' ⟨rfl, ⟨nd, rfl⟩⟩; refine ⟨_, rfl, ?_⟩) | ((with_reducible refine gate_callee (f := 28) rfl ?_); refine goesL_ (some 19) rfl rfl Try.func28 (by kernel_rfl) rfl #[.int .u32 a1, .int .i64 x5_1] rfl (by (try simp only [List.map_toArray, List.map_cons, List.map_nil]); first | done | rfl | (simp only [List.length_drop, List.length_take]; rfl) | (simp; done) | (refine qa_arr ?_; (repeat' (first | rfl | refine qa_cons ?_ ?_ | refine qa_int ?_ | refine qa_agg ?_ | refine qa_arr ?_ | omega)); done)) ?_; (with_reducible refine (milestoneref01_Bit.calls k1 a1 x5_1 t134 _ A6.out).mono ?_); rintro e w' ⟨rfl, ⟨nd, rfl⟩⟩; refine ⟨_, rfl, ?_⟩) | ((with_reducible refine gate_callee (f := 28) rfl ?_); refine goesL_ _ rfl rfl Try.func28 (by kernel_rfl) rfl #[.int .u32 a0_0, .int .i64 x5_1] rfl (by (try simp only [List.map_toArray, List.map_cons, List.map_nil]); first | done | rfl | (simp only [List.length_drop, List.length_take]; rfl) | (simp; done) | (refine qa_arr ?_; (repeat' (first | rfl | refine qa_cons ?_ ?_ | refine qa_int ?_ | refine qa_agg ?_ | refine qa_arr ?_ | omega)); done)) ?_; (with_reducible refine (milestoneref01_Bit.calls k1 a0_0 x5_1 t133 _ A5.out).mono ?_); rintro e w' ⟨rfl, ⟨nd, rfl⟩⟩; refine ⟨_, rfl, ?_⟩) | ((with_reducible refine gate_callee (f := 28) rfl ?_); refine goesL_ _ rfl rfl Try.func28 (by kernel_rfl) rfl #[.int .u32 a1, .int .i64 x5_1] rfl (by (try simp only [List.map_toArray, List.map_cons, List.map_nil]); first | done | rfl | (simp only [List.length_drop, List.length_take]; rfl) | (simp; done) | (refine qa_arr ?_; (repeat' (first | rfl | refine qa_cons ?_ ?_ | refine qa_int ?_ | refine qa_agg ?_ | refine qa_arr ?_ | omega)); done)) ?_; (with_reducible refine (milestoneref01_Bit.calls k1 a1 x5_1 t134 _ A6.out).mono ?_); rintro e w' ⟨rfl, ⟨nd, rfl⟩⟩; refine ⟨_, rfl, ?_⟩))
          go_ret
          exact ⟨by first | rfl | (simp [errW_none, errW_some] <;> rfl) | (simp [*, errW_none, errW_some] <;> rfl), by repeat (first | (with_reducible first | exact HB.out | apply below_alloc | apply pw_below_drewN | apply below_drew1 | refine below_set ?_ GE132.out) | exact HB.out)⟩
        · rw [if_neg c7] at H
          have c7b0 : (t133 != t134) = false := by simpa using c7
          (try (have c7b1 : decide (t133 = t134) = true := by simpa using c7))
          (try (have c7b2 : (t133 == t134) = true := by simpa using c7))
          clear c7
          have H' := Aside0.mk H
          clear H
          have hcz9_0 : wr.cell? ⟨gb132, 0, none⟩ = some (.int .u32 a0_0) := (blk_cell BK132.out 0).trans rfl
          have hcz9_1 : wr.cell? ⟨gb132, 1, none⟩ = some (.int .u8 a0_1) := (blk_cell BK132.out 1).trans rfl
          have hfz9_0 := blk_frozen BK132.out 0
          have hfz9_1 := blk_frozen BK132.out 1
          go_wp2_with (first | ((with_reducible refine gate_callee (f := 28) rfl ?_); refine goesL_ (some 16) rfl rfl Try.func28 (by kernel_rfl) rfl #[.int .u32 a0_0, .int .i64 x5_1] rfl (by (try simp only [List.map_toArray, List.map_cons, List.map_nil]); first | done | rfl | (simp only [List.length_drop, List.length_take]; rfl) | (simp; done) | (refine qa_arr ?_; (repeat' (first | rfl | refine qa_cons ?_ ?_ | refine qa_int ?_ | refine qa_agg ?_ | refine qa_arr ?_ | omega)); done)) ?_; (with_reducible refine (milestoneref01_Bit.calls k1 a0_0 x5_1 t133 _ A5.out).mono ?_); rintro e w' ⟨rfl, ⟨nd, rfl⟩⟩; refine ⟨_, rfl, ?_⟩) | ((with_reducible refine gate_callee (f := 28) rfl ?_); refine goesL_ (some 19) rfl rfl Try.func28 (by kernel_rfl) rfl #[.int .u32 a1, .int .i64 x5_1] rfl (by (try simp only [List.map_toArray, List.map_cons, List.map_nil]); first | done | rfl | (simp only [List.length_drop, List.length_take]; rfl) | (simp; done) | (refine qa_arr ?_; (repeat' (first | rfl | refine qa_cons ?_ ?_ | refine qa_int ?_ | refine qa_agg ?_ | refine qa_arr ?_ | omega)); done)) ?_; (with_reducible refine (milestoneref01_Bit.calls k1 a1 x5_1 t134 _ A6.out).mono ?_); rintro e w' ⟨rfl, ⟨nd, rfl⟩⟩; refine ⟨_, rfl, ?_⟩) | ((with_reducible refine gate_callee (f := 28) rfl ?_); refine goesL_ _ rfl rfl Try.func28 (by kernel_rfl) rfl #[.int .u32 a0_0, .int .i64 x5_1] rfl (by (try simp only [List.map_toArray, List.map_cons, List.map_nil]); first | done | rfl | (simp only [List.length_drop, List.length_take]; rfl) | (simp; done) | (refine qa_arr ?_; (repeat' (first | rfl | refine qa_cons ?_ ?_ | refine qa_int ?_ | refine qa_agg ?_ | refine qa_arr ?_ | omega)); done)) ?_; (with_reducible refine (milestoneref01_Bit.calls k1 a0_0 x5_1 t133 _ A5.out).mono ?_); rintro e w' ⟨rfl, ⟨nd, rfl⟩⟩; refine ⟨_, rfl, ?_⟩) | ((with_reducible refine gate_callee (f := 28) rfl ?_); refine goesL_ _ rfl rfl Try.func28 (by kernel_rfl) rfl #[.int .u32 a1, .int .i64 x5_1] rfl (by (try simp only [List.map_toArray, List.map_cons, List.map_nil]); first | done | rfl | (simp only [List.length_drop, List.length_take]; rfl) | (simp; done) | (refine qa_arr ?_; (repeat' (first | rfl | refine qa_cons ?_ ?_ | refine qa_int ?_ | refine qa_agg ?_ | refine qa_arr ?_ | omega)); done)) ?_; (with_reducible refine (milestoneref01_Bit.calls k1 a1 x5_1 t134 _ A6.out).mono ?_); rintro e w' ⟨rfl, ⟨nd, rfl⟩⟩; refine ⟨_, rfl, ?_⟩))
          go_roundg k1
          case measure => have := HK1.out; omega
          case rel => exact ⟨(wrap64 (x5_1 + 1)), (by first | rfl | (simp; done) | (simp [*]; done) | (refine qa_int ?_; omega) | (refine qa_int ?_; simp <;> omega)), H', ⟨by have := HK1.out; omega⟩, ⟨by (with_reducible repeat (first | refine blk_drewN ?_ _ | refine blk_drew ?_ | refine blk_alloc ?_ _)); exact BK132.out⟩, ⟨by repeat (first | (with_reducible first | exact HB.out | apply below_alloc | apply pw_below_drewN | apply below_drew1 | refine below_set ?_ GE132.out) | exact HB.out)⟩⟩
      · rw [if_neg c4] at H
        have c4b0 : decide (x5_1 < (wrap64 (a0_1))) = false := decide_eq_false c4
        clear c4
        obtain rfl := Option.some.inj H
        simp only [Option.some.injEq, Prod.mk.injEq] at H
        obtain ⟨rfl⟩ := H
        have hcz10_0 : wr.cell? ⟨gb132, 0, none⟩ = some (.int .u32 a0_0) := (blk_cell BK132.out 0).trans rfl
        have hcz10_1 : wr.cell? ⟨gb132, 1, none⟩ = some (.int .u8 a0_1) := (blk_cell BK132.out 1).trans rfl
        have hfz10_0 := blk_frozen BK132.out 0
        have hfz10_1 := blk_frozen BK132.out 1
        go_wp2
        go_ret
        exact ⟨by first | rfl | (simp [errW_none, errW_some] <;> rfl) | (simp [*, errW_none, errW_some] <;> rfl), by repeat (first | (with_reducible first | exact HB.out | apply below_alloc | apply pw_below_drewN | apply below_drew1 | refine below_set ?_ GE132.out) | exact HB.out)⟩

end Go.Proofs.Ytbmiifhmgfhidaa.QTriePlays
