-- Lines by a program of this session, for this claim.
import Derived.Test.YtmkjgiejnlmncaaQTablePartsx0
import Derived.Test.YtmkjgiejnlmncaaQTablePartsx3
import Derived.Test.YtmkjgiejnlmncaaQTablePartsx12
namespace Go.Proofs.Ytmkjgiejnlmncaa.QTableParts
open Go.RowKit Go.Proofs.YtmkjgiejnlmncaaW.PrintWords Go.Proofs.YtmkjgiejnlmncaaW.PrintLast Go.Proofs.YtmkjgiejnlmncaaW.PrintMore
attribute [local go_sem] max2_int min2_int max_two min_two max_three min_three max_four min_four   -- for this text's walks alone
set_option linter.unusedVariables false
set_option linter.unusedSimpArgs false

/-! ### table_Table_Encode: function 20 -/
def table_Table_Encode.rowNums (x : S43) : List Int := [x.f0.f0, x.f0.f1, x.f3.f0, x.f3.f1] ++ (if x.f1 = true then [x.f2.f1 + 1, x.f2.f2, x.f2.f3] else [0])
def table_Table_Encode.okR (x : S43) : Prop := (0 ≤ x.f0.f0 ∧ x.f0.f0 ≤ 4294967295) ∧ (0 ≤ x.f0.f1 ∧ x.f0.f1 ≤ 255) ∧ (0 ≤ x.f2.f1 ∧ x.f2.f1 ≤ 65535) ∧ (0 ≤ x.f2.f2 ∧ x.f2.f2 ≤ 65535) ∧ (0 ≤ x.f2.f3 ∧ x.f2.f3 ≤ 65535) ∧ (0 ≤ x.f3.f0 ∧ x.f3.f0 ≤ 65535) ∧ (0 ≤ x.f3.f1 ∧ x.f3.f1 ≤ 65535)
def table_Table_Encode.putAll (k : Nat) : List Int → List Int → Option (List Int)
  | l, [] => some l
  | l, x :: xs => (coin_Put.f k l x).bind fun r => table_Table_Encode.putAll k r xs
theorem table_Table_Encode.putAll_cons {k : Nat} {l xs r : List Int} {x : Int} (h : table_Table_Encode.putAll k l (x :: xs) = some r) : ∃ l', coin_Put.f k l x = some l' ∧ table_Table_Encode.putAll k l' xs = some r := Option.bind_eq_some_iff.mp h
def table_Table_Encode.nums (T : (List S43 × Int × Int)) : List Int := T.2.1 :: T.2.2 :: (T.1.length : Int) :: T.1.flatMap table_Table_Encode.rowNums
def table_Table_Encode.f (k : Nat) (T : (List S43 × Int × Int)) : Option (List Int) := table_Table_Encode.putAll k [] (table_Table_Encode.nums T)
theorem table_Table_Encode.own_ne5 {w W : World} {v : Value} {l : List Int} {g5 : Nat} {cs : Array Value} {t : TypeId} (h : Kd.R (Kd.int .u8) 5 W w.heap.size (fun _ => True) v l) (hb : W.heap[g5]? = some (.cells cs t (0, 0))) (ht : t ≠ 5) : Kd.R (Kd.int .u8) 5 W w.heap.size (fun k_ => k_ ≠ g5) v l :=
  Kd.R_mono (Kd.R_types h hb (fun q hq => by
    obtain rfl : q = 5 := List.mem_singleton.1 (show q ∈ [5] from hq)
    exact fun e => ht e.symm)) (fun _ h => h.2)
theorem table_Table_Encode.flat_drop (l : List S43) (j : Nat) (h : j < l.length) : (l.drop j).flatMap table_Table_Encode.rowNums = table_Table_Encode.rowNums (rd_T43 l (j : Int)) ++ (l.drop (j + 1)).flatMap table_Table_Encode.rowNums := by
  rw [List.drop_eq_getElem_cons h, List.flatMap_cons, rd_cast l j h]
set_option maxHeartbeats 8000000 in
set_option maxRecDepth 100000 in
theorem table_Table_Encode.calls (k : Nat) (g : Nat) (T : (List S43 × Int × Int)) (r : List Int) (w0 w : World) (hI : IsS70 w0 w g T) (hok : ∀ x ∈ T.1, table_Table_Encode.okR x) (h : table_Table_Encode.f k T = some r) :
    Calls Try.prog 20 #[.pointer (some ⟨g, 0, none⟩)] w fun e w' => ∃ v0_ : Value, e = .returned v0_ ∧ Kd.R (Kd.int .u8) 5 w' w.heap.size (fun _ => True) v0_ r ∧ Below w.heap.size w w' := by
  have hu43 := Try.underlying43; have hu70 := Try.underlying70; obtain ⟨vv, hg, _, hR, _, hl⟩ := hI; obtain ⟨A, c, rfl, _, hC⟩ := Kd.R_reads hR; have BK := Aside0.mk hg; have HC := Aside0.mk hC; have HOK := Aside0.mk hok; have GLT := Aside0.mk (blk_lt hg); obtain ⟨l1, h1, h⟩ := table_Table_Encode.putAll_cons h; obtain ⟨l2, h2, h⟩ := table_Table_Encode.putAll_cons h; obtain ⟨l3, h3, h⟩ := table_Table_Encode.putAll_cons h; have H1 := Aside0.mk h1; have H2 := Aside0.mk h2; have H3 := Aside0.mk h3; have HF := Aside0.mk h; clear hg hC hR hok h1 h2 h3 h
  have wc : IntKind.u64.wrap (T.1.length : Int) = (T.1.length : Int) := by show (_ % 18446744073709551616 : Int) = _; omega
  have t0 : w.cell? ⟨g, 0, none⟩ = some (.slice A T.1.length c) := (blk_cell BK.out 0).trans rfl
  go_enter Try.func20, Try.ntmps20
  go_upto_region 3 with (fail)
  have BKD := Aside0.mk (blk_drew BK.out); have HBD := Aside0.mk (below_drew1 (Below.refl w.heap.size w)); refine start_ (n := 18) (S := fun w' => w'.cell? ⟨g, 1, none⟩ = some (.int .u64 T.2.1) ∧ w'.cell? ⟨g, 2, none⟩ = some (.int .u64 T.2.2) ∧ w'.cell? ⟨g, 0, none⟩ = some (.slice A T.1.length c)) (ds := []) #[O,O,O,O,O,O,O,O,O,O,O,O,O,O,O,O,O,O] (by kernel_rfl) rfl rfl ⟨(blk_cell BKD.out 1).trans rfl, (blk_cell BKD.out 2).trans rfl, (blk_cell BKD.out 0).trans rfl⟩ (fun hHeld => ?_); generalize w.drew = wd at BKD HBD hHeld ⊢; refine pure_ (i := 0) (N := some 8) (v := ?_) (a' := ?_) #[I,O,O,O,O,O,O,O,O,O,O,O,O,O,O,O,O,O] rfl rfl (by kernel_rfl) (fun _ _ _ h => h) (Or.inl ⟨by rfl, ?_⟩) ?_ ?_; rotate_left; · intro w'; go_simp; with_reducible rfl
  rotate_left; · simp only [Act.put, la0, la1, la2, i64_w, i32_w]; rfl
  refine pure_ (i := 1) (N := some 9) (v := ?_) (a' := ?_) #[I,I,O,O,O,O,O,O,O,O,O,O,O,O,O,O,O,O] rfl rfl (by kernel_rfl) (fun _ _ _ h => h) (Or.inl ⟨by rfl, ?_⟩) ?_ ?_; rotate_left; · intro w'; go_simp; with_reducible rfl
  rotate_left; · simp only [Act.put, la0, la1, la2, i64_w, i32_w]; rfl
  refine pure_ (i := 2) (N := some 10) (v := ?_) (a' := ?_) #[I,I,I,O,O,O,O,O,O,O,O,O,O,O,O,O,O,O] rfl rfl (by kernel_rfl) (fun _ _ _ h => h) (Or.inl ⟨by rfl, ?_⟩) ?_ ?_; rotate_left; · intro w'; go_simp; with_reducible rfl
  rotate_left; · simp only [Act.put, la0, la1, la2, i64_w, i32_w]; rfl
  refine pure_ (i := 5) (N := some 13) (v := ?_) (a' := ?_) #[I,I,I,O,O,I,O,O,O,O,O,O,O,O,O,O,O,O] rfl rfl (by kernel_rfl) (fun _ _ _ h => h) (Or.inl ⟨by rfl, ?_⟩) ?_ ?_; rotate_left; · intro w'; go_simp; with_reducible rfl
  rotate_left; · simp only [Act.put, la0, la1, la2, i64_w, i32_w]; rfl
  refine pure_ (i := 6) (N := some 14) (v := ?_) (a' := ?_) #[I,I,I,O,O,I,I,O,O,O,O,O,O,O,O,O,O,O] rfl rfl (by kernel_rfl) (fun _ _ _ h => h) (Or.inl ⟨by rfl, ?_⟩) ?_ ?_; rotate_left; · intro w'; go_simp; with_reducible rfl
  rotate_left; · simp only [Act.put, la0, la1, la2, i64_w, i32_w]; rfl
  refine pure_ (i := 7) (N := some 15) (v := ?_) (a' := ?_) #[I,I,I,O,O,I,I,I,O,O,O,O,O,O,O,O,O,O] rfl rfl (by kernel_rfl) (fun _ _ _ h => h) (Or.inl ⟨by rfl, ?_⟩) ?_ ?_; rotate_left; · intro w'; go_simp; with_reducible rfl
  rotate_left; · simp only [Act.put, la0, la1, la2, i64_w, i32_w]; rfl
  refine pure_ (i := 10) (N := some 18) (v := ?_) (a' := ?_) #[I,I,I,O,O,I,I,I,O,O,I,O,O,O,O,O,O,O] rfl rfl (by kernel_rfl) (fun _ _ _ h => h) (Or.inl ⟨by rfl, ?_⟩) ?_ ?_; rotate_left; · intro w'; go_simp; with_reducible rfl
  rotate_left; · simp only [Act.put, la0, la1, la2, i64_w, i32_w]; rfl
  refine pure_ (i := 11) (N := some 19) (v := ?_) (a' := ?_) #[I,I,I,O,O,I,I,I,O,O,I,I,O,O,O,O,O,O] rfl rfl (by kernel_rfl) (fun _ _ _ h => h) (Or.inl ⟨by rfl, ?_⟩) ?_ ?_; rotate_left; · intro w'; go_simp; with_reducible rfl
  rotate_left; · simp only [Act.put, la0, la1, la2, i64_w, i32_w]; rfl
  refine pure_ (i := 12) (N := some 20) (v := ?_) (a' := ?_) #[I,I,I,O,O,I,I,I,O,O,I,I,I,O,O,O,O,O] rfl rfl (by kernel_rfl) (fun _ _ _ h => h) (Or.inl ⟨by rfl, ?_⟩) ?_ ?_; rotate_left; · intro w'; go_simp; with_reducible rfl
  rotate_left; · simp only [Act.put, la0, la1, la2, i64_w, i32_w]; rfl
  refine take_ (i := 3) (N := some 11) (v := ?_) (a' := ?_) #[I,I,I,I,O,I,I,I,O,O,I,I,I,O,O,O,O,O] rfl rfl (by kernel_rfl) (fun _ _ _ h => h) (Or.inl ⟨by rfl, ?_⟩) hHeld ?_ ?_; rotate_left; · rintro w' ⟨s0, s1, s2⟩; go_simp; with_reducible rfl
  rotate_left; · simp only [Act.put, la0, la1, la2, i64_w, i32_w]; rfl
  refine take_ (i := 8) (N := some 16) (v := ?_) (a' := ?_) #[I,I,I,I,O,I,I,I,I,O,I,I,I,O,O,O,O,O] rfl rfl (by kernel_rfl) (fun _ _ _ h => h) (Or.inl ⟨by rfl, ?_⟩) hHeld ?_ ?_; rotate_left; · rintro w' ⟨s0, s1, s2⟩; go_simp; with_reducible rfl
  rotate_left; · simp only [Act.put, la0, la1, la2, i64_w, i32_w]; rfl
  refine take_ (i := 13) (N := some 21) (v := ?_) (a' := ?_) #[I,I,I,I,O,I,I,I,I,O,I,I,I,I,O,O,O,O] rfl rfl (by kernel_rfl) (fun _ _ _ h => h) (Or.inl ⟨by rfl, ?_⟩) hHeld ?_ ?_; rotate_left; · rintro w' ⟨s0, s1, s2⟩; go_simp; with_reducible rfl
  rotate_left; · simp only [Act.put, la0, la1, la2, i64_w, i32_w]; rfl
  refine pure_ (i := 14) (N := some 22) (v := ?_) (a' := ?_) #[I,I,I,I,O,I,I,I,I,O,I,I,I,I,I,O,O,O] rfl rfl (by kernel_rfl) (fun _ _ _ h => h) (Or.inl ⟨by rfl, ?_⟩) ?_ ?_; rotate_left; · intro w'; go_simp; with_reducible rfl
  rotate_left; · simp only [Act.put, la0, la1, la2, i64_w, i32_w]; rfl
  refine pure_ (i := 15) (N := some 23) (v := ?_) (a' := ?_) #[I,I,I,I,O,I,I,I,I,O,I,I,I,I,I,I,O,O] rfl rfl (by kernel_rfl) (fun _ _ _ h => h) (Or.inl ⟨by rfl, ?_⟩) ?_ ?_; rotate_left; · intro w'; go_simp; with_reducible rfl
  rotate_left; · simp only [Act.put, la0, la1, la2, i64_w, i32_w]; rfl
  refine one_ (i := 4) (N := some 12) #[I,I,I,I,I,I,I,I,I,O,I,I,I,I,I,I,O,O] rfl rfl (by kernel_rfl) (by decide) (fun K hK => ?_); refine goes_ Try.func35 (by kernel_rfl) rfl #[.slice none 0 0, .int .u64 T.2.1] (by rfl) rfl rfl (by simp only [List.map_toArray, List.map_cons, List.map_nil]; rfl) ?_
  with_reducible refine (coin_Put.calls k (fun _ => True) (.slice none 0 0) [] T.2.1 l1 w _ HBD.out (Kd.R_nil _ _ _ _ _) H1.out).mono ?_
  rintro e_ w10 ⟨v10, rfl, ho, hb, _⟩; refine ⟨_, rfl, ?_⟩; have HOD := Aside0.mk ho; have n0_ := Aside0.mk (hb); have n1_ := Aside0.mk ((hb.block g GLT.out).trans BK.out); clear HBD BKD; have HBD := n0_; have BKD := n1_; clear n0_ n1_; replace HOD := Aside0.mk (Kd.R_mono HOD.out (fun _ _ => trivial) : Kd.R (Kd.int .u8) 5 _ w.heap.size (fun _ => True) v10 l1); clear ho hb; refine hK.out _ _ ⟨(blk_cell BKD.out 1).trans rfl, (blk_cell BKD.out 2).trans rfl, (blk_cell BKD.out 0).trans rfl⟩ (fun hHeld => ?_); clear hK K; refine norm_ (a' := ?_) ?_ ?_; rotate_left
  · show Act.put _ (some 12) _ = _
    simp only [Act.put, la0, la1, la2, i64_w, i32_w]
    rfl
  refine one_ (i := 9) (N := some 17) #[I,I,I,I,I,I,I,I,I,I,I,I,I,I,I,I,O,O] rfl rfl (by kernel_rfl) (by decide) (fun K hK => ?_); refine goes_ Try.func35 (by kernel_rfl) rfl #[v10, .int .u64 T.2.2] (by rfl) rfl rfl (by simp only [List.map_toArray, List.map_cons, List.map_nil]; rfl) ?_
  with_reducible refine (coin_Put.calls k (fun _ => True) (v10) l1 T.2.2 l2 w _ HBD.out (HOD.out) H2.out).mono ?_
  rintro e_ w11 ⟨v11, rfl, ho, hb, _⟩; refine ⟨_, rfl, ?_⟩; have n0_ := Aside0.mk (ho); have n1_ := Aside0.mk (hb); have n2_ := Aside0.mk ((hb.block g GLT.out).trans BK.out); clear HOD HBD BKD; have HOD := n0_; have HBD := n1_; have BKD := n2_; clear n0_ n1_ n2_; replace HOD := Aside0.mk (Kd.R_mono HOD.out (fun _ _ => trivial) : Kd.R (Kd.int .u8) 5 _ w.heap.size (fun _ => True) v11 l2); clear ho hb; refine hK.out _ _ ⟨(blk_cell BKD.out 1).trans rfl, (blk_cell BKD.out 2).trans rfl, (blk_cell BKD.out 0).trans rfl⟩ (fun hHeld => ?_); clear hK K; refine norm_ (a' := ?_) ?_ ?_; rotate_left
  · show Act.put _ (some 17) _ = _
    simp only [Act.put, la0, la1, la2, i64_w, i32_w]
    rfl
  refine one_ (i := 16) (N := some 24) #[I,I,I,I,I,I,I,I,I,I,I,I,I,I,I,I,I,O] rfl rfl (by kernel_rfl) (by decide) (fun K hK => ?_); refine goes_ Try.func35 (by kernel_rfl) rfl #[v11, .int .u64 (T.1.length : Int)] (by rfl) rfl rfl (by simp only [List.map_toArray, List.map_cons, List.map_nil]; rfl) ?_
  with_reducible refine (coin_Put.calls k (fun _ => True) (v11) l2 (T.1.length : Int) l3 w _ HBD.out (HOD.out) H3.out).mono ?_
  rintro e_ w12 ⟨v12, rfl, ho, hb, _⟩; refine ⟨_, rfl, ?_⟩; have n0_ := Aside0.mk (ho); have n1_ := Aside0.mk (hb); have n2_ := Aside0.mk ((hb.block g GLT.out).trans BK.out); clear HOD HBD BKD; have HOD := n0_; have HBD := n1_; have BKD := n2_; clear n0_ n1_ n2_; replace HOD := Aside0.mk (Kd.R_mono HOD.out (fun _ _ => trivial) : Kd.R (Kd.int .u8) 5 _ w.heap.size (fun _ => True) v12 l3); clear ho hb; refine hK.out _ _ ⟨(blk_cell BKD.out 1).trans rfl, (blk_cell BKD.out 2).trans rfl, (blk_cell BKD.out 0).trans rfl⟩ (fun hHeld => ?_); clear hK K; refine norm_ (a' := ?_) ?_ ?_; rotate_left
  · show Act.put _ (some 24) _ = _
    simp only [Act.put, la0, la1, la2, i64_w, i32_w]
    rfl
  refine pure_ (i := 17) (N := some 3) (v := ?_) (a' := ?_) #[I,I,I,I,I,I,I,I,I,I,I,I,I,I,I,I,I,I] rfl rfl (by kernel_rfl) (fun _ _ _ h => h) (Or.inl ⟨by rfl, ?_⟩) ?_ ?_; rotate_left; · intro w'; go_simp; with_reducible rfl
  rotate_left; · simp only [Act.put, la0, la1, la2, i64_w, i32_w]; rfl
  refine done_ (by kernel_rfl) ?_; clear t0 wc hHeld; have t0 : w12.cell? ⟨g, 0, none⟩ = some (.slice A T.1.length c) := (blk_cell BKD.out 0).trans rfl
  go_wp2_with (fail)
  clear t0
  go_loopg [3, 30] T.1.length (fun kx s3 s30 wr => ∃ (j : Nat) (v : Value) (l : List Int), v = s3 ∧ s30 = .int .i64 j ∧ j ≤ T.1.length ∧ T.1.length - j ≤ kx ∧ Aside0 (Kd.R (Kd.int .u8) 5 wr w.heap.size (fun _ => True) v l) ∧ Aside0 (table_Table_Encode.putAll k l ((T.1.drop j).flatMap table_Table_Encode.rowNums) = some r) ∧ Aside0 (Below w.heap.size w wr))
  case atStart => exact ⟨0, v12, l3, rfl, rfl, Nat.zero_le _, Nat.le_refl _, HOD, HF, HBD⟩
  case round =>
    clear HOD HF HBD BKD; obtain ⟨j, v, l, rfl, rfl, hj, hgas, HO, HF, HB⟩ := hrel
    by_cases hlt : j < T.1.length
    · have p1 : decide ((j : Int) < (T.1.length : Int)) = true := decide_eq_true (by omega)
      have p2 : decide (0 ≤ (j : Int)) = true := decide_eq_true (by omega); obtain ⟨ad, e0, hx0, hx1, hx2, hx3, hx4, hx5, hx6, hx7, hx8, hx9⟩ := at_T43 (Kd.C_below HC.out HB.out) (j : Int) (by omega) (by omega); cases e0
      simp only [Int.toNat_natCast] at hx0 hx1 hx2 hx3 hx4 hx5 hx6 hx7 hx8 hx9
      have hokx := HOK.out (rd_T43 T.1 (j : Int)) (by
        rw [rd_cast T.1 j hlt]
        exact List.getElem_mem hlt)
      have hf := HF.out; rw [table_Table_Encode.flat_drop T.1 j hlt] at hf
      obtain ⟨X, hX⟩ : ∃ X : S43, X = rd_T43 T.1 (j : Int) := ⟨_, rfl⟩
      rw [← hX] at hx0 hx1 hx2 hx3 hx4 hx5 hx6 hx7 hx8 hx9 hokx hf; clear hX HF; obtain ⟨o1, o2, o3, o4, o5, o6, o7⟩ := hokx; obtain ⟨m1, g1, hf⟩ := table_Table_Encode.putAll_cons hf; obtain ⟨m2, g2, hf⟩ := table_Table_Encode.putAll_cons hf; obtain ⟨m3, g3, hf⟩ := table_Table_Encode.putAll_cons hf; obtain ⟨m4, g4, hf⟩ := table_Table_Encode.putAll_cons hf; have G1 := Aside0.mk g1; have G2 := Aside0.mk g2; have G3 := Aside0.mk g3; have G4 := Aside0.mk g4; have HF := Aside0.mk (show table_Table_Encode.putAll k m4 ((if X.f1 = true then [X.f2.f1 + 1, X.f2.f2, X.f2.f3] else [0]) ++ (T.1.drop (j + 1)).flatMap table_Table_Encode.rowNums) = some r from hf); clear g1 g2 g3 g4 hf
      go_upto_region 7 with (fail)
      obtain ⟨g5, hg5⟩ : ∃ x : Nat, x = wr.heap.size := ⟨_, rfl⟩
      obtain ⟨V, hV⟩ : ∃ x : World, x = wr.alloc (.cells #[.int .u32 X.f0.f0, .int .u8 X.f0.f1, .bool X.f1, .int .u32 X.f2.f0.f0, .int .u8 X.f2.f0.f1, .int .i64 X.f2.f1, .int .u16 X.f2.f2, .int .u16 X.f2.f3, .int .u16 X.f3.f0, .int .u16 X.f3.f1] 43 (0, 0)) := ⟨_, rfl⟩
      rw [← hV, ← hg5]; have BK5 := Aside0.mk (show V.heap[g5]? = some (.cells #[.int .u32 X.f0.f0, .int .u8 X.f0.f1, .bool X.f1, .int .u32 X.f2.f0.f0, .int .u8 X.f2.f0.f1, .int .i64 X.f2.f1, .int .u16 X.f2.f2, .int .u16 X.f2.f3, .int .u16 X.f3.f0, .int .u16 X.f3.f1] 43 (0, 0)) from by rw [hV, hg5]; exact heap_alloc_new _ _)
      have hbv : Below wr.heap.size wr V := by rw [hV]; exact below_alloc (Below.refl _ _) _
      have BK5D := Aside0.mk (blk_drew BK5.out); have HOD := Aside0.mk (Kd.R_drew (Kd.R_below HO.out hbv)); have HBD := Aside0.mk (below_drew1 (below_step HB.out hbv)); clear hV hg5 BK5 HO HB hbv hx0 hx1 hx2 hx3 hx4 hx5 hx6 hx7 hx8 hx9
      have wq1 : IntKind.u64.wrap X.f0.f0 = X.f0.f0 := by show (_ % 18446744073709551616 : Int) = _; omega
      have wq2 : IntKind.u64.wrap X.f0.f1 = X.f0.f1 := by show (_ % 18446744073709551616 : Int) = _; omega
      refine start_ (n := 12) (S := fun w' => w'.cell? ⟨g5, 0, none⟩ = some (.int .u32 X.f0.f0) ∧ w'.cell? ⟨g5, 1, none⟩ = some (.int .u8 X.f0.f1)) (ds := []) #[O,O,O,O,O,O,O,O,O,O,O,O] (by kernel_rfl) rfl rfl ⟨(blk_cell BK5D.out 0).trans rfl, (blk_cell BK5D.out 1).trans rfl⟩ (fun hHeld => ?_); generalize V.drew = wd7 at BK5D HOD HBD hHeld ⊢; refine pure_ (i := 0) (N := some 34) (v := ?_) (a' := ?_) #[I,O,O,O,O,O,O,O,O,O,O,O] rfl rfl (by kernel_rfl) (fun _ _ _ h => h) (Or.inl ⟨by rfl, ?_⟩) ?_ ?_; rotate_left; · intro w'; go_simp; with_reducible rfl
      rotate_left; · simp only [Act.put, la0, la1, la2, i64_w, i32_w]; rfl
      refine pure_ (i := 1) (N := some 35) (v := ?_) (a' := ?_) #[I,I,O,O,O,O,O,O,O,O,O,O] rfl rfl (by kernel_rfl) (fun _ _ _ h => h) (Or.inl ⟨by rfl, ?_⟩) ?_ ?_; rotate_left; · intro w'; go_simp; with_reducible rfl
      rotate_left; · simp only [Act.put, la0, la1, la2, i64_w, i32_w]; rfl
      refine pure_ (i := 2) (N := some 36) (v := ?_) (a' := ?_) #[I,I,I,O,O,O,O,O,O,O,O,O] rfl rfl (by kernel_rfl) (fun _ _ _ h => h) (Or.inl ⟨by rfl, ?_⟩) ?_ ?_; rotate_left; · intro w'; go_simp; with_reducible rfl
      rotate_left; · simp only [Act.put, la0, la1, la2, i64_w, i32_w]; rfl
      refine pure_ (i := 6) (N := some 40) (v := ?_) (a' := ?_) #[I,I,I,O,O,O,I,O,O,O,O,O] rfl rfl (by kernel_rfl) (fun _ _ _ h => h) (Or.inl ⟨by rfl, ?_⟩) ?_ ?_; rotate_left; · intro w'; go_simp; with_reducible rfl
      rotate_left; · simp only [Act.put, la0, la1, la2, i64_w, i32_w]; rfl
      refine pure_ (i := 7) (N := some 41) (v := ?_) (a' := ?_) #[I,I,I,O,O,O,I,I,O,O,O,O] rfl rfl (by kernel_rfl) (fun _ _ _ h => h) (Or.inl ⟨by rfl, ?_⟩) ?_ ?_; rotate_left; · intro w'; go_simp; with_reducible rfl
      rotate_left; · simp only [Act.put, la0, la1, la2, i64_w, i32_w]; rfl
      refine take_ (i := 3) (N := some 37) (v := ?_) (a' := ?_) #[I,I,I,I,O,O,I,I,O,O,O,O] rfl rfl (by kernel_rfl) (fun _ _ _ h => h) (Or.inl ⟨by rfl, ?_⟩) hHeld ?_ ?_; rotate_left; · rintro w' ⟨s0, s1⟩; go_simp; with_reducible rfl
      rotate_left; · simp only [Act.put, la0, la1, la2, i64_w, i32_w]; rfl
      refine pure_ (i := 4) (N := some 38) (v := ?_) (a' := ?_) #[I,I,I,I,I,O,I,I,O,O,O,O] rfl rfl (by kernel_rfl) (fun _ _ _ h => h) (Or.inl ⟨by rfl, ?_⟩) ?_ ?_; rotate_left; · intro w'; go_simp; with_reducible rfl
      rotate_left; · simp only [Act.put, la0, la1, la2, i64_w, i32_w]; rfl
      refine take_ (i := 8) (N := some 42) (v := ?_) (a' := ?_) #[I,I,I,I,I,O,I,I,I,O,O,O] rfl rfl (by kernel_rfl) (fun _ _ _ h => h) (Or.inl ⟨by rfl, ?_⟩) hHeld ?_ ?_; rotate_left; · rintro w' ⟨s0, s1⟩; go_simp; with_reducible rfl
      rotate_left; · simp only [Act.put, la0, la1, la2, i64_w, i32_w]; rfl
      refine pure_ (i := 9) (N := some 43) (v := ?_) (a' := ?_) #[I,I,I,I,I,O,I,I,I,I,O,O] rfl rfl (by kernel_rfl) (fun _ _ _ h => h) (Or.inl ⟨by rfl, ?_⟩) ?_ ?_; rotate_left; · intro w'; go_simp; with_reducible rfl
      rotate_left; · simp only [Act.put, la0, la1, la2, i64_w, i32_w]; rfl
      refine one_ (i := 5) (N := some 39) #[I,I,I,I,I,I,I,I,I,I,O,O] rfl rfl (by kernel_rfl) (by decide) (fun K hK => ?_); refine goes_ Try.func35 (by kernel_rfl) rfl #[v, .int .u64 X.f0.f0] (by rfl) rfl rfl (by simp only [List.map_toArray, List.map_cons, List.map_nil]; rfl) ?_
      with_reducible refine (coin_Put.calls k (fun k_ => k_ ≠ g5) (v) l (X.f0.f0) m1 w _ HBD.out (table_Table_Encode.own_ne5 HOD.out BK5D.out (by decide)) G1.out).mono ?_
      rintro e_ w21 ⟨v21, rfl, ho, hb, hkp⟩; refine ⟨_, rfl, ?_⟩; have n0_ := Aside0.mk (ho); have n1_ := Aside0.mk (hb); have n2_ := Aside0.mk (blk_kept BK5D.out hkp (fun h => h rfl)); clear HOD HBD BK5D; have HOD := n0_; have HBD := n1_; have BK5D := n2_; clear n0_ n1_ n2_; replace HOD := Aside0.mk (Kd.R_mono HOD.out (fun _ _ => trivial) : Kd.R (Kd.int .u8) 5 _ w.heap.size (fun _ => True) v21 m1); clear ho hb hkp; refine hK.out _ _ ⟨(blk_cell BK5D.out 0).trans rfl, (blk_cell BK5D.out 1).trans rfl⟩ (fun hHeld => ?_); clear hK K; refine norm_ (a' := ?_) ?_ ?_; rotate_left
      · show Act.put _ (some 39) _ = _
        simp only [Act.put, la0, la1, la2, i64_w, i32_w]
        rfl
      refine one_ (i := 10) (N := some 44) #[I,I,I,I,I,I,I,I,I,I,I,O] rfl rfl (by kernel_rfl) (by decide) (fun K hK => ?_); refine goes_ Try.func35 (by kernel_rfl) rfl #[v21, .int .u64 X.f0.f1] (by rfl) rfl rfl (by simp only [List.map_toArray, List.map_cons, List.map_nil]; rfl) ?_
      with_reducible refine (coin_Put.calls k (fun k_ => k_ ≠ g5) (v21) m1 (X.f0.f1) m2 w _ HBD.out (table_Table_Encode.own_ne5 HOD.out BK5D.out (by decide)) G2.out).mono ?_
      rintro e_ w22 ⟨v22, rfl, ho, hb, hkp⟩; refine ⟨_, rfl, ?_⟩; have n0_ := Aside0.mk (ho); have n1_ := Aside0.mk (hb); have n2_ := Aside0.mk (blk_kept BK5D.out hkp (fun h => h rfl)); clear HOD HBD BK5D; have HOD := n0_; have HBD := n1_; have BK5D := n2_; clear n0_ n1_ n2_; replace HOD := Aside0.mk (Kd.R_mono HOD.out (fun _ _ => trivial) : Kd.R (Kd.int .u8) 5 _ w.heap.size (fun _ => True) v22 m2); clear ho hb hkp; refine hK.out _ _ ⟨(blk_cell BK5D.out 0).trans rfl, (blk_cell BK5D.out 1).trans rfl⟩ (fun hHeld => ?_); clear hK K; refine norm_ (a' := ?_) ?_ ?_; rotate_left
      · show Act.put _ (some 44) _ = _
        simp only [Act.put, la0, la1, la2, i64_w, i32_w]
        rfl
      refine pure_ (i := 11) (N := some 3) (v := ?_) (a' := ?_) #[I,I,I,I,I,I,I,I,I,I,I,I] rfl rfl (by kernel_rfl) (fun _ _ _ h => h) (Or.inl ⟨by rfl, ?_⟩) ?_ ?_; rotate_left; · intro w'; go_simp; with_reducible rfl
      rotate_left; · simp only [Act.put, la0, la1, la2, i64_w, i32_w]; rfl
      refine done_ (by kernel_rfl) ?_; clear hHeld wq1 wq2
      go_upto_region 8 with (fail)
      have n0_ := Aside0.mk (blk_drew BK5D.out); have n1_ := Aside0.mk (Kd.R_drew HOD.out); have n2_ := Aside0.mk (below_drew1 HBD.out); clear BK5D HOD HBD; have BK5D := n0_; have HOD := n1_; have HBD := n2_; clear n0_ n1_ n2_
      have wq1 : IntKind.u64.wrap X.f3.f0 = X.f3.f0 := by show (_ % 18446744073709551616 : Int) = _; omega
      have wq2 : IntKind.u64.wrap X.f3.f1 = X.f3.f1 := by show (_ % 18446744073709551616 : Int) = _; omega
      refine start_ (n := 12) (S := fun w' => w'.cell? ⟨g5, 8, none⟩ = some (.int .u16 X.f3.f0) ∧ w'.cell? ⟨g5, 9, none⟩ = some (.int .u16 X.f3.f1)) (ds := []) #[O,O,O,O,O,O,O,O,O,O,O,O] (by kernel_rfl) rfl rfl ⟨(blk_cell BK5D.out 8).trans rfl, (blk_cell BK5D.out 9).trans rfl⟩ (fun hHeld => ?_); generalize w22.drew = wd8 at BK5D HOD HBD hHeld ⊢; refine pure_ (i := 0) (N := some 45) (v := ?_) (a' := ?_) #[I,O,O,O,O,O,O,O,O,O,O,O] rfl rfl (by kernel_rfl) (fun _ _ _ h => h) (Or.inl ⟨by rfl, ?_⟩) ?_ ?_; rotate_left; · intro w'; go_simp; with_reducible rfl
      rotate_left; · simp only [Act.put, la0, la1, la2, i64_w, i32_w]; rfl
      refine pure_ (i := 1) (N := some 46) (v := ?_) (a' := ?_) #[I,I,O,O,O,O,O,O,O,O,O,O] rfl rfl (by kernel_rfl) (fun _ _ _ h => h) (Or.inl ⟨by rfl, ?_⟩) ?_ ?_; rotate_left; · intro w'; go_simp; with_reducible rfl
      rotate_left; · simp only [Act.put, la0, la1, la2, i64_w, i32_w]; rfl
      refine pure_ (i := 2) (N := some 47) (v := ?_) (a' := ?_) #[I,I,I,O,O,O,O,O,O,O,O,O] rfl rfl (by kernel_rfl) (fun _ _ _ h => h) (Or.inl ⟨by rfl, ?_⟩) ?_ ?_; rotate_left; · intro w'; go_simp; with_reducible rfl
      rotate_left; · simp only [Act.put, la0, la1, la2, i64_w, i32_w]; rfl
      refine pure_ (i := 6) (N := some 51) (v := ?_) (a' := ?_) #[I,I,I,O,O,O,I,O,O,O,O,O] rfl rfl (by kernel_rfl) (fun _ _ _ h => h) (Or.inl ⟨by rfl, ?_⟩) ?_ ?_; rotate_left; · intro w'; go_simp; with_reducible rfl
      rotate_left; · simp only [Act.put, la0, la1, la2, i64_w, i32_w]; rfl
      refine pure_ (i := 7) (N := some 52) (v := ?_) (a' := ?_) #[I,I,I,O,O,O,I,I,O,O,O,O] rfl rfl (by kernel_rfl) (fun _ _ _ h => h) (Or.inl ⟨by rfl, ?_⟩) ?_ ?_; rotate_left; · intro w'; go_simp; with_reducible rfl
      rotate_left; · simp only [Act.put, la0, la1, la2, i64_w, i32_w]; rfl
      refine take_ (i := 3) (N := some 48) (v := ?_) (a' := ?_) #[I,I,I,I,O,O,I,I,O,O,O,O] rfl rfl (by kernel_rfl) (fun _ _ _ h => h) (Or.inl ⟨by rfl, ?_⟩) hHeld ?_ ?_; rotate_left; · rintro w' ⟨s0, s1⟩; go_simp; with_reducible rfl
      rotate_left; · simp only [Act.put, la0, la1, la2, i64_w, i32_w]; rfl
      refine pure_ (i := 4) (N := some 49) (v := ?_) (a' := ?_) #[I,I,I,I,I,O,I,I,O,O,O,O] rfl rfl (by kernel_rfl) (fun _ _ _ h => h) (Or.inl ⟨by rfl, ?_⟩) ?_ ?_; rotate_left; · intro w'; go_simp; with_reducible rfl
      rotate_left; · simp only [Act.put, la0, la1, la2, i64_w, i32_w]; rfl
      refine take_ (i := 8) (N := some 53) (v := ?_) (a' := ?_) #[I,I,I,I,I,O,I,I,I,O,O,O] rfl rfl (by kernel_rfl) (fun _ _ _ h => h) (Or.inl ⟨by rfl, ?_⟩) hHeld ?_ ?_; rotate_left; · rintro w' ⟨s0, s1⟩; go_simp; with_reducible rfl
      rotate_left; · simp only [Act.put, la0, la1, la2, i64_w, i32_w]; rfl
      refine pure_ (i := 9) (N := some 54) (v := ?_) (a' := ?_) #[I,I,I,I,I,O,I,I,I,I,O,O] rfl rfl (by kernel_rfl) (fun _ _ _ h => h) (Or.inl ⟨by rfl, ?_⟩) ?_ ?_; rotate_left; · intro w'; go_simp; with_reducible rfl
      rotate_left; · simp only [Act.put, la0, la1, la2, i64_w, i32_w]; rfl
      refine one_ (i := 5) (N := some 50) #[I,I,I,I,I,I,I,I,I,I,O,O] rfl rfl (by kernel_rfl) (by decide) (fun K hK => ?_); refine goes_ Try.func35 (by kernel_rfl) rfl #[v22, .int .u64 X.f3.f0] (by rfl) rfl rfl (by simp only [List.map_toArray, List.map_cons, List.map_nil]; rfl) ?_
      with_reducible refine (coin_Put.calls k (fun k_ => k_ ≠ g5) (v22) m2 (X.f3.f0) m3 w _ HBD.out (table_Table_Encode.own_ne5 HOD.out BK5D.out (by decide)) G3.out).mono ?_
      rintro e_ w23 ⟨v23, rfl, ho, hb, hkp⟩; refine ⟨_, rfl, ?_⟩; have n0_ := Aside0.mk (ho); have n1_ := Aside0.mk (hb); have n2_ := Aside0.mk (blk_kept BK5D.out hkp (fun h => h rfl)); clear HOD HBD BK5D; have HOD := n0_; have HBD := n1_; have BK5D := n2_; clear n0_ n1_ n2_; replace HOD := Aside0.mk (Kd.R_mono HOD.out (fun _ _ => trivial) : Kd.R (Kd.int .u8) 5 _ w.heap.size (fun _ => True) v23 m3); clear ho hb hkp; refine hK.out _ _ ⟨(blk_cell BK5D.out 8).trans rfl, (blk_cell BK5D.out 9).trans rfl⟩ (fun hHeld => ?_); clear hK K; refine norm_ (a' := ?_) ?_ ?_; rotate_left
      · show Act.put _ (some 50) _ = _
        simp only [Act.put, la0, la1, la2, i64_w, i32_w]
        rfl
      refine one_ (i := 10) (N := some 55) #[I,I,I,I,I,I,I,I,I,I,I,O] rfl rfl (by kernel_rfl) (by decide) (fun K hK => ?_); refine goes_ Try.func35 (by kernel_rfl) rfl #[v23, .int .u64 X.f3.f1] (by rfl) rfl rfl (by simp only [List.map_toArray, List.map_cons, List.map_nil]; rfl) ?_
      with_reducible refine (coin_Put.calls k (fun k_ => k_ ≠ g5) (v23) m3 (X.f3.f1) m4 w _ HBD.out (table_Table_Encode.own_ne5 HOD.out BK5D.out (by decide)) G4.out).mono ?_
      rintro e_ w24 ⟨v24, rfl, ho, hb, hkp⟩; refine ⟨_, rfl, ?_⟩; have n0_ := Aside0.mk (ho); have n1_ := Aside0.mk (hb); have n2_ := Aside0.mk (blk_kept BK5D.out hkp (fun h => h rfl)); clear HOD HBD BK5D; have HOD := n0_; have HBD := n1_; have BK5D := n2_; clear n0_ n1_ n2_; replace HOD := Aside0.mk (Kd.R_mono HOD.out (fun _ _ => trivial) : Kd.R (Kd.int .u8) 5 _ w.heap.size (fun _ => True) v24 m4); clear ho hb hkp; refine hK.out _ _ ⟨(blk_cell BK5D.out 8).trans rfl, (blk_cell BK5D.out 9).trans rfl⟩ (fun hHeld => ?_); clear hK K; refine norm_ (a' := ?_) ?_ ?_; rotate_left
      · show Act.put _ (some 55) _ = _
        simp only [Act.put, la0, la1, la2, i64_w, i32_w]
        rfl
      refine pure_ (i := 11) (N := some 3) (v := ?_) (a' := ?_) #[I,I,I,I,I,I,I,I,I,I,I,I] rfl rfl (by kernel_rfl) (fun _ _ _ h => h) (Or.inl ⟨by rfl, ?_⟩) ?_ ?_; rotate_left; · intro w'; go_simp; with_reducible rfl
      rotate_left; · simp only [Act.put, la0, la1, la2, i64_w, i32_w]; rfl
      refine done_ (by kernel_rfl) ?_; clear hHeld wq1 wq2
      by_cases hh : X.f1 = true
      · have hf := HF.out
        rw [if_pos hh] at hf; obtain ⟨m5, g5', hf⟩ := table_Table_Encode.putAll_cons hf; obtain ⟨m6, g6', hf⟩ := table_Table_Encode.putAll_cons hf; obtain ⟨m7, g7', hf⟩ := table_Table_Encode.putAll_cons hf; have G5 := Aside0.mk g5'; have G6 := Aside0.mk g6'; have G7 := Aside0.mk g7'; have HF2 := Aside0.mk (show table_Table_Encode.putAll k m7 ((T.1.drop (j + 1)).flatMap table_Table_Encode.rowNums) = some r from hf); clear hf g5' g6' g7' HF; have z2 : w24.cell? ⟨g5, 2, none⟩ = some (.bool X.f1) := (blk_cell BK5D.out 2).trans rfl; rw [hh] at z2
        go_upto_region 11 with (fail)
        clear z2 hh
        have wq1 : IntKind.u64.wrap X.f2.f1 = X.f2.f1 := by show (_ % 18446744073709551616 : Int) = _; omega
        have wq2 : IntKind.u64.wrap (X.f2.f1 + 1) = X.f2.f1 + 1 := by show (_ % 18446744073709551616 : Int) = _; omega
        have n0_ := Aside0.mk (blk_drew BK5D.out); have n1_ := Aside0.mk (Kd.R_drew HOD.out); have n2_ := Aside0.mk (below_drew1 HBD.out); clear BK5D HOD HBD; have BK5D := n0_; have HOD := n1_; have HBD := n2_; clear n0_ n1_ n2_
        have wq3 : IntKind.u64.wrap X.f2.f2 = X.f2.f2 := by show (_ % 18446744073709551616 : Int) = _; omega
        refine start_ (n := 13) (S := fun w' => w'.cell? ⟨g5, 5, none⟩ = some (.int .i64 X.f2.f1) ∧ w'.cell? ⟨g5, 6, none⟩ = some (.int .u16 X.f2.f2)) (ds := []) #[O,O,O,O,O,O,O,O,O,O,O,O,O] (by kernel_rfl) rfl rfl ⟨(blk_cell BK5D.out 5).trans rfl, (blk_cell BK5D.out 6).trans rfl⟩ (fun hHeld => ?_); generalize w24.drew = wd11 at BK5D HOD HBD hHeld ⊢; refine pure_ (i := 0) (N := some 61) (v := ?_) (a' := ?_) #[I,O,O,O,O,O,O,O,O,O,O,O,O] rfl rfl (by kernel_rfl) (fun _ _ _ h => h) (Or.inl ⟨by rfl, ?_⟩) ?_ ?_; rotate_left; · intro w'; go_simp; with_reducible rfl
        rotate_left; · simp only [Act.put, la0, la1, la2, i64_w, i32_w]; rfl
        refine pure_ (i := 1) (N := some 62) (v := ?_) (a' := ?_) #[I,I,O,O,O,O,O,O,O,O,O,O,O] rfl rfl (by kernel_rfl) (fun _ _ _ h => h) (Or.inl ⟨by rfl, ?_⟩) ?_ ?_; rotate_left; · intro w'; go_simp; with_reducible rfl
        rotate_left; · simp only [Act.put, la0, la1, la2, i64_w, i32_w]; rfl
        refine pure_ (i := 2) (N := some 63) (v := ?_) (a' := ?_) #[I,I,I,O,O,O,O,O,O,O,O,O,O] rfl rfl (by kernel_rfl) (fun _ _ _ h => h) (Or.inl ⟨by rfl, ?_⟩) ?_ ?_; rotate_left; · intro w'; go_simp; with_reducible rfl
        rotate_left; · simp only [Act.put, la0, la1, la2, i64_w, i32_w]; rfl
        refine pure_ (i := 7) (N := some 68) (v := ?_) (a' := ?_) #[I,I,I,O,O,O,O,I,O,O,O,O,O] rfl rfl (by kernel_rfl) (fun _ _ _ h => h) (Or.inl ⟨by rfl, ?_⟩) ?_ ?_; rotate_left; · intro w'; go_simp; with_reducible rfl
        rotate_left; · simp only [Act.put, la0, la1, la2, i64_w, i32_w]; rfl
        refine pure_ (i := 8) (N := some 69) (v := ?_) (a' := ?_) #[I,I,I,O,O,O,O,I,I,O,O,O,O] rfl rfl (by kernel_rfl) (fun _ _ _ h => h) (Or.inl ⟨by rfl, ?_⟩) ?_ ?_; rotate_left; · intro w'; go_simp; with_reducible rfl
        rotate_left; · simp only [Act.put, la0, la1, la2, i64_w, i32_w]; rfl
        refine take_ (i := 3) (N := some 64) (v := ?_) (a' := ?_) #[I,I,I,I,O,O,O,I,I,O,O,O,O] rfl rfl (by kernel_rfl) (fun _ _ _ h => h) (Or.inl ⟨by rfl, ?_⟩) hHeld ?_ ?_; rotate_left; · rintro w' ⟨s0, s1⟩; go_simp; with_reducible rfl
        rotate_left; · simp only [Act.put, la0, la1, la2, i64_w, i32_w]; rfl
        refine pure_ (i := 4) (N := some 65) (v := ?_) (a' := ?_) #[I,I,I,I,I,O,O,I,I,O,O,O,O] rfl rfl (by kernel_rfl) (fun _ _ _ h => h) (Or.inl ⟨by rfl, ?_⟩) ?_ ?_; rotate_left; · intro w'; go_simp; with_reducible rfl
        rotate_left; · simp only [Act.put, la0, la1, la2, i64_w, i32_w]; rfl
        refine pure_ (i := 5) (N := some 66) (v := ?_) (a' := ?_) #[I,I,I,I,I,I,O,I,I,O,O,O,O] rfl rfl (by kernel_rfl) (fun _ _ _ h => h) (Or.inl ⟨by rfl, ?_⟩) ?_ ?_; rotate_left; · intro w'; go_simp; with_reducible rfl
        rotate_left; · simp only [Act.put, la0, la1, la2, i64_w, i32_w]; rfl
        refine take_ (i := 9) (N := some 70) (v := ?_) (a' := ?_) #[I,I,I,I,I,I,O,I,I,I,O,O,O] rfl rfl (by kernel_rfl) (fun _ _ _ h => h) (Or.inl ⟨by rfl, ?_⟩) hHeld ?_ ?_; rotate_left; · rintro w' ⟨s0, s1⟩; go_simp; with_reducible rfl
        rotate_left; · simp only [Act.put, la0, la1, la2, i64_w, i32_w]; rfl
        refine pure_ (i := 10) (N := some 71) (v := ?_) (a' := ?_) #[I,I,I,I,I,I,O,I,I,I,I,O,O] rfl rfl (by kernel_rfl) (fun _ _ _ h => h) (Or.inl ⟨by rfl, ?_⟩) ?_ ?_; rotate_left; · intro w'; go_simp; with_reducible rfl
        rotate_left; · simp only [Act.put, la0, la1, la2, i64_w, i32_w]; rfl
        refine one_ (i := 6) (N := some 67) #[I,I,I,I,I,I,I,I,I,I,I,O,O] rfl rfl (by kernel_rfl) (by decide) (fun K hK => ?_); refine goes_ Try.func35 (by kernel_rfl) rfl #[v24, .int .u64 (X.f2.f1 + 1)] (by rfl) rfl rfl (by simp only [List.map_toArray, List.map_cons, List.map_nil]; rfl) ?_
        with_reducible refine (coin_Put.calls k (fun k_ => k_ ≠ g5) (v24) m4 ((X.f2.f1 + 1)) m5 w _ HBD.out (table_Table_Encode.own_ne5 HOD.out BK5D.out (by decide)) G5.out).mono ?_
        rintro e_ w25 ⟨v25, rfl, ho, hb, hkp⟩; refine ⟨_, rfl, ?_⟩; have n0_ := Aside0.mk (ho); have n1_ := Aside0.mk (hb); have n2_ := Aside0.mk (blk_kept BK5D.out hkp (fun h => h rfl)); clear HOD HBD BK5D; have HOD := n0_; have HBD := n1_; have BK5D := n2_; clear n0_ n1_ n2_; replace HOD := Aside0.mk (Kd.R_mono HOD.out (fun _ _ => trivial) : Kd.R (Kd.int .u8) 5 _ w.heap.size (fun _ => True) v25 m5); clear ho hb hkp; refine hK.out _ _ ⟨(blk_cell BK5D.out 5).trans rfl, (blk_cell BK5D.out 6).trans rfl⟩ (fun hHeld => ?_); clear hK K; refine norm_ (a' := ?_) ?_ ?_; rotate_left
        · show Act.put _ (some 67) _ = _
          simp only [Act.put, la0, la1, la2, i64_w, i32_w]
          rfl
        refine one_ (i := 11) (N := some 72) #[I,I,I,I,I,I,I,I,I,I,I,I,O] rfl rfl (by kernel_rfl) (by decide) (fun K hK => ?_); refine goes_ Try.func35 (by kernel_rfl) rfl #[v25, .int .u64 X.f2.f2] (by rfl) rfl rfl (by simp only [List.map_toArray, List.map_cons, List.map_nil]; rfl) ?_
        with_reducible refine (coin_Put.calls k (fun k_ => k_ ≠ g5) (v25) m5 (X.f2.f2) m6 w _ HBD.out (table_Table_Encode.own_ne5 HOD.out BK5D.out (by decide)) G6.out).mono ?_
        rintro e_ w26 ⟨v26, rfl, ho, hb, hkp⟩; refine ⟨_, rfl, ?_⟩; have n0_ := Aside0.mk (ho); have n1_ := Aside0.mk (hb); have n2_ := Aside0.mk (blk_kept BK5D.out hkp (fun h => h rfl)); clear HOD HBD BK5D; have HOD := n0_; have HBD := n1_; have BK5D := n2_; clear n0_ n1_ n2_; replace HOD := Aside0.mk (Kd.R_mono HOD.out (fun _ _ => trivial) : Kd.R (Kd.int .u8) 5 _ w.heap.size (fun _ => True) v26 m6); clear ho hb hkp; refine hK.out _ _ ⟨(blk_cell BK5D.out 5).trans rfl, (blk_cell BK5D.out 6).trans rfl⟩ (fun hHeld => ?_); clear hK K; refine norm_ (a' := ?_) ?_ ?_; rotate_left
        · show Act.put _ (some 72) _ = _
          simp only [Act.put, la0, la1, la2, i64_w, i32_w]
          rfl
        refine pure_ (i := 12) (N := some 3) (v := ?_) (a' := ?_) #[I,I,I,I,I,I,I,I,I,I,I,I,I] rfl rfl (by kernel_rfl) (fun _ _ _ h => h) (Or.inl ⟨by rfl, ?_⟩) ?_ ?_; rotate_left; · intro w'; go_simp; with_reducible rfl
        rotate_left; · simp only [Act.put, la0, la1, la2, i64_w, i32_w]; rfl
        refine done_ (by kernel_rfl) ?_; clear hHeld wq1 wq2 wq3; have z7 : w26.cell? ⟨g5, 7, none⟩ = some (.int .u16 X.f2.f3) := (blk_cell BK5D.out 7).trans rfl
        go_wp2_with (fail)
        refine (coin_Put.calls k (fun k_ => k_ ≠ g5) (v26) m6 (X.f2.f3) m7 w _ HBD.out (table_Table_Encode.own_ne5 HOD.out BK5D.out (by decide)) G7.out).mono ?_; rintro e_ w27 ⟨v27, rfl, ho, hb, hkp⟩; have n0_ := Aside0.mk (ho); have n1_ := Aside0.mk (hb); have n2_ := Aside0.mk (blk_kept BK5D.out hkp (fun h => h rfl)); clear HOD HBD BK5D; have HOD := n0_; have HBD := n1_; have BK5D := n2_; clear n0_ n1_ n2_; replace HOD := Aside0.mk (Kd.R_mono HOD.out (fun _ _ => trivial) : Kd.R (Kd.int .u8) 5 _ w.heap.size (fun _ => True) v27 m7); clear ho hb hkp; clear z7
        go_wp2_with (fail)
        go_roundg (T.1.length - (j + 1))
        case measure => omega
        case rel => exact ⟨j + 1, v27, m7, rfl, by go_num, by omega, Nat.le_refl _, HOD, HF2, HBD⟩
      · have hf := HF.out
        rw [if_neg hh] at hf; obtain ⟨m5, g5', hf⟩ := table_Table_Encode.putAll_cons hf; have G5 := Aside0.mk g5'; have HF2 := Aside0.mk (show table_Table_Encode.putAll k m5 ((T.1.drop (j + 1)).flatMap table_Table_Encode.rowNums) = some r from hf); clear hf g5' HF
        have hh2 : X.f1 = false := by simpa using hh
        have z2 : w24.cell? ⟨g5, 2, none⟩ = some (.bool X.f1) := (blk_cell BK5D.out 2).trans rfl; rw [hh2] at z2; clear hh hh2
        go_wp2_with (fail)
        refine (coin_Put.calls k (fun k_ => k_ ≠ g5) (v24) m4 (0) m5 w _ HBD.out (table_Table_Encode.own_ne5 HOD.out BK5D.out (by decide)) G5.out).mono ?_; rintro e_ w28 ⟨v28, rfl, ho, hb, hkp⟩; have n0_ := Aside0.mk (ho); have n1_ := Aside0.mk (hb); have n2_ := Aside0.mk (blk_kept BK5D.out hkp (fun h => h rfl)); clear HOD HBD BK5D; have HOD := n0_; have HBD := n1_; have BK5D := n2_; clear n0_ n1_ n2_; replace HOD := Aside0.mk (Kd.R_mono HOD.out (fun _ _ => trivial) : Kd.R (Kd.int .u8) 5 _ w.heap.size (fun _ => True) v28 m5); clear ho hb hkp; clear z2
        go_wp2_with (fail)
        go_roundg (T.1.length - (j + 1))
        case measure => omega
        case rel => exact ⟨j + 1, v28, m5, rfl, by go_num, by omega, Nat.le_refl _, HOD, HF2, HBD⟩
    · have p1 : decide ((j : Int) < (T.1.length : Int)) = false := decide_eq_false (by omega)
      obtain rfl : j = T.1.length := by omega
      have hf := HF.out; rw [List.drop_length] at hf; obtain rfl : l = r := Option.some.inj hf; clear hf HF
      go_wp2_with (fail)
      go_ret; exact ⟨v, rfl, HO.out, HB.out⟩

end Go.Proofs.Ytmkjgiejnlmncaa.QTableParts
