-- Lines by a program of this session, for this claim.
import Derived.Test.YtmkjgiejnlmncaaQTableBytesx0
import Derived.Test.YtmkjgiejnlmncaaQTableBytesx4
import Derived.Test.YtmkjgiejnlmncaaQTableBytesx15
namespace Go.Proofs.Ytmkjgiejnlmncaa.QTableBytes
open Go.RowKit Go.Proofs.YtmkjgiejnlmncaaW.PrintWords Go.Proofs.YtmkjgiejnlmncaaW.PrintLast Go.Proofs.YtmkjgiejnlmncaaW.PrintMore
attribute [local go_sem] max2_int min2_int max_two min_two max_three min_three max_four min_four   -- for this text's walks alone
set_option linter.unusedVariables false
set_option maxRecDepth 100000
set_option maxHeartbeats 8000000
set_option linter.unusedSimpArgs false

/-! ### table_Table_Encode: function 20 -/
def table_Table_Encode.rowNums (x : S43) : List Int := [x.f0.f0, x.f0.f1, x.f3.f0, x.f3.f1] ++ (if x.f1 = true then [x.f2.f1 + 1, x.f2.f2, x.f2.f3] else [0])
def table_Table_Encode.okR (x : S43) : Prop := (0 ≤ x.f0.f0 ∧ x.f0.f0 ≤ 4294967295) ∧ (0 ≤ x.f0.f1 ∧ x.f0.f1 ≤ 255) ∧ (0 ≤ x.f2.f1 ∧ x.f2.f1 ≤ 65535) ∧ (0 ≤ x.f2.f2 ∧ x.f2.f2 ≤ 65535) ∧ (0 ≤ x.f2.f3 ∧ x.f2.f3 ≤ 65535) ∧ (0 ≤ x.f3.f0 ∧ x.f3.f0 ≤ 65535) ∧ (0 ≤ x.f3.f1 ∧ x.f3.f1 ≤ 65535)
def table_Table_Encode.putAll (k : Nat) : List Int → List Int → Option (List Int)
 | l, [] => some l
 | l, x :: xs => (coin_Put.f k l x).bind fun r => table_Table_Encode.putAll k r xs
theorem table_Table_Encode.putAll_cons {k : Nat} {l xs r : List Int} {x : Int} (h : table_Table_Encode.putAll k l (x :: xs) = some r) : ∃ l', coin_Put.f k l x = some l' ∧ table_Table_Encode.putAll k l' xs = some r := Option.bind_eq_some_iff.mp h
def table_Table_Encode.nums (T : (List S43 × Int × Int)) : List Int := T.2.1 :: T.2.2 :: (T.1.length : Int) :: T.1.flatMap table_Table_Encode.rowNums
def table_Table_Encode.f (k : Nat) (T : (List S43 × Int × Int)) : Option (List Int) := table_Table_Encode.putAll k [] (table_Table_Encode.nums T)
theorem table_Table_Encode.own_ne5 {w W : World} {v : Value} {l : List Int} {g5 : Nat} {cs : Array Value} {t : TypeId} (h : Kd.R (Kd.int .u8) 5 W w.heap.size (fun _ => True) v l) (hb : W.heap[g5]? = some (.cells cs t (0, 0))) (ht : t ≠ 5) : Kd.R (Kd.int .u8) 5 W w.heap.size (fun k_ => k_ ≠ g5) v l :=
 Kd.R_mono (Kd.R_types h hb (fun q hq => by
  obtain rfl : q = 5 := List.mem_singleton.1 (show q ∈ [5] from hq)
  exact fun e => ht e.symm)) (fun _ h => h.2)
theorem table_Table_Encode.flat_drop (l : List S43) (j : Nat) (h : j < l.length) : (l.drop j).flatMap table_Table_Encode.rowNums = table_Table_Encode.rowNums (rd_T43 l (j : Int)) ++ (l.drop (j + 1)).flatMap table_Table_Encode.rowNums := by
 rw [List.drop_eq_getElem_cons h, List.flatMap_cons, rd_cast l j h]
theorem table_Table_Encode.calls (k : Nat) (g : Nat) (T : (List S43 × Int × Int)) (r : List Int) (w0 w : World) (hI : IsS70 w0 w g T) (hok : ∀ x ∈ T.1, table_Table_Encode.okR x) (h : table_Table_Encode.f k T = some r) :
 Calls Try.prog 20 #[.pointer (some ⟨g, 0, none⟩)] w fun e w' => ∃ v0_ : Value, e = .returned v0_ ∧ Kd.R (Kd.int .u8) 5 w' w.heap.size (fun _ => True) v0_ r ∧ Below w.heap.size w w' := by
 have hu43 := Try.underlying43; have hu70 := Try.underlying70; obtain ⟨vv, hg, _, hR, _, hl⟩ := hI; obtain ⟨A, c, rfl, _, hC⟩ := Kd.R_reads hR; have BK := Ad hg; have HC := Ad hC; have HOK := Ad hok; have GLT := Ad (blk_lt hg); obtain ⟨l1, h1, h⟩ := table_Table_Encode.putAll_cons h; obtain ⟨l2, h2, h⟩ := table_Table_Encode.putAll_cons h; obtain ⟨l3, h3, h⟩ := table_Table_Encode.putAll_cons h; have H1 := Ad h1; have H2 := Ad h2; have H3 := Ad h3; have HF := Ad h; clear hg hC hR hok h1 h2 h3 h
 have wc : IntKind.u64.wrap (T.1.length : Int) = (T.1.length : Int) := by show (_ % 18446744073709551616 : Int) = _; omega
 have t0 : w.cell? ⟨g, 0, none⟩ = some (.slice A T.1.length c) := (blk_cell BK.out 0).trans rfl
 go_enter Try.func20, Try.ntmps20
 go_upto_region 3 with (fail)
 have BKD := Ad (blk_drew BK.out); have HBD := Ad (below_drew1 (Below.refl w.heap.size w)); refine start_ (n := 18) (S := fun w' => w'.cell? ⟨g, 1, none⟩ = some (.int .u64 T.2.1) ∧ w'.cell? ⟨g, 2, none⟩ = some (.int .u64 T.2.2) ∧ w'.cell? ⟨g, 0, none⟩ = some (.slice A T.1.length c)) (ds := []) (tf 18 0) (by kernel_rfl) rfl rfl ⟨(blk_cell BKD.out 1).trans rfl, (blk_cell BKD.out 2).trans rfl, (blk_cell BKD.out 0).trans rfl⟩ (fun hHeld => ?_); generalize w.drew = wd at BKD HBD hHeld ⊢; refine pu 0 8 ?_ (tf 18 1) rfl rfl (by kernel_rfl) (fun _ _ _ h => h) (by rfl) ?_ ?_ ?_ ?_; rotate_left; · intro w'; go_simp; with_reducible rfl
 rotate_left; · simp only [Act.put, lz]; rfl
 refine pu 1 9 ?_ (tf 18 2) rfl rfl (by kernel_rfl) (fun _ _ _ h => h) (by rfl) ?_ ?_ ?_ ?_; rotate_left; · intro w'; go_simp; with_reducible rfl
 rotate_left; · simp only [Act.put, lz]; rfl
 refine pu 2 10 ?_ (tf 18 3) rfl rfl (by kernel_rfl) (fun _ _ _ h => h) (by rfl) ?_ ?_ ?_ ?_; rotate_left; · intro w'; go_simp; with_reducible rfl
 rotate_left; · simp only [Act.put, lz]; rfl
 refine pu 5 13 ?_ #[I,I,I,O,O,I,O,O,O,O,O,O,O,O,O,O,O,O] rfl rfl (by kernel_rfl) (fun _ _ _ h => h) (by rfl) ?_ ?_ ?_ ?_; rotate_left; · intro w'; go_simp; with_reducible rfl
 rotate_left; · simp only [Act.put, lz]; rfl
 refine pu 6 14 ?_ #[I,I,I,O,O,I,I,O,O,O,O,O,O,O,O,O,O,O] rfl rfl (by kernel_rfl) (fun _ _ _ h => h) (by rfl) ?_ ?_ ?_ ?_; rotate_left; · intro w'; go_simp; with_reducible rfl
 rotate_left; · simp only [Act.put, lz]; rfl
 refine pu 7 15 ?_ #[I,I,I,O,O,I,I,I,O,O,O,O,O,O,O,O,O,O] rfl rfl (by kernel_rfl) (fun _ _ _ h => h) (by rfl) ?_ ?_ ?_ ?_; rotate_left; · intro w'; go_simp; with_reducible rfl
 rotate_left; · simp only [Act.put, lz]; rfl
 refine pu 10 18 ?_ #[I,I,I,O,O,I,I,I,O,O,I,O,O,O,O,O,O,O] rfl rfl (by kernel_rfl) (fun _ _ _ h => h) (by rfl) ?_ ?_ ?_ ?_; rotate_left; · intro w'; go_simp; with_reducible rfl
 rotate_left; · simp only [Act.put, lz]; rfl
 refine pu 11 19 ?_ #[I,I,I,O,O,I,I,I,O,O,I,I,O,O,O,O,O,O] rfl rfl (by kernel_rfl) (fun _ _ _ h => h) (by rfl) ?_ ?_ ?_ ?_; rotate_left; · intro w'; go_simp; with_reducible rfl
 rotate_left; · simp only [Act.put, lz]; rfl
 refine pu 12 20 ?_ #[I,I,I,O,O,I,I,I,O,O,I,I,I,O,O,O,O,O] rfl rfl (by kernel_rfl) (fun _ _ _ h => h) (by rfl) ?_ ?_ ?_ ?_; rotate_left; · intro w'; go_simp; with_reducible rfl
 rotate_left; · simp only [Act.put, lz]; rfl
 refine tu 3 11 ?_ #[I,I,I,I,O,I,I,I,O,O,I,I,I,O,O,O,O,O] rfl rfl (by kernel_rfl) (fun _ _ _ h => h) (by rfl) ?_ hHeld ?_ ?_ ?_; rotate_left; · rintro w' ⟨s0, s1, s2⟩; go_simp; with_reducible rfl
 rotate_left; · simp only [Act.put, lz]; rfl
 refine tu 8 16 ?_ #[I,I,I,I,O,I,I,I,I,O,I,I,I,O,O,O,O,O] rfl rfl (by kernel_rfl) (fun _ _ _ h => h) (by rfl) ?_ hHeld ?_ ?_ ?_; rotate_left; · rintro w' ⟨s0, s1, s2⟩; go_simp; with_reducible rfl
 rotate_left; · simp only [Act.put, lz]; rfl
 refine tu 13 21 ?_ #[I,I,I,I,O,I,I,I,I,O,I,I,I,I,O,O,O,O] rfl rfl (by kernel_rfl) (fun _ _ _ h => h) (by rfl) ?_ hHeld ?_ ?_ ?_; rotate_left; · rintro w' ⟨s0, s1, s2⟩; go_simp; with_reducible rfl
 rotate_left; · simp only [Act.put, lz]; rfl
 refine pu 14 22 ?_ #[I,I,I,I,O,I,I,I,I,O,I,I,I,I,I,O,O,O] rfl rfl (by kernel_rfl) (fun _ _ _ h => h) (by rfl) ?_ ?_ ?_ ?_; rotate_left; · intro w'; go_simp; with_reducible rfl
 rotate_left; · simp only [Act.put, lz]; rfl
 refine pu 15 23 ?_ #[I,I,I,I,O,I,I,I,I,O,I,I,I,I,I,I,O,O] rfl rfl (by kernel_rfl) (fun _ _ _ h => h) (by rfl) ?_ ?_ ?_ ?_; rotate_left; · intro w'; go_simp; with_reducible rfl
 rotate_left; · simp only [Act.put, lz]; rfl
 refine one_ (i := 4) (N := some 12) #[I,I,I,I,I,I,I,I,I,O,I,I,I,I,I,I,O,O] rfl rfl (by kernel_rfl) (by decide) (fun K hK => ?_); refine goes_ Try.func35 (by kernel_rfl) rfl #[.slice none 0 0, .int .u64 T.2.1] (by rfl) rfl rfl (by simp only [List.map_toArray, List.map_cons, List.map_nil]; rfl) ?_
 with_reducible refine (coin_Put.calls k (fun _ => True) (.slice none 0 0) [] T.2.1 l1 w _ HBD.out (Kd.R_nil _ _ _ _ _) H1.out).mono ?_
 rintro e_ w10 ⟨v10, rfl, ho, hb, _⟩; refine ⟨_, rfl, ?_⟩; have HOD := Ad ho; replace HBD := Ad (hb); replace BKD := Ad ((hb.block g GLT.out).trans BK.out); replace HOD := Ad (Kd.R_mono HOD.out (fun _ _ => trivial) : Kd.R (Kd.int .u8) 5 _ w.heap.size (fun _ => True) v10 l1); clear ho hb; refine hK.out _ _ ⟨(blk_cell BKD.out 1).trans rfl, (blk_cell BKD.out 2).trans rfl, (blk_cell BKD.out 0).trans rfl⟩ (fun hHeld => ?_); clear hK K; refine norm_ (a' := ?_) ?_ ?_; rotate_left
 · show Act.put _ (some 12) _ = _; simp only [Act.put, lz]; rfl
 refine one_ (i := 9) (N := some 17) (tf 18 16) rfl rfl (by kernel_rfl) (by decide) (fun K hK => ?_); refine goes_ Try.func35 (by kernel_rfl) rfl #[v10, .int .u64 T.2.2] (by rfl) rfl rfl (by simp only [List.map_toArray, List.map_cons, List.map_nil]; rfl) ?_
 with_reducible refine (coin_Put.calls k (fun _ => True) (v10) l1 T.2.2 l2 w _ HBD.out (HOD.out) H2.out).mono ?_
 rintro e_ w11 ⟨v11, rfl, ho, hb, _⟩; refine ⟨_, rfl, ?_⟩; replace HOD := Ad (ho); replace HBD := Ad (hb); replace BKD := Ad ((hb.block g GLT.out).trans BK.out); replace HOD := Ad (Kd.R_mono HOD.out (fun _ _ => trivial) : Kd.R (Kd.int .u8) 5 _ w.heap.size (fun _ => True) v11 l2); clear ho hb; refine hK.out _ _ ⟨(blk_cell BKD.out 1).trans rfl, (blk_cell BKD.out 2).trans rfl, (blk_cell BKD.out 0).trans rfl⟩ (fun hHeld => ?_); clear hK K; refine norm_ (a' := ?_) ?_ ?_; rotate_left
 · show Act.put _ (some 17) _ = _; simp only [Act.put, lz]; rfl
 refine one_ (i := 16) (N := some 24) (tf 18 17) rfl rfl (by kernel_rfl) (by decide) (fun K hK => ?_); refine goes_ Try.func35 (by kernel_rfl) rfl #[v11, .int .u64 (T.1.length : Int)] (by rfl) rfl rfl (by simp only [List.map_toArray, List.map_cons, List.map_nil]; rfl) ?_
 with_reducible refine (coin_Put.calls k (fun _ => True) (v11) l2 (T.1.length : Int) l3 w _ HBD.out (HOD.out) H3.out).mono ?_
 rintro e_ w12 ⟨v12, rfl, ho, hb, _⟩; refine ⟨_, rfl, ?_⟩; replace HOD := Ad (ho); replace HBD := Ad (hb); replace BKD := Ad ((hb.block g GLT.out).trans BK.out); replace HOD := Ad (Kd.R_mono HOD.out (fun _ _ => trivial) : Kd.R (Kd.int .u8) 5 _ w.heap.size (fun _ => True) v12 l3); clear ho hb; refine hK.out _ _ ⟨(blk_cell BKD.out 1).trans rfl, (blk_cell BKD.out 2).trans rfl, (blk_cell BKD.out 0).trans rfl⟩ (fun hHeld => ?_); clear hK K; refine norm_ (a' := ?_) ?_ ?_; rotate_left
 · show Act.put _ (some 24) _ = _; simp only [Act.put, lz]; rfl
 refine pu 17 3 ?_ (tf 18 18) rfl rfl (by kernel_rfl) (fun _ _ _ h => h) (by rfl) ?_ ?_ ?_ ?_; rotate_left; · intro w'; go_simp; with_reducible rfl
 rotate_left; · simp only [Act.put, lz]; rfl
 refine done_ (by kernel_rfl) ?_; clear t0 wc hHeld; have t0 : w12.cell? ⟨g, 0, none⟩ = some (.slice A T.1.length c) := (blk_cell BKD.out 0).trans rfl
 go_wp2_with (fail)
 clear t0
 go_loopg [3, 30] T.1.length (fun kx s3 s30 wr => ∃ (j : Nat) (v : Value) (l : List Int), v = s3 ∧ s30 = .int .i64 j ∧ j ≤ T.1.length ∧ T.1.length - j ≤ kx ∧ Aside0 (Kd.R (Kd.int .u8) 5 wr w.heap.size (fun _ => True) v l) ∧ Aside0 (table_Table_Encode.putAll k l ((T.1.drop j).flatMap table_Table_Encode.rowNums) = some r) ∧ Aside0 (Below w.heap.size w wr))
 case atStart => exact ⟨0, v12, l3, rfl, rfl, Nat.zero_le _, Nat.le_refl _, HOD, HF, HBD⟩
 case round =>
  clear HOD HF HBD BKD; obtain ⟨j, v, l, rfl, rfl, hj, hgas, HO, HF, HB⟩ := hrel
  by_cases hlt : j < T.1.length
  · have p1 : decide ((j : Int) < (T.1.length : Int)) = true := decide_eq_true (by omega)
    have p2 : decide (0 ≤ (j : Int)) = true := decide_eq_true (by omega); obtain ⟨ad, e0, hx0, hx1, hx2, hx3, hx4, hx5, hx6, hx7, hx8, hx9⟩ := at_T43 (Kd.C_below HC.out HB.out) (j : Int) (by omega) (by omega); cases e0
    simp only [Int.toNat_natCast] at hx0 hx1 hx2 hx3 hx4 hx5 hx6 hx7 hx8 hx9
    have hokx := HOK.out (rd_T43 T.1 (j : Int)) (by
     rw [rd_cast T.1 j hlt]
     exact List.getElem_mem hlt)
    have hf := HF.out; rw [table_Table_Encode.flat_drop T.1 j hlt] at hf
    obtain ⟨X, hX⟩ : ∃ X : S43, X = rd_T43 T.1 (j : Int) := ⟨_, rfl⟩
    rw [← hX] at hx0 hx1 hx2 hx3 hx4 hx5 hx6 hx7 hx8 hx9 hokx hf; clear hX HF; obtain ⟨o1, o2, o3, o4, o5, o6, o7⟩ := hokx; obtain ⟨m1, g1, hf⟩ := table_Table_Encode.putAll_cons hf; obtain ⟨m2, g2, hf⟩ := table_Table_Encode.putAll_cons hf; obtain ⟨m3, g3, hf⟩ := table_Table_Encode.putAll_cons hf; obtain ⟨m4, g4, hf⟩ := table_Table_Encode.putAll_cons hf; have G1 := Ad g1; have G2 := Ad g2; have G3 := Ad g3; have G4 := Ad g4; have HF := Ad (show table_Table_Encode.putAll k m4 ((if X.f1 = true then [X.f2.f1 + 1, X.f2.f2, X.f2.f3] else [0]) ++ (T.1.drop (j + 1)).flatMap table_Table_Encode.rowNums) = some r from hf); clear g1 g2 g3 g4 hf
    go_upto_region 7 with (fail)
    obtain ⟨g5, hg5⟩ : ∃ x : Nat, x = wr.heap.size := ⟨_, rfl⟩
    obtain ⟨V, hV⟩ : ∃ x : World, x = wr.alloc (.cells #[.int .u32 X.f0.f0, .int .u8 X.f0.f1, .bool X.f1, .int .u32 X.f2.f0.f0, .int .u8 X.f2.f0.f1, .int .i64 X.f2.f1, .int .u16 X.f2.f2, .int .u16 X.f2.f3, .int .u16 X.f3.f0, .int .u16 X.f3.f1] 43 (0, 0)) := ⟨_, rfl⟩
    rw [← hV, ← hg5]; have BK5 := Ad (show V.heap[g5]? = some (.cells #[.int .u32 X.f0.f0, .int .u8 X.f0.f1, .bool X.f1, .int .u32 X.f2.f0.f0, .int .u8 X.f2.f0.f1, .int .i64 X.f2.f1, .int .u16 X.f2.f2, .int .u16 X.f2.f3, .int .u16 X.f3.f0, .int .u16 X.f3.f1] 43 (0, 0)) from by rw [hV, hg5]; exact heap_alloc_new _ _)
    have hbv : Below wr.heap.size wr V := by rw [hV]; exact below_alloc (Below.refl _ _) _
    have BK5D := Ad (blk_drew BK5.out); have HOD := Ad (Kd.R_drew (Kd.R_below HO.out hbv)); have HBD := Ad (below_drew1 (below_step HB.out hbv)); clear hV hg5 BK5 HO HB hbv hx0 hx1 hx2 hx3 hx4 hx5 hx6 hx7 hx8 hx9
    have wq1 : IntKind.u64.wrap X.f0.f0 = X.f0.f0 := by show (_ % 18446744073709551616 : Int) = _; omega
    have wq2 : IntKind.u64.wrap X.f0.f1 = X.f0.f1 := by show (_ % 18446744073709551616 : Int) = _; omega
    refine start_ (n := 12) (S := fun w' => w'.cell? ⟨g5, 0, none⟩ = some (.int .u32 X.f0.f0) ∧ w'.cell? ⟨g5, 1, none⟩ = some (.int .u8 X.f0.f1)) (ds := []) (tf 12 0) (by kernel_rfl) rfl rfl ⟨(blk_cell BK5D.out 0).trans rfl, (blk_cell BK5D.out 1).trans rfl⟩ (fun hHeld => ?_); generalize V.drew = wd7 at BK5D HOD HBD hHeld ⊢; refine pu 0 34 ?_ (tf 12 1) rfl rfl (by kernel_rfl) (fun _ _ _ h => h) (by rfl) ?_ ?_ ?_ ?_; rotate_left; · intro w'; go_simp; with_reducible rfl
    rotate_left; · simp only [Act.put, lz]; rfl
    refine pu 1 35 ?_ (tf 12 2) rfl rfl (by kernel_rfl) (fun _ _ _ h => h) (by rfl) ?_ ?_ ?_ ?_; rotate_left; · intro w'; go_simp; with_reducible rfl
    rotate_left; · simp only [Act.put, lz]; rfl
    refine pu 2 36 ?_ (tf 12 3) rfl rfl (by kernel_rfl) (fun _ _ _ h => h) (by rfl) ?_ ?_ ?_ ?_; rotate_left; · intro w'; go_simp; with_reducible rfl
    rotate_left; · simp only [Act.put, lz]; rfl
    refine pu 6 40 ?_ #[I,I,I,O,O,O,I,O,O,O,O,O] rfl rfl (by kernel_rfl) (fun _ _ _ h => h) (by rfl) ?_ ?_ ?_ ?_; rotate_left; · intro w'; go_simp; with_reducible rfl
    rotate_left; · simp only [Act.put, lz]; rfl
    refine pu 7 41 ?_ #[I,I,I,O,O,O,I,I,O,O,O,O] rfl rfl (by kernel_rfl) (fun _ _ _ h => h) (by rfl) ?_ ?_ ?_ ?_; rotate_left; · intro w'; go_simp; with_reducible rfl
    rotate_left; · simp only [Act.put, lz]; rfl
    refine tu 3 37 ?_ #[I,I,I,I,O,O,I,I,O,O,O,O] rfl rfl (by kernel_rfl) (fun _ _ _ h => h) (by rfl) ?_ hHeld ?_ ?_ ?_; rotate_left; · rintro w' ⟨s0, s1⟩; go_simp; with_reducible rfl
    rotate_left; · simp only [Act.put, lz]; rfl
    refine pu 4 38 ?_ #[I,I,I,I,I,O,I,I,O,O,O,O] rfl rfl (by kernel_rfl) (fun _ _ _ h => h) (by rfl) ?_ ?_ ?_ ?_; rotate_left; · intro w'; go_simp; with_reducible rfl
    rotate_left; · simp only [Act.put, lz]; rfl
    refine tu 8 42 ?_ #[I,I,I,I,I,O,I,I,I,O,O,O] rfl rfl (by kernel_rfl) (fun _ _ _ h => h) (by rfl) ?_ hHeld ?_ ?_ ?_; rotate_left; · rintro w' ⟨s0, s1⟩; go_simp; with_reducible rfl
    rotate_left; · simp only [Act.put, lz]; rfl
    refine pu 9 43 ?_ #[I,I,I,I,I,O,I,I,I,I,O,O] rfl rfl (by kernel_rfl) (fun _ _ _ h => h) (by rfl) ?_ ?_ ?_ ?_; rotate_left; · intro w'; go_simp; with_reducible rfl
    rotate_left; · simp only [Act.put, lz]; rfl
    refine one_ (i := 5) (N := some 39) (tf 12 10) rfl rfl (by kernel_rfl) (by decide) (fun K hK => ?_); refine goes_ Try.func35 (by kernel_rfl) rfl #[v, .int .u64 X.f0.f0] (by rfl) rfl rfl (by simp only [List.map_toArray, List.map_cons, List.map_nil]; rfl) ?_
    with_reducible refine (coin_Put.calls k (fun k_ => k_ ≠ g5) (v) l (X.f0.f0) m1 w _ HBD.out (table_Table_Encode.own_ne5 HOD.out BK5D.out (by decide)) G1.out).mono ?_
    rintro e_ w21 ⟨v21, rfl, ho, hb, hkp⟩; refine ⟨_, rfl, ?_⟩; replace HOD := Ad (ho); replace HBD := Ad (hb); replace BK5D := Ad (blk_kept BK5D.out hkp (fun h => h rfl)); replace HOD := Ad (Kd.R_mono HOD.out (fun _ _ => trivial) : Kd.R (Kd.int .u8) 5 _ w.heap.size (fun _ => True) v21 m1); clear ho hb hkp; refine hK.out _ _ ⟨(blk_cell BK5D.out 0).trans rfl, (blk_cell BK5D.out 1).trans rfl⟩ (fun hHeld => ?_); clear hK K; refine norm_ (a' := ?_) ?_ ?_; rotate_left
    · show Act.put _ (some 39) _ = _; simp only [Act.put, lz]; rfl
    refine one_ (i := 10) (N := some 44) (tf 12 11) rfl rfl (by kernel_rfl) (by decide) (fun K hK => ?_); refine goes_ Try.func35 (by kernel_rfl) rfl #[v21, .int .u64 X.f0.f1] (by rfl) rfl rfl (by simp only [List.map_toArray, List.map_cons, List.map_nil]; rfl) ?_
    with_reducible refine (coin_Put.calls k (fun k_ => k_ ≠ g5) (v21) m1 (X.f0.f1) m2 w _ HBD.out (table_Table_Encode.own_ne5 HOD.out BK5D.out (by decide)) G2.out).mono ?_
    rintro e_ w22 ⟨v22, rfl, ho, hb, hkp⟩; refine ⟨_, rfl, ?_⟩; replace HOD := Ad (ho); replace HBD := Ad (hb); replace BK5D := Ad (blk_kept BK5D.out hkp (fun h => h rfl)); replace HOD := Ad (Kd.R_mono HOD.out (fun _ _ => trivial) : Kd.R (Kd.int .u8) 5 _ w.heap.size (fun _ => True) v22 m2); clear ho hb hkp; refine hK.out _ _ ⟨(blk_cell BK5D.out 0).trans rfl, (blk_cell BK5D.out 1).trans rfl⟩ (fun hHeld => ?_); clear hK K; refine norm_ (a' := ?_) ?_ ?_; rotate_left
    · show Act.put _ (some 44) _ = _; simp only [Act.put, lz]; rfl
    refine pu 11 3 ?_ (tf 12 12) rfl rfl (by kernel_rfl) (fun _ _ _ h => h) (by rfl) ?_ ?_ ?_ ?_; rotate_left; · intro w'; go_simp; with_reducible rfl
    rotate_left; · simp only [Act.put, lz]; rfl
    refine done_ (by kernel_rfl) ?_; clear hHeld wq1 wq2
    go_upto_region 8 with (fail)
    replace BK5D := Ad (blk_drew BK5D.out); replace HOD := Ad (Kd.R_drew HOD.out); replace HBD := Ad (below_drew1 HBD.out)
    have wq1 : IntKind.u64.wrap X.f3.f0 = X.f3.f0 := by show (_ % 18446744073709551616 : Int) = _; omega
    have wq2 : IntKind.u64.wrap X.f3.f1 = X.f3.f1 := by show (_ % 18446744073709551616 : Int) = _; omega
    refine start_ (n := 12) (S := fun w' => w'.cell? ⟨g5, 8, none⟩ = some (.int .u16 X.f3.f0) ∧ w'.cell? ⟨g5, 9, none⟩ = some (.int .u16 X.f3.f1)) (ds := []) (tf 12 0) (by kernel_rfl) rfl rfl ⟨(blk_cell BK5D.out 8).trans rfl, (blk_cell BK5D.out 9).trans rfl⟩ (fun hHeld => ?_); generalize w22.drew = wd8 at BK5D HOD HBD hHeld ⊢; refine pu 0 45 ?_ (tf 12 1) rfl rfl (by kernel_rfl) (fun _ _ _ h => h) (by rfl) ?_ ?_ ?_ ?_; rotate_left; · intro w'; go_simp; with_reducible rfl
    rotate_left; · simp only [Act.put, lz]; rfl
    refine pu 1 46 ?_ (tf 12 2) rfl rfl (by kernel_rfl) (fun _ _ _ h => h) (by rfl) ?_ ?_ ?_ ?_; rotate_left; · intro w'; go_simp; with_reducible rfl
    rotate_left; · simp only [Act.put, lz]; rfl
    refine pu 2 47 ?_ (tf 12 3) rfl rfl (by kernel_rfl) (fun _ _ _ h => h) (by rfl) ?_ ?_ ?_ ?_; rotate_left; · intro w'; go_simp; with_reducible rfl
    rotate_left; · simp only [Act.put, lz]; rfl
    refine pu 6 51 ?_ #[I,I,I,O,O,O,I,O,O,O,O,O] rfl rfl (by kernel_rfl) (fun _ _ _ h => h) (by rfl) ?_ ?_ ?_ ?_; rotate_left; · intro w'; go_simp; with_reducible rfl
    rotate_left; · simp only [Act.put, lz]; rfl
    refine pu 7 52 ?_ #[I,I,I,O,O,O,I,I,O,O,O,O] rfl rfl (by kernel_rfl) (fun _ _ _ h => h) (by rfl) ?_ ?_ ?_ ?_; rotate_left; · intro w'; go_simp; with_reducible rfl
    rotate_left; · simp only [Act.put, lz]; rfl
    refine tu 3 48 ?_ #[I,I,I,I,O,O,I,I,O,O,O,O] rfl rfl (by kernel_rfl) (fun _ _ _ h => h) (by rfl) ?_ hHeld ?_ ?_ ?_; rotate_left; · rintro w' ⟨s0, s1⟩; go_simp; with_reducible rfl
    rotate_left; · simp only [Act.put, lz]; rfl
    refine pu 4 49 ?_ #[I,I,I,I,I,O,I,I,O,O,O,O] rfl rfl (by kernel_rfl) (fun _ _ _ h => h) (by rfl) ?_ ?_ ?_ ?_; rotate_left; · intro w'; go_simp; with_reducible rfl
    rotate_left; · simp only [Act.put, lz]; rfl
    refine tu 8 53 ?_ #[I,I,I,I,I,O,I,I,I,O,O,O] rfl rfl (by kernel_rfl) (fun _ _ _ h => h) (by rfl) ?_ hHeld ?_ ?_ ?_; rotate_left; · rintro w' ⟨s0, s1⟩; go_simp; with_reducible rfl
    rotate_left; · simp only [Act.put, lz]; rfl
    refine pu 9 54 ?_ #[I,I,I,I,I,O,I,I,I,I,O,O] rfl rfl (by kernel_rfl) (fun _ _ _ h => h) (by rfl) ?_ ?_ ?_ ?_; rotate_left; · intro w'; go_simp; with_reducible rfl
    rotate_left; · simp only [Act.put, lz]; rfl
    refine one_ (i := 5) (N := some 50) (tf 12 10) rfl rfl (by kernel_rfl) (by decide) (fun K hK => ?_); refine goes_ Try.func35 (by kernel_rfl) rfl #[v22, .int .u64 X.f3.f0] (by rfl) rfl rfl (by simp only [List.map_toArray, List.map_cons, List.map_nil]; rfl) ?_
    with_reducible refine (coin_Put.calls k (fun k_ => k_ ≠ g5) (v22) m2 (X.f3.f0) m3 w _ HBD.out (table_Table_Encode.own_ne5 HOD.out BK5D.out (by decide)) G3.out).mono ?_
    rintro e_ w23 ⟨v23, rfl, ho, hb, hkp⟩; refine ⟨_, rfl, ?_⟩; replace HOD := Ad (ho); replace HBD := Ad (hb); replace BK5D := Ad (blk_kept BK5D.out hkp (fun h => h rfl)); replace HOD := Ad (Kd.R_mono HOD.out (fun _ _ => trivial) : Kd.R (Kd.int .u8) 5 _ w.heap.size (fun _ => True) v23 m3); clear ho hb hkp; refine hK.out _ _ ⟨(blk_cell BK5D.out 8).trans rfl, (blk_cell BK5D.out 9).trans rfl⟩ (fun hHeld => ?_); clear hK K; refine norm_ (a' := ?_) ?_ ?_; rotate_left
    · show Act.put _ (some 50) _ = _; simp only [Act.put, lz]; rfl
    refine one_ (i := 10) (N := some 55) (tf 12 11) rfl rfl (by kernel_rfl) (by decide) (fun K hK => ?_); refine goes_ Try.func35 (by kernel_rfl) rfl #[v23, .int .u64 X.f3.f1] (by rfl) rfl rfl (by simp only [List.map_toArray, List.map_cons, List.map_nil]; rfl) ?_
    with_reducible refine (coin_Put.calls k (fun k_ => k_ ≠ g5) (v23) m3 (X.f3.f1) m4 w _ HBD.out (table_Table_Encode.own_ne5 HOD.out BK5D.out (by decide)) G4.out).mono ?_
    rintro e_ w24 ⟨v24, rfl, ho, hb, hkp⟩; refine ⟨_, rfl, ?_⟩; replace HOD := Ad (ho); replace HBD := Ad (hb); replace BK5D := Ad (blk_kept BK5D.out hkp (fun h => h rfl)); replace HOD := Ad (Kd.R_mono HOD.out (fun _ _ => trivial) : Kd.R (Kd.int .u8) 5 _ w.heap.size (fun _ => True) v24 m4); clear ho hb hkp; refine hK.out _ _ ⟨(blk_cell BK5D.out 8).trans rfl, (blk_cell BK5D.out 9).trans rfl⟩ (fun hHeld => ?_); clear hK K; refine norm_ (a' := ?_) ?_ ?_; rotate_left
    · show Act.put _ (some 55) _ = _; simp only [Act.put, lz]; rfl
    refine pu 11 3 ?_ (tf 12 12) rfl rfl (by kernel_rfl) (fun _ _ _ h => h) (by rfl) ?_ ?_ ?_ ?_; rotate_left; · intro w'; go_simp; with_reducible rfl
    rotate_left; · simp only [Act.put, lz]; rfl
    refine done_ (by kernel_rfl) ?_; clear hHeld wq1 wq2
    by_cases hh : X.f1 = true
    · have hf := HF.out
      rw [if_pos hh] at hf; obtain ⟨m5, g5', hf⟩ := table_Table_Encode.putAll_cons hf; obtain ⟨m6, g6', hf⟩ := table_Table_Encode.putAll_cons hf; obtain ⟨m7, g7', hf⟩ := table_Table_Encode.putAll_cons hf; have G5 := Ad g5'; have G6 := Ad g6'; have G7 := Ad g7'; have HF2 := Ad (show table_Table_Encode.putAll k m7 ((T.1.drop (j + 1)).flatMap table_Table_Encode.rowNums) = some r from hf); clear hf g5' g6' g7' HF; have z2 : w24.cell? ⟨g5, 2, none⟩ = some (.bool X.f1) := (blk_cell BK5D.out 2).trans rfl; rw [hh] at z2
      go_upto_region 11 with (fail)
      clear z2 hh
      have wq1 : IntKind.u64.wrap X.f2.f1 = X.f2.f1 := by show (_ % 18446744073709551616 : Int) = _; omega
      have wq2 : IntKind.u64.wrap (X.f2.f1 + 1) = X.f2.f1 + 1 := by show (_ % 18446744073709551616 : Int) = _; omega
      replace BK5D := Ad (blk_drew BK5D.out); replace HOD := Ad (Kd.R_drew HOD.out); replace HBD := Ad (below_drew1 HBD.out)
      have wq3 : IntKind.u64.wrap X.f2.f2 = X.f2.f2 := by show (_ % 18446744073709551616 : Int) = _; omega
      refine start_ (n := 13) (S := fun w' => w'.cell? ⟨g5, 5, none⟩ = some (.int .i64 X.f2.f1) ∧ w'.cell? ⟨g5, 6, none⟩ = some (.int .u16 X.f2.f2)) (ds := []) (tf 13 0) (by kernel_rfl) rfl rfl ⟨(blk_cell BK5D.out 5).trans rfl, (blk_cell BK5D.out 6).trans rfl⟩ (fun hHeld => ?_); generalize w24.drew = wd11 at BK5D HOD HBD hHeld ⊢; refine pu 0 61 ?_ (tf 13 1) rfl rfl (by kernel_rfl) (fun _ _ _ h => h) (by rfl) ?_ ?_ ?_ ?_; rotate_left; · intro w'; go_simp; with_reducible rfl
      rotate_left; · simp only [Act.put, lz]; rfl
      refine pu 1 62 ?_ (tf 13 2) rfl rfl (by kernel_rfl) (fun _ _ _ h => h) (by rfl) ?_ ?_ ?_ ?_; rotate_left; · intro w'; go_simp; with_reducible rfl
      rotate_left; · simp only [Act.put, lz]; rfl
      refine pu 2 63 ?_ (tf 13 3) rfl rfl (by kernel_rfl) (fun _ _ _ h => h) (by rfl) ?_ ?_ ?_ ?_; rotate_left; · intro w'; go_simp; with_reducible rfl
      rotate_left; · simp only [Act.put, lz]; rfl
      refine pu 7 68 ?_ #[I,I,I,O,O,O,O,I,O,O,O,O,O] rfl rfl (by kernel_rfl) (fun _ _ _ h => h) (by rfl) ?_ ?_ ?_ ?_; rotate_left; · intro w'; go_simp; with_reducible rfl
      rotate_left; · simp only [Act.put, lz]; rfl
      refine pu 8 69 ?_ #[I,I,I,O,O,O,O,I,I,O,O,O,O] rfl rfl (by kernel_rfl) (fun _ _ _ h => h) (by rfl) ?_ ?_ ?_ ?_; rotate_left; · intro w'; go_simp; with_reducible rfl
      rotate_left; · simp only [Act.put, lz]; rfl
      refine tu 3 64 ?_ #[I,I,I,I,O,O,O,I,I,O,O,O,O] rfl rfl (by kernel_rfl) (fun _ _ _ h => h) (by rfl) ?_ hHeld ?_ ?_ ?_; rotate_left; · rintro w' ⟨s0, s1⟩; go_simp; with_reducible rfl
      rotate_left; · simp only [Act.put, lz]; rfl
      refine pu 4 65 ?_ #[I,I,I,I,I,O,O,I,I,O,O,O,O] rfl rfl (by kernel_rfl) (fun _ _ _ h => h) (by rfl) ?_ ?_ ?_ ?_; rotate_left; · intro w'; go_simp; with_reducible rfl
      rotate_left; · simp only [Act.put, lz]; rfl
      refine pu 5 66 ?_ #[I,I,I,I,I,I,O,I,I,O,O,O,O] rfl rfl (by kernel_rfl) (fun _ _ _ h => h) (by rfl) ?_ ?_ ?_ ?_; rotate_left; · intro w'; go_simp; with_reducible rfl
      rotate_left; · simp only [Act.put, lz]; rfl
      refine tu 9 70 ?_ #[I,I,I,I,I,I,O,I,I,I,O,O,O] rfl rfl (by kernel_rfl) (fun _ _ _ h => h) (by rfl) ?_ hHeld ?_ ?_ ?_; rotate_left; · rintro w' ⟨s0, s1⟩; go_simp; with_reducible rfl
      rotate_left; · simp only [Act.put, lz]; rfl
      refine pu 10 71 ?_ #[I,I,I,I,I,I,O,I,I,I,I,O,O] rfl rfl (by kernel_rfl) (fun _ _ _ h => h) (by rfl) ?_ ?_ ?_ ?_; rotate_left; · intro w'; go_simp; with_reducible rfl
      rotate_left; · simp only [Act.put, lz]; rfl
      refine one_ (i := 6) (N := some 67) (tf 13 11) rfl rfl (by kernel_rfl) (by decide) (fun K hK => ?_); refine goes_ Try.func35 (by kernel_rfl) rfl #[v24, .int .u64 (X.f2.f1 + 1)] (by rfl) rfl rfl (by simp only [List.map_toArray, List.map_cons, List.map_nil]; rfl) ?_
      with_reducible refine (coin_Put.calls k (fun k_ => k_ ≠ g5) (v24) m4 ((X.f2.f1 + 1)) m5 w _ HBD.out (table_Table_Encode.own_ne5 HOD.out BK5D.out (by decide)) G5.out).mono ?_
      rintro e_ w25 ⟨v25, rfl, ho, hb, hkp⟩; refine ⟨_, rfl, ?_⟩; replace HOD := Ad (ho); replace HBD := Ad (hb); replace BK5D := Ad (blk_kept BK5D.out hkp (fun h => h rfl)); replace HOD := Ad (Kd.R_mono HOD.out (fun _ _ => trivial) : Kd.R (Kd.int .u8) 5 _ w.heap.size (fun _ => True) v25 m5); clear ho hb hkp; refine hK.out _ _ ⟨(blk_cell BK5D.out 5).trans rfl, (blk_cell BK5D.out 6).trans rfl⟩ (fun hHeld => ?_); clear hK K; refine norm_ (a' := ?_) ?_ ?_; rotate_left
      · show Act.put _ (some 67) _ = _; simp only [Act.put, lz]; rfl
      refine one_ (i := 11) (N := some 72) (tf 13 12) rfl rfl (by kernel_rfl) (by decide) (fun K hK => ?_); refine goes_ Try.func35 (by kernel_rfl) rfl #[v25, .int .u64 X.f2.f2] (by rfl) rfl rfl (by simp only [List.map_toArray, List.map_cons, List.map_nil]; rfl) ?_
      with_reducible refine (coin_Put.calls k (fun k_ => k_ ≠ g5) (v25) m5 (X.f2.f2) m6 w _ HBD.out (table_Table_Encode.own_ne5 HOD.out BK5D.out (by decide)) G6.out).mono ?_
      rintro e_ w26 ⟨v26, rfl, ho, hb, hkp⟩; refine ⟨_, rfl, ?_⟩; replace HOD := Ad (ho); replace HBD := Ad (hb); replace BK5D := Ad (blk_kept BK5D.out hkp (fun h => h rfl)); replace HOD := Ad (Kd.R_mono HOD.out (fun _ _ => trivial) : Kd.R (Kd.int .u8) 5 _ w.heap.size (fun _ => True) v26 m6); clear ho hb hkp; refine hK.out _ _ ⟨(blk_cell BK5D.out 5).trans rfl, (blk_cell BK5D.out 6).trans rfl⟩ (fun hHeld => ?_); clear hK K; refine norm_ (a' := ?_) ?_ ?_; rotate_left
      · show Act.put _ (some 72) _ = _; simp only [Act.put, lz]; rfl
      refine pu 12 3 ?_ (tf 13 13) rfl rfl (by kernel_rfl) (fun _ _ _ h => h) (by rfl) ?_ ?_ ?_ ?_; rotate_left; · intro w'; go_simp; with_reducible rfl
      rotate_left; · simp only [Act.put, lz]; rfl
      refine done_ (by kernel_rfl) ?_; clear hHeld wq1 wq2 wq3; have z7 : w26.cell? ⟨g5, 7, none⟩ = some (.int .u16 X.f2.f3) := (blk_cell BK5D.out 7).trans rfl
      go_wp2_with (fail)
      refine (coin_Put.calls k (fun k_ => k_ ≠ g5) (v26) m6 (X.f2.f3) m7 w _ HBD.out (table_Table_Encode.own_ne5 HOD.out BK5D.out (by decide)) G7.out).mono ?_; rintro e_ w27 ⟨v27, rfl, ho, hb, hkp⟩; replace HOD := Ad (ho); replace HBD := Ad (hb); replace BK5D := Ad (blk_kept BK5D.out hkp (fun h => h rfl)); replace HOD := Ad (Kd.R_mono HOD.out (fun _ _ => trivial) : Kd.R (Kd.int .u8) 5 _ w.heap.size (fun _ => True) v27 m7); clear ho hb hkp; clear z7
      go_wp2_with (fail)
      go_roundg (T.1.length - (j + 1))
      case measure => omega
      case rel => exact ⟨j + 1, v27, m7, rfl, by go_num, by omega, Nat.le_refl _, HOD, HF2, HBD⟩
    · have hf := HF.out
      rw [if_neg hh] at hf; obtain ⟨m5, g5', hf⟩ := table_Table_Encode.putAll_cons hf; have G5 := Ad g5'; have HF2 := Ad (show table_Table_Encode.putAll k m5 ((T.1.drop (j + 1)).flatMap table_Table_Encode.rowNums) = some r from hf); clear hf g5' HF
      have hh2 : X.f1 = false := by simpa using hh
      have z2 : w24.cell? ⟨g5, 2, none⟩ = some (.bool X.f1) := (blk_cell BK5D.out 2).trans rfl; rw [hh2] at z2; clear hh hh2
      go_wp2_with (fail)
      refine (coin_Put.calls k (fun k_ => k_ ≠ g5) (v24) m4 (0) m5 w _ HBD.out (table_Table_Encode.own_ne5 HOD.out BK5D.out (by decide)) G5.out).mono ?_; rintro e_ w28 ⟨v28, rfl, ho, hb, hkp⟩; replace HOD := Ad (ho); replace HBD := Ad (hb); replace BK5D := Ad (blk_kept BK5D.out hkp (fun h => h rfl)); replace HOD := Ad (Kd.R_mono HOD.out (fun _ _ => trivial) : Kd.R (Kd.int .u8) 5 _ w.heap.size (fun _ => True) v28 m5); clear ho hb hkp; clear z2
      go_wp2_with (fail)
      go_roundg (T.1.length - (j + 1))
      case measure => omega
      case rel => exact ⟨j + 1, v28, m5, rfl, by go_num, by omega, Nat.le_refl _, HOD, HF2, HBD⟩
  · have p1 : decide ((j : Int) < (T.1.length : Int)) = false := decide_eq_false (by omega)
    obtain rfl : j = T.1.length := by omega
    have hf := HF.out; rw [List.drop_length] at hf; obtain rfl : l = r := Option.some.inj hf; clear hf HF
    go_wp2_with (fail)
    go_ret; exact ⟨v, rfl, HO.out, HB.out⟩

/-! ### ga_bits: function 54 -/
def ga_bits.l0 : Nat → Int → Int → Option (Int)
 | 0, _, _ => none
 | k + 1, x0, x3 => if x0 > 0 then (ga_bits.l0 k (IntKind.u64.wrap (Int.tdiv x0 2)) (wrap64 (x3 + 1))) else (some x3)
def ga_bits.f (k : Nat) (a0 : Int) : Option (Int) := ga_bits.l0 k a0 0
theorem ga_bits.mono_l : ∀ k, (∀ y0 y1, LeO (ga_bits.l0 k y0 y1) (ga_bits.l0 (k + 1) y0 y1))
 | 0 => fun _ _ r h => by simp [ga_bits.l0] at h
 | k + 1 => by
  have ih0 := ga_bits.mono_l k
  · intro y0 y1
    unfold ga_bits.l0
    repeat' first
    | (with_reducible exact ih0 ..)
    | (with_reducible exact LeO.refl ..)
    | (with_reducible exact LeO.none ..)
    | (with_reducible refine LeO.ite ?_ ?_)
    | (with_reducible refine LeO.bind ?_ (fun _ => ?_))
theorem ga_bits.mono : ∀ a0 k, LeO (ga_bits.f k a0) (ga_bits.f (k + 1) a0) := by
 intro a0 k; have ih0 := ga_bits.mono_l k
 unfold ga_bits.f
 repeat' first
  | (with_reducible exact ih0 ..)
  | (with_reducible exact LeO.refl ..)
  | (with_reducible exact LeO.none ..)
  | (with_reducible refine LeO.ite ?_ ?_)
  | (with_reducible refine LeO.bind ?_ (fun _ => ?_))
theorem ga_bits.calls (k : Nat) (a0 : Int) (r : Int) (w : World) (h : ga_bits.f k a0 = some r) :
 Calls Try.prog 54 #[.int .u64 a0] w fun e w' => e = .returned (.int .i64 r) ∧ Drawn0 w w' := by
 have H : (ga_bits.l0 k a0 0) = some r := h; clear h; have H' := Ad H; clear H
 go_enter Try.func54, Try.ntmps54
 go_wp2
 go_loopg [0, 3] k (fun kq v0 v3 w' => ∃ (x0_1 : Int) (x3_1 : Int), v0 = .int .u64 x0_1 ∧ v3 = .int .i64 x3_1 ∧ Aside0 (ga_bits.l0 kq x0_1 x3_1 = some r) ∧ Aside0 (kq ≤ k) ∧ Drawn0 w w')
 case atStart => exact ⟨(a0), (0), (by first | rfl | (refine qa_int ?_; simp <;> omega)), (by first | rfl | (refine qa_int ?_; simp <;> omega)), H', ⟨Nat.le_refl _⟩, by repeat (first | exact Drawn0.refl _)⟩
 case round =>
  clear H'; obtain ⟨x0_1, x3_1, rfl, rfl, HA, HK1, ⟨m1, rfl⟩⟩ := hrel
  cases gk with
  | zero => exact absurd HA.out (by simp [ga_bits.l0])
  | succ k1 =>
   have H := HA.out; clear HA
   simp only [ga_bits.l0] at H
   by_cases c2 : x0_1 > 0
   · rw [if_pos c2] at H
     have c2b0 : decide (0 < x0_1) = true := decide_eq_true c2; clear c2; have H' := Ad H; clear H; go_wp2
     go_roundg k1
     case measure => have := HK1.out; omega
     case rel => exact ⟨(IntKind.u64.wrap (Int.tdiv x0_1 2)), (wrap64 (x3_1 + 1)), (by first | rfl | (refine qa_int ?_; simp <;> omega)), (by first | rfl | (refine qa_int ?_; simp <;> omega)), H', ⟨by have := HK1.out; omega⟩, by repeat (first | exact Drawn0.refl _ | apply Drawn0.step)⟩
   · rw [if_neg c2] at H
     have c2b0 : decide (0 < x0_1) = false := decide_eq_false c2; clear c2; obtain rfl := Option.some.inj H
     simp only [Option.some.injEq, Prod.mk.injEq] at H
     obtain ⟨rfl⟩ := H; go_wp2; go_ret; exact ⟨by first | rfl | (refine qa_int ?_; simp <;> omega), by repeat (first | exact Drawn0.refl _ | apply Drawn0.step)⟩

end Go.Proofs.Ytmkjgiejnlmncaa.QTableBytes
