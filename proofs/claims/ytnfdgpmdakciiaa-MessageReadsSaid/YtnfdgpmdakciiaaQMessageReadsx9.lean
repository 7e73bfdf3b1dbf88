-- Lines by a program of this session, for this claim.
import Derived.Test.YtnfdgpmdakciiaaQMessageReadsx0
import Derived.Test.YtnfdgpmdakciiaaQMessageReadsx3
import Derived.Test.YtnfdgpmdakciiaaQMessageReadsx7
import Derived.Test.YtnfdgpmdakciiaaQMessageReadsx8
namespace Go.Proofs.Ytnfdgpmdakciiaa.QMessageReads
open Go.RowKit Go.Proofs.YtnfdgpmdakciiaaW.PrintWords Go.Proofs.YtnfdgpmdakciiaaW.PrintLast Go.Proofs.YtnfdgpmdakciiaaW.PrintMore
attribute [local go_sem] max2_int min2_int max_two min_two max_three min_three max_four min_four   -- for this text's walks alone
set_option linter.unusedVariables false
set_option linter.unusedSimpArgs false

/-! ### message_Decode: function 16 -/
mutual
def message_Decode.j0 : Nat → List Int → Int → Bool → Option (Int × (List (S28)) × Int × Int)
 | 0, _, _, _ => none
 | k + 1, x0, x5, x47 => if x47 = true then (some (0, ([] : List (S28)), 0, 4)) else (if 1 ≤ x5 then (if x5 ≤ (x0.length : Int) then ((coin_NewPurse.f ((x0.take (x5 : Int).toNat).drop 1)).bind fun bt267 => ((coin_Purse_Take.f k bt267.1 bt267.2 15).bind fun bt270 => (message_Decode.l0 k 0 bt270.2.1 bt270.2.2 (wrap64 (bt270.1)) ([] : List (S28))))) else (none)) else (none))
def message_Decode.j4 : Nat → Int → List Int → Int → Int → List (S28) → Option (Int × (List (S28)) × Int × Int)
 | 0, _, _, _, _, _ => none
 | k + 1, x9, x270000, x270001, x274000, x274001 => (coin_Purse_Fault.f x270000 x270001).bind fun bt311 => (if bt311.1 = 0 then (if (x274001.length : Int) > 300 then (some (0, ([] : List (S28)), 0, 6)) else (some (x274000, x274001, x9, 0))) else (some (0, ([] : List (S28)), 0, 4)))
def message_Decode.l0 : Nat → Int → List Int → Int → Int → List (S28) → Option (Int × (List (S28)) × Int × Int)
 | 0, _, _, _, _, _ => none
 | k + 1, x9, x270000, x270001, x274000, x274001 => (coin_Purse_Fault.f x270000 x270001).bind fun bt274 => (if bt274.1 = 0 then ((coin_Purse_Left.f bt274.2.1 bt274.2.2).bind fun bt277 => (message_Decode.j2 k x9 (decide (bt277.1 > 0)) bt277.2.1 bt277.2.2 x274000 x274001)) else (message_Decode.j2 k x9 false bt274.2.1 bt274.2.2 x274000 x274001))
def message_Decode.j2 : Nat → Int → Bool → List Int → Int → Int → List (S28) → Option (Int × (List (S28)) × Int × Int)
 | 0, _, _, _, _, _, _ => none
 | k + 1, x9, x64, x270000, x270001, x274000, x274001 => if x64 = true then ((coin_Purse_Bytes.f x270000 x270001 1).bind fun bt280 => ((coin_Purse_Take.f k bt280.2.1 bt280.2.2 1048576).bind fun bt285 => ((coin_Purse_Bytes.f bt285.2.1 bt285.2.2 (wrap64 (bt285.1))).bind fun bt288 => ((coin_Purse_Fault.f bt288.2.1 bt288.2.2).bind fun bt293 => (if bt293.1 = 0 then (if 0 < (bt280.1.length : Int) then (if (rd bt280.1 0) < 1 then (message_Decode.j3 k x9 bt280.1 bt288.1 true bt293.2.1 bt293.2.2 x274000 x274001) else (message_Decode.j3 k x9 bt280.1 bt288.1 (decide ((rd bt280.1 0) > 4)) bt293.2.1 bt293.2.2 x274000 x274001)) else (none)) else (message_Decode.j4 k x9 bt293.2.1 bt293.2.2 x274000 x274001)))))) else (message_Decode.j4 k x9 x270000 x270001 x274000 x274001)
def message_Decode.j3 : Nat → Int → List Int → List Int → Bool → List Int → Int → Int → List (S28) → Option (Int × (List (S28)) × Int × Int)
 | 0, _, _, _, _, _, _, _, _ => none
 | k + 1, x9, x10, x11, x84, x270000, x270001, x274000, x274001 => if x84 = true then (message_Decode.l0 k (wrap64 (x9 + 1)) x270000 x270001 x274000 x274001) else (if 0 < (x10.length : Int) then ((message_part.f k (rd x10 0) x11).bind fun bt299 => (if bt299.2.2.2.2.2.2.2 = true then (if x274001.length < 3518437208883 then (message_Decode.l0 k x9 x270000 x270001 x274000 (x274001 ++ [(⟨bt299.1, bt299.2.1, bt299.2.2.1, (⟨bt299.2.2.2.1, bt299.2.2.2.2.1⟩ : S25), bt299.2.2.2.2.2.1, bt299.2.2.2.2.2.2.1⟩ : S28)])) else (none)) else (some (0, ([] : List (S28)), 0, 4)))) else (none))
end
def message_Decode.f (k : Nat) (l0 : List Int) : Option (Int × (List (S28)) × Int × Int) := if (wrap64 ((l0.length : Int) - 4)) < 2 then (some (0, ([] : List (S28)), 0, 5)) else (if 0 ≤ (wrap64 ((l0.length : Int) - 4)) then (if (wrap64 ((l0.length : Int) - 4)) ≤ (l0.length : Int) then ((tally_Sum.f k (l0.take ((wrap64 ((l0.length : Int) - 4)) : Int).toNat)).bind fun t260 => (if (strOfNums (l0.drop ((wrap64 ((l0.length : Int) - 4)) : Int).toNat)).toList = (strOfNums (([(t260) % 256, (t260 / 256) % 256, (t260 / 65536) % 256, (t260 / 16777216) % 256] : List Int))).toList then (if 0 < (l0.length : Int) then (message_Decode.j0 k l0 (wrap64 ((l0.length : Int) - 4)) ((rd l0 0) != 1)) else (none)) else (message_Decode.j0 k l0 (wrap64 ((l0.length : Int) - 4)) true))) else (none)) else (none))
theorem message_Decode.mono_l : ∀ k, (∀ y0 y1 y2, LeO (message_Decode.j0 k y0 y1 y2) (message_Decode.j0 (k + 1) y0 y1 y2)) ∧ (∀ y0 y1 y2 y3 y4, LeO (message_Decode.j4 k y0 y1 y2 y3 y4) (message_Decode.j4 (k + 1) y0 y1 y2 y3 y4)) ∧ (∀ y0 y1 y2 y3 y4, LeO (message_Decode.l0 k y0 y1 y2 y3 y4) (message_Decode.l0 (k + 1) y0 y1 y2 y3 y4)) ∧ (∀ y0 y1 y2 y3 y4 y5, LeO (message_Decode.j2 k y0 y1 y2 y3 y4 y5) (message_Decode.j2 (k + 1) y0 y1 y2 y3 y4 y5)) ∧ (∀ y0 y1 y2 y3 y4 y5 y6 y7, LeO (message_Decode.j3 k y0 y1 y2 y3 y4 y5 y6 y7) (message_Decode.j3 (k + 1) y0 y1 y2 y3 y4 y5 y6 y7))
 | 0 => ⟨fun _ _ _ r h => by simp [message_Decode.j0] at h, fun _ _ _ _ _ r h => by simp [message_Decode.j4] at h, fun _ _ _ _ _ r h => by simp [message_Decode.l0] at h, fun _ _ _ _ _ _ r h => by simp [message_Decode.j2] at h, fun _ _ _ _ _ _ _ _ r h => by simp [message_Decode.j3] at h⟩
 | k + 1 => by
  obtain ⟨ih0, ih1, ih2, ih3, ih4⟩ := message_Decode.mono_l k
  refine ⟨?_, ?_, ?_, ?_, ?_⟩
  · intro y0 y1 y2
    unfold message_Decode.j0
    repeat' first
    | (with_reducible exact ih0 _ _ _)
    | (with_reducible exact ih1 _ _ _ _ _)
    | (with_reducible exact ih2 _ _ _ _ _)
    | (with_reducible exact ih3 _ _ _ _ _ _)
    | (with_reducible exact ih4 _ _ _ _ _ _ _ _)
    | (with_reducible exact coin_Purse_Take.mono _ _ _ _)
    | (with_reducible exact message_part.mono _ _ _)
    | (with_reducible exact tally_Sum.mono _ _)
    | (with_reducible exact LeO.refl _)
    | (with_reducible exact LeO.none _)
    | (with_reducible refine LeO.ite ?_ ?_)
    | (with_reducible refine LeO.bind ?_ (fun _ => ?_))
    | exact ih0 _ _ _
    | exact ih1 _ _ _ _ _
    | exact ih2 _ _ _ _ _
    | exact ih3 _ _ _ _ _ _
    | exact ih4 _ _ _ _ _ _ _ _
    | exact coin_Purse_Take.mono _ _ _ _
    | exact message_part.mono _ _ _
    | exact tally_Sum.mono _ _
    | exact LeO.none _
    | refine LeO.ite ?_ ?_
    | refine LeO.bind ?_ (fun _ => ?_)
  · intro y0 y1 y2 y3 y4
    unfold message_Decode.j4
    repeat' first
    | (with_reducible exact ih0 _ _ _)
    | (with_reducible exact ih1 _ _ _ _ _)
    | (with_reducible exact ih2 _ _ _ _ _)
    | (with_reducible exact ih3 _ _ _ _ _ _)
    | (with_reducible exact ih4 _ _ _ _ _ _ _ _)
    | (with_reducible exact coin_Purse_Take.mono _ _ _ _)
    | (with_reducible exact message_part.mono _ _ _)
    | (with_reducible exact tally_Sum.mono _ _)
    | (with_reducible exact LeO.refl _)
    | (with_reducible exact LeO.none _)
    | (with_reducible refine LeO.ite ?_ ?_)
    | (with_reducible refine LeO.bind ?_ (fun _ => ?_))
    | exact ih0 _ _ _
    | exact ih1 _ _ _ _ _
    | exact ih2 _ _ _ _ _
    | exact ih3 _ _ _ _ _ _
    | exact ih4 _ _ _ _ _ _ _ _
    | exact coin_Purse_Take.mono _ _ _ _
    | exact message_part.mono _ _ _
    | exact tally_Sum.mono _ _
    | exact LeO.none _
    | refine LeO.ite ?_ ?_
    | refine LeO.bind ?_ (fun _ => ?_)
  · intro y0 y1 y2 y3 y4
    unfold message_Decode.l0
    repeat' first
    | (with_reducible exact ih0 _ _ _)
    | (with_reducible exact ih1 _ _ _ _ _)
    | (with_reducible exact ih2 _ _ _ _ _)
    | (with_reducible exact ih3 _ _ _ _ _ _)
    | (with_reducible exact ih4 _ _ _ _ _ _ _ _)
    | (with_reducible exact coin_Purse_Take.mono _ _ _ _)
    | (with_reducible exact message_part.mono _ _ _)
    | (with_reducible exact tally_Sum.mono _ _)
    | (with_reducible exact LeO.refl _)
    | (with_reducible exact LeO.none _)
    | (with_reducible refine LeO.ite ?_ ?_)
    | (with_reducible refine LeO.bind ?_ (fun _ => ?_))
    | exact ih0 _ _ _
    | exact ih1 _ _ _ _ _
    | exact ih2 _ _ _ _ _
    | exact ih3 _ _ _ _ _ _
    | exact ih4 _ _ _ _ _ _ _ _
    | exact coin_Purse_Take.mono _ _ _ _
    | exact message_part.mono _ _ _
    | exact tally_Sum.mono _ _
    | exact LeO.none _
    | refine LeO.ite ?_ ?_
    | refine LeO.bind ?_ (fun _ => ?_)
  · intro y0 y1 y2 y3 y4 y5
    unfold message_Decode.j2
    repeat' first
    | (with_reducible exact ih0 _ _ _)
    | (with_reducible exact ih1 _ _ _ _ _)
    | (with_reducible exact ih2 _ _ _ _ _)
    | (with_reducible exact ih3 _ _ _ _ _ _)
    | (with_reducible exact ih4 _ _ _ _ _ _ _ _)
    | (with_reducible exact coin_Purse_Take.mono _ _ _ _)
    | (with_reducible exact message_part.mono _ _ _)
    | (with_reducible exact tally_Sum.mono _ _)
    | (with_reducible exact LeO.refl _)
    | (with_reducible exact LeO.none _)
    | (with_reducible refine LeO.ite ?_ ?_)
    | (with_reducible refine LeO.bind ?_ (fun _ => ?_))
    | exact ih0 _ _ _
    | exact ih1 _ _ _ _ _
    | exact ih2 _ _ _ _ _
    | exact ih3 _ _ _ _ _ _
    | exact ih4 _ _ _ _ _ _ _ _
    | exact coin_Purse_Take.mono _ _ _ _
    | exact message_part.mono _ _ _
    | exact tally_Sum.mono _ _
    | exact LeO.none _
    | refine LeO.ite ?_ ?_
    | refine LeO.bind ?_ (fun _ => ?_)
  · intro y0 y1 y2 y3 y4 y5 y6 y7
    unfold message_Decode.j3
    repeat' first
    | (with_reducible exact ih0 _ _ _)
    | (with_reducible exact ih1 _ _ _ _ _)
    | (with_reducible exact ih2 _ _ _ _ _)
    | (with_reducible exact ih3 _ _ _ _ _ _)
    | (with_reducible exact ih4 _ _ _ _ _ _ _ _)
    | (with_reducible exact coin_Purse_Take.mono _ _ _ _)
    | (with_reducible exact message_part.mono _ _ _)
    | (with_reducible exact tally_Sum.mono _ _)
    | (with_reducible exact LeO.refl _)
    | (with_reducible exact LeO.none _)
    | (with_reducible refine LeO.ite ?_ ?_)
    | (with_reducible refine LeO.bind ?_ (fun _ => ?_))
    | exact ih0 _ _ _
    | exact ih1 _ _ _ _ _
    | exact ih2 _ _ _ _ _
    | exact ih3 _ _ _ _ _ _
    | exact ih4 _ _ _ _ _ _ _ _
    | exact coin_Purse_Take.mono _ _ _ _
    | exact message_part.mono _ _ _
    | exact tally_Sum.mono _ _
    | exact LeO.none _
    | refine LeO.ite ?_ ?_
    | refine LeO.bind ?_ (fun _ => ?_)
theorem message_Decode.mono : ∀ a0 k, LeO (message_Decode.f k a0) (message_Decode.f (k + 1) a0) := by
 intro a0 k
 obtain ⟨ih0, ih1, ih2, ih3, ih4⟩ := message_Decode.mono_l k
 unfold message_Decode.f
 repeat' first
  | (with_reducible exact ih0 _ _ _)
  | (with_reducible exact ih1 _ _ _ _ _)
  | (with_reducible exact ih2 _ _ _ _ _)
  | (with_reducible exact ih3 _ _ _ _ _ _)
  | (with_reducible exact ih4 _ _ _ _ _ _ _ _)
  | (with_reducible exact coin_Purse_Take.mono _ _ _ _)
  | (with_reducible exact message_part.mono _ _ _)
  | (with_reducible exact tally_Sum.mono _ _)
  | (with_reducible exact LeO.refl _)
  | (with_reducible exact LeO.none _)
  | (with_reducible refine LeO.ite ?_ ?_)
  | (with_reducible refine LeO.bind ?_ (fun _ => ?_))
  | exact ih0 _ _ _
  | exact ih1 _ _ _ _ _
  | exact ih2 _ _ _ _ _
  | exact ih3 _ _ _ _ _ _
  | exact ih4 _ _ _ _ _ _ _ _
  | exact coin_Purse_Take.mono _ _ _ _
  | exact message_part.mono _ _ _
  | exact tally_Sum.mono _ _
  | exact LeO.none _
  | refine LeO.ite ?_ ?_
  | refine LeO.bind ?_ (fun _ => ?_)
def message_Decode.T5 : Bool × List (List Nat × List Nat) := (true, [([], []), ([], []), ([0, 1], [0, 1]), ([2], [2]), ([], []), ([4], [4]), ([], []), ([6], [6]), ([7], [7]), ([], []), ([9], [9]), ([10], [10]), ([], []), ([12], [12]), ([13], [13]), ([5, 8, 11, 14], [5, 8, 11, 14]), ([15], [15]), ([3, 16], [3, 16]), ([17], [17]), ([18], [18]), ([19, 18], [18, 19]), ([20, 18], [18, 20]), ([21, 18], [18, 21]), ([18, 22], [18, 22])])
def message_Decode.B5 : List Nat := [0, 0, 3, 7, 0, 16, 0, 64, 192, 0, 512, 1536, 0, 4096, 12288, 32752, 65520, 131071, 262143, 524287, 1048575, 2097151, 4194303, 8388607]
theorem message_Decode.tab5 : rtab .any (opsOf Try.f16 5) = message_Decode.T5 := by kernel_rfl
theorem message_Decode.bits5 : waitsOk message_Decode.T5.2 message_Decode.B5 = true := by kernel_rfl
set_option maxHeartbeats 8000000 in
set_option maxRecDepth 100000 in
theorem message_Decode.calls (k : Nat) (A0 : Option Addr) (c0 : Nat) (l0 : List Int) (r1 : Int) (r2 : List (S28)) (r3 : Int) (r4 : Int) (w : World) (hr0 : Kd.C (Kd.int .u8) w A0 l0.length l0) (hc0 : l0.length ≤ c0) (h : message_Decode.f k l0 = some (r1, r2, r3, r4)) :
 Calls Try.prog 16 #[.slice A0 l0.length c0] w fun e w' => ∃ v1_ : Value, e = .returned (.tuple #[.agg #[.int .i64 r1, v1_], .int .i64 r3, .int .i64 r4]) ∧ Kd.R k28 28 w' w.heap.size (fun _ => True) v1_ r2 ∧ Below w.heap.size w w' := by
 have hu34 := Try.underlying34
 have hu28 := Try.underlying28
 have HR0 := Aside0.mk hr0
 have HC0 := Aside0.mk hc0
 clear hr0 hc0
 have HB := Aside0.mk (Below.refl w.heap.size w)
 have H : (if (wrap64 ((l0.length : Int) - 4)) < 2 then (some (0, ([] : List (S28)), 0, 5)) else (if 0 ≤ (wrap64 ((l0.length : Int) - 4)) then (if (wrap64 ((l0.length : Int) - 4)) ≤ (l0.length : Int) then ((tally_Sum.f k (l0.take ((wrap64 ((l0.length : Int) - 4)) : Int).toNat)).bind fun t260 => (if (strOfNums (l0.drop ((wrap64 ((l0.length : Int) - 4)) : Int).toNat)).toList = (strOfNums (([(t260) % 256, (t260 / 256) % 256, (t260 / 65536) % 256, (t260 / 16777216) % 256] : List Int))).toList then (if 0 < (l0.length : Int) then (message_Decode.j0 k l0 (wrap64 ((l0.length : Int) - 4)) ((rd l0 0) != 1)) else (none)) else (message_Decode.j0 k l0 (wrap64 ((l0.length : Int) - 4)) true))) else (none)) else (none))) = some (r1, r2, r3, r4) := h
 clear h
 by_cases c2 : (wrap64 ((l0.length : Int) - 4)) < 2
 · rw [if_pos c2] at H
   have c2b0 : decide ((wrap64 ((l0.length : Int) - 4)) < 2) = true := decide_eq_true c2
   clear c2
   simp only [Option.some.injEq, Prod.mk.injEq] at H
   obtain ⟨rfl, rfl, rfl, rfl⟩ := H
   go_enter Try.func16, Try.ntmps16
   go_wp2_with (first | ((with_reducible refine gate_dst (N := 2) rfl ?_); refine box_event ?hg (N := 2) ?hd (cs := #[.int .i64 0, .slice none 0 0]) (t := 34) ?hr ?_; (case hd => rfl); (case hg => rfl); (case hr => first | (go_simp; done)); intro gb258 hg w3 hbox hb; have n0_ := Aside0.mk (below_step (by repeat (first | (with_reducible first | exact HB.out | apply below_drew1))) hb); have n1_ := Aside0.mk (hbox); have n2_ := Aside0.mk ((by rw [hg]; exact (below_size (by repeat (first | (with_reducible first | exact HB.out | apply below_drew1)))) : w.heap.size ≤ gb258)); have n3_ := Aside0.mk ((by rw [hg]; exact (below_size (by repeat (first | (with_reducible first | exact HB.out | apply below_drew1)))) : w.heap.size ≤ gb258)); clear HB; have HB := n0_; have BK258 := n1_; have GW258 := n2_; have GE258 := n3_; clear n0_ n1_ n2_ n3_; clear hb hbox hg; have hcz4_0 : w3.cell? ⟨gb258, 0, none⟩ = some (.int .i64 0) := (blk_cell BK258.out 0).trans rfl; have hcz4_1 : w3.cell? ⟨gb258, 1, none⟩ = some (.slice none 0 0) := (blk_cell BK258.out 1).trans rfl; have hfz4_0 := blk_frozen BK258.out 0; have hfz4_1 := blk_frozen BK258.out 1))
   refine bodyPost_ret (results_ctt rfl _ _ gb258 34 #[.int .i64 0, .slice none 0 0] (0, 0) _ rfl (by refine blk_put (cs := #[.int .i64 0, .slice none 0 0]) ?_ 1 _ rfl; refine blk_put (cs := #[.int .i64 0, .slice none 0 0]) ?_ 0 _ rfl; exact BK258.out) Try.underlying34 rfl (by kernel_rfl)) rfl ?_
   exact ⟨_, by first | rfl | (simp [*, errW_none, errW_some] <;> rfl), by first | exact Kd.R_nil _ _ _ _ _ | exact Kd.S_nil _ _ _ _ _, by repeat (first | (with_reducible first | exact HB.out | refine below_set ?_ GE258.out))⟩
 · rw [if_neg c2] at H
   have c2b0 : decide ((wrap64 ((l0.length : Int) - 4)) < 2) = false := decide_eq_false c2
   clear c2
   obtain ⟨ji5, hji5⟩ : ∃ j_ : Int, (wrap64 ((l0.length : Int) - 4)) = j_ := ⟨_, rfl⟩
   replace H : (if 0 ≤ (ji5) then (if (ji5) ≤ (l0.length : Int) then ((tally_Sum.f k (l0.take ((ji5) : Int).toNat)).bind fun t260 => (if (strOfNums (l0.drop ((ji5) : Int).toNat)).toList = (strOfNums (([(t260) % 256, (t260 / 256) % 256, (t260 / 65536) % 256, (t260 / 16777216) % 256] : List Int))).toList then (if 0 < (l0.length : Int) then (message_Decode.j0 k l0 ji5 ((rd l0 0) != 1)) else (none)) else (message_Decode.j0 k l0 ji5 true))) else (none)) else (none)) = some (r1, r2, r3, r4) := by first | (rw [hji5] at H; exact H)
   (try rw [hji5] at c2b0)
   have hji5w : (IntKind.i64.wrap ((l0.length : Int) - 4)) = ji5 := (i64_w _).trans hji5
   by_cases c6 : 0 ≤ (ji5)
   · rw [if_pos c6] at H
     have c6b0 := eq_true c6
     have c6b1 : decide (0 ≤ (ji5)) = true := decide_eq_true c6
     clear c6
     by_cases c7 : (ji5) ≤ (l0.length : Int)
     · rw [if_pos c7] at H
       have c7b0 := eq_true c7
       have c7b1 : decide ((ji5) ≤ (l0.length : Int)) = true := decide_eq_true c7
       clear c7
       replace H := Option.bind_eq_some_iff.mp H
       obtain ⟨t260, A80, H⟩ := H
       replace H : (if (strOfNums (l0.drop ((ji5) : Int).toNat)).toList = (strOfNums (([(t260) % 256, (t260 / 256) % 256, (t260 / 65536) % 256, (t260 / 16777216) % 256] : List Int))).toList then (if 0 < (l0.length : Int) then (message_Decode.j0 k l0 ji5 ((rd l0 0) != 1)) else (none)) else (message_Decode.j0 k l0 ji5 true)) = some (r1, r2, r3, r4) := H
       have A8 := Aside0.mk A80
       clear A80
       have HC9 := Aside0.mk H
       clear H
       go_enter Try.func16, Try.ntmps16
       go_upto_region 5 with (first | ((with_reducible refine gate_dst (N := 2) rfl ?_); refine box_event ?hg (N := 2) ?hd (cs := #[.int .i64 0, .slice none 0 0]) (t := 34) ?hr ?_; (case hd => rfl); (case hg => rfl); (case hr => first | (go_simp; done)); intro gb258 hg w10 hbox hb; have n0_ := Aside0.mk (below_step (by repeat (first | (with_reducible first | exact HB.out | apply below_drew1))) hb); have n1_ := Aside0.mk (hbox); have n2_ := Aside0.mk ((by rw [hg]; exact (below_size (by repeat (first | (with_reducible first | exact HB.out | apply below_drew1)))) : w.heap.size ≤ gb258)); have n3_ := Aside0.mk ((by rw [hg]; exact (below_size (by repeat (first | (with_reducible first | exact HB.out | apply below_drew1)))) : w.heap.size ≤ gb258)); clear HB; have HB := n0_; have BK258 := n1_; have GW258 := n2_; have GE258 := n3_; clear n0_ n1_ n2_ n3_; clear hb hbox hg; obtain ⟨i011, hi011, _, hsz11, _⟩ := info_parts info5; obtain ⟨hcut11, hA11, hC11⟩ := print_take_of (P := Try.prog) (Value.int .u8) 0 30 5 .i64 Try.underlying30 hi011 hsz11 A0 c0 l0 (ji5) (of_decide_eq_true (by first | (with_reducible assumption))) (of_decide_eq_true (by first | (with_reducible assumption))) HC0.out; have HR259 := Aside0.mk (Kd.C_of_reads (h1 := fun _ => rfl) (hA11 _ (Kd.reads_of_C HR0.out))); have HC259 := Aside0.mk hC11; clear hA11 hC11 hi011 hsz11; have hSL11 := Aside0.mk (show (l0.take ((ji5) : Int).toNat).length = (ji5).toNat from (by rw [List.length_take]; have h_ : ((ji5) : Int) ≤ (l0.length : Int) := of_decide_eq_true (by first | (with_reducible assumption)); omega))) | ((with_reducible refine gate_callee (f := 22) rfl ?_); refine goesL_ (some 23) rfl rfl Try.func22 (by kernel_rfl) rfl #[.slice A0 (l0.take ((ji5) : Int).toNat).length c0] rfl (by (try simp only [List.map_toArray, List.map_cons, List.map_nil]); first | (rw [show (l0.take ((ji5) : Int).toNat).length = (ji5).toNat from hSL11.out] <;> rfl) | (refine qa_arr ?_; (repeat' (first | rfl | refine qa_cons ?_ ?_ | refine qa_int ?_ | refine qa_agg ?_ | refine qa_arr ?_ | omega)); done)) ?_; (with_reducible refine (tally_Sum.calls k _ _ (l0.take ((ji5) : Int).toNat) t260 _ ?side1 ?side2 A8.out).mono ?_); (case side1 => repeat (first | exact (Kd.C_below HR259.out HB.out) | (with_reducible refine Kd.C_drew ?_))); (case side2 => exact HC259.out); rintro e w' ⟨rfl, ⟨nd, rfl⟩⟩; refine ⟨_, rfl, ?_⟩))
       (try simp only [Act.put, List.setIfInBounds_toArray, List.set_cons_zero, List.set_cons_succ])
       go_cut [47] (fun v47 wc => ∃ (kq : Nat) (x47_8 : Bool), v47 = .bool x47_8 ∧ Aside0 (message_Decode.j0 kq l0 ji5 x47_8 = some (r1, r2, r3, r4)) ∧ Aside0 (kq ≤ k) ∧ Aside0 (wc.heap[gb258]? = some (.cells #[.int .i64 0, (.slice none 0 0)] 34 (0, 0))) ∧ Aside0 (Below w.heap.size w wc))
       case first =>
        have n0_ := Aside0.mk (blk_drewN BK258.out nd)
        have n1_ := Aside0.mk (pw_below_drewN HB.out nd)
        clear BK258 HB
        have BK258 := n0_
        have HB := n1_
        clear n0_ n1_
        generalize w10.drewN nd = w10 at BK258 HB ⊢
        have H := HC9.out
        clear HC9
        have c12b0 := eq_true (of_decide_eq_true (by first | (with_reducible assumption)) : 0 ≤ (ji5))
        have c13b0 := eq_true (of_decide_eq_true (by first | (with_reducible assumption)) : (ji5) ≤ (l0.length : Int))
        obtain ⟨y262, hy262⟩ : ∃ y_ : List Int, y_ = (([(t260) % 256, (t260 / 256) % 256, (t260 / 65536) % 256, (t260 / 16777216) % 256] : List Int)) := ⟨_, rfl⟩
        replace H : (if (strOfNums (l0.drop ((ji5) : Int).toNat)).toList = (strOfNums y262).toList then (if 0 < (l0.length : Int) then (message_Decode.j0 k l0 ji5 ((rd l0 0) != 1)) else (none)) else (message_Decode.j0 k l0 ji5 true)) = some (r1, r2, r3, r4) := by first | (rw [hy262]; with_reducible exact H) | exact H
        have Ny262 := Aside0.mk hy262
        clear hy262
        by_cases c14 : (strOfNums (l0.drop ((ji5) : Int).toNat)).toList = (strOfNums y262).toList
        · rw [if_pos c14] at H
          have c14b0 : ((strOfNums (l0.drop ((ji5) : Int).toNat)).toList == (strOfNums y262).toList) = true := beq_iff_eq.mpr c14
          have c14b1 : ((strOfNums (l0.drop ((ji5) : Int).toNat)).toList != (strOfNums y262).toList) = false := bne_eq_false_iff_eq.mpr c14
          clear c14
          (first | skip)
          by_cases c15 : 0 < (l0.length : Int)
          · rw [if_pos c15] at H
            have c15b0 : decide (0 < (l0.length : Int)) = true := decide_eq_true c15
            have c15b1 : decide (0 < l0.length) = true := decide_eq_true (by omega)
            clear c15
            have H' := Aside0.mk H
            clear H
            try go_wp2
            have n0_ := Aside0.mk (blk_drew BK258.out)
            have n1_ := Aside0.mk (below_drew1 HB.out)
            clear BK258
            clear HB
            have BK258 := n0_
            have HB := n1_
            clear n0_ n1_
            obtain ⟨i017, hi017, _, hsz17, _⟩ := info_parts info5
            obtain ⟨A17, hcut17, hA17, hC17⟩ := print_drop_of (P := Try.prog) (Value.int .u8) 0 30 5 .i64 Try.underlying30 hi017 hsz17 A0 c0 l0 (ji5) (of_decide_eq_true (by first | (with_reducible assumption))) (of_decide_eq_true (by first | (with_reducible assumption))) HC0.out
            have HR261 := Aside0.mk (Kd.C_of_reads (h1 := fun _ => rfl) (hA17 _ (Kd.reads_of_C HR0.out)))
            have HC261 := Aside0.mk hC17
            clear hA17 hC17 hi017 hsz17
            have p265 : 0 ≤ (0 : Int) := (by omega)
            have q265 : 0 < (l0.length : Int) := of_decide_eq_true (by first | (with_reducible assumption))
            obtain ⟨ad265, e265, hx265_0⟩ := Kd.at_int HR0.out 0 p265 q265
            have hw265_0 := hx265_0
            (try rw [show ((0 : Int)).toNat = 0 from rfl] at hw265_0)
            (try rw [show 0 * 1 = 0 from rfl] at hw265_0)
            (try rw [Addr.add_zero'] at hw265_0)
            cases e265
            have qi265 : (0 < l0.length) = True := eq_true (by omega)
            (try rw [show ((0 : Int)).toNat = 0 from rfl] at hx265_0)
            (try rw [Addr.add_zero'] at hx265_0)
            replace hx265_0 := (HB.out.cell (World.block_lt_of_cell? w _ hx265_0)).trans hx265_0
            replace p265 := eq_true p265
            replace q265 := eq_true q265
            refine start_ (n := 24) (S := fun w' => (convert 30 9 (.slice A17 (l0.length - (ji5).toNat) (c0 - (ji5).toNat))).run Try.prog w' = .ok (.string (strOfNums (l0.drop ((ji5) : Int).toNat))) w' ∧ w'.cell? ad265 = some (.int .u8 (rd l0 0))) (ds := []) #[false, false, false, false, false, false, false, false, false, false, false, false, false, false, false, false, false, false, false, false, false, false, false, false] (by kernel_rfl) rfl rfl ⟨(by have h_ := Kd.C_string (P := Try.prog) (A := A17) (c := (c0 - (ji5).toNat)) Try.underlying30 Try.underlying5 Try.underlying9 (Kd.C_below HR261.out HB.out); rw [show (l0.drop ((ji5) : Int).toNat).length = (l0.length - (ji5).toNat) from List.length_drop] at h_; exact h_), ((HB.out.cell (World.block_lt_of_cell? w _ hw265_0)).trans hw265_0)⟩ (fun hHeld => ?_); refine with_tabW message_Decode.tab5 message_Decode.bits5 (fun HT_ HW_ => ?_)
            generalize w10.drew = w16 at BK258 HB HR261 hx265_0 hHeld ⊢
            refine pure_ (i := 0) (N := some 24) (v := ?_) (a' := ?_) #[true, false, false, false, false, false, false, false, false, false, false, false, false, false, false, false, false, false, false, false, false, false, false, false] rfl rfl (any_of HT_.out (by kernel_rfl)) (fun _ _ _ h => h) (Or.inl ⟨by rfl, ?_⟩) ?_ ?_
            rotate_left
            · intro w'
              go_simp
              with_reducible rfl
            rotate_left
            · simp only [Act.put, List.setIfInBounds_toArray, List.set_cons_zero, List.set_cons_succ, i64_w, i32_w]
              rfl
            refine pure_ (i := 1) (N := some 25) (v := ?_) (a' := ?_) #[true, true, false, false, false, false, false, false, false, false, false, false, false, false, false, false, false, false, false, false, false, false, false, false] rfl rfl (any_of HT_.out (by kernel_rfl)) (fun _ _ _ h => h) (Or.inl ⟨by rfl, ?_⟩) ?_ ?_
            rotate_left
            · intro w'
              go_simp
              with_reducible rfl
            rotate_left
            · simp only [Act.put, List.setIfInBounds_toArray, List.set_cons_zero, List.set_cons_succ, i64_w, i32_w]
              rfl
            refine pure_ (i := 2) (N := some 26) (v := ?_) (a' := ?_) #[true, true, true, false, false, false, false, false, false, false, false, false, false, false, false, false, false, false, false, false, false, false, false, false] rfl rfl (any_of HT_.out (by kernel_rfl)) (fun _ _ _ h => h) (Or.inl ⟨by rfl, ?_⟩) ?_ ?_
            rotate_left
            · intro w'
              go_simp
              with_reducible rfl
            rotate_left
            · simp only [Act.put, List.setIfInBounds_toArray, List.set_cons_zero, List.set_cons_succ, i64_w, i32_w]
              rfl
            refine pure_ (i := 4) (N := some 28) (v := ?_) (a' := ?_) #[true, true, true, false, true, false, false, false, false, false, false, false, false, false, false, false, false, false, false, false, false, false, false, false] rfl rfl (any_of HT_.out (by kernel_rfl)) (fun _ _ _ h => h) (Or.inl ⟨by rfl, ?_⟩) ?_ ?_
            rotate_left
            · intro w'
              go_simp
              with_reducible rfl
            rotate_left
            · simp only [Act.put, List.setIfInBounds_toArray, List.set_cons_zero, List.set_cons_succ, i64_w, i32_w]
              rfl
            refine pure_ (i := 5) (N := some 29) (v := ?_) (a' := ?_) #[true, true, true, false, true, true, false, false, false, false, false, false, false, false, false, false, false, false, false, false, false, false, false, false] rfl rfl (any_of HT_.out (by kernel_rfl)) (fun _ _ _ h => h) (Or.inl ⟨by rfl, ?_⟩) ?_ ?_
            rotate_left
            · intro w'
              go_simp
              with_reducible rfl
            rotate_left
            · simp only [Act.put, List.setIfInBounds_toArray, List.set_cons_zero, List.set_cons_succ, i64_w, i32_w]
              rfl
            refine pure_ (i := 6) (N := some 30) (v := ?_) (a' := ?_) #[true, true, true, false, true, true, true, false, false, false, false, false, false, false, false, false, false, false, false, false, false, false, false, false] rfl rfl (any_of HT_.out (by kernel_rfl)) (fun _ _ _ h => h) (Or.inl ⟨by rfl, ?_⟩) ?_ ?_
            rotate_left
            · intro w'
              go_simp
              with_reducible rfl
            rotate_left
            · simp only [Act.put, List.setIfInBounds_toArray, List.set_cons_zero, List.set_cons_succ, i64_w, i32_w]
              rfl
            refine pure_ (i := 7) (N := some 31) (v := ?_) (a' := ?_) #[true, true, true, false, true, true, true, true, false, false, false, false, false, false, false, false, false, false, false, false, false, false, false, false] rfl rfl (any_of HT_.out (by kernel_rfl)) (fun _ _ _ h => h) (Or.inl ⟨by rfl, ?_⟩) ?_ ?_
            rotate_left
            · intro w'
              go_simp
              with_reducible rfl
            rotate_left
            · simp only [Act.put, List.setIfInBounds_toArray, List.set_cons_zero, List.set_cons_succ, i64_w, i32_w]
              rfl
            refine pure_ (i := 8) (N := some 32) (v := ?_) (a' := ?_) #[true, true, true, false, true, true, true, true, true, false, false, false, false, false, false, false, false, false, false, false, false, false, false, false] rfl rfl (any_of HT_.out (by kernel_rfl)) (fun _ _ _ h => h) (Or.inl ⟨by rfl, ?_⟩) ?_ ?_
            rotate_left
            · intro w'
              go_simp
              with_reducible rfl
            rotate_left
            · simp only [Act.put, List.setIfInBounds_toArray, List.set_cons_zero, List.set_cons_succ, i64_w, i32_w]
              rfl
            refine pure_ (i := 9) (N := some 33) (v := ?_) (a' := ?_) #[true, true, true, false, true, true, true, true, true, true, false, false, false, false, false, false, false, false, false, false, false, false, false, false] rfl rfl (any_of HT_.out (by kernel_rfl)) (fun _ _ _ h => h) (Or.inl ⟨by rfl, ?_⟩) ?_ ?_
            rotate_left
            · intro w'
              go_simp
              with_reducible rfl
            rotate_left
            · simp only [Act.put, List.setIfInBounds_toArray, List.set_cons_zero, List.set_cons_succ, i64_w, i32_w]
              rfl
            refine pure_ (i := 10) (N := some 34) (v := ?_) (a' := ?_) #[true, true, true, false, true, true, true, true, true, true, true, false, false, false, false, false, false, false, false, false, false, false, false, false] rfl rfl (any_of HT_.out (by kernel_rfl)) (fun _ _ _ h => h) (Or.inl ⟨by rfl, ?_⟩) ?_ ?_
            rotate_left
            · intro w'
              go_simp
              with_reducible rfl
            rotate_left
            · simp only [Act.put, List.setIfInBounds_toArray, List.set_cons_zero, List.set_cons_succ, i64_w, i32_w]
              rfl
            refine pure_ (i := 11) (N := some 35) (v := ?_) (a' := ?_) #[true, true, true, false, true, true, true, true, true, true, true, true, false, false, false, false, false, false, false, false, false, false, false, false] rfl rfl (any_of HT_.out (by kernel_rfl)) (fun _ _ _ h => h) (Or.inl ⟨by rfl, ?_⟩) ?_ ?_
            rotate_left
            · intro w'
              go_simp
              with_reducible rfl
            rotate_left
            · simp only [Act.put, List.setIfInBounds_toArray, List.set_cons_zero, List.set_cons_succ, i64_w, i32_w]
              rfl
            refine pure_ (i := 12) (N := some 36) (v := ?_) (a' := ?_) #[true, true, true, false, true, true, true, true, true, true, true, true, true, false, false, false, false, false, false, false, false, false, false, false] rfl rfl (any_of HT_.out (by kernel_rfl)) (fun _ _ _ h => h) (Or.inl ⟨by rfl, ?_⟩) ?_ ?_
            rotate_left
            · intro w'
              go_simp
              with_reducible rfl
            rotate_left
            · simp only [Act.put, List.setIfInBounds_toArray, List.set_cons_zero, List.set_cons_succ, i64_w, i32_w]
              rfl
            refine pure_ (i := 13) (N := some 37) (v := ?_) (a' := ?_) #[true, true, true, false, true, true, true, true, true, true, true, true, true, true, false, false, false, false, false, false, false, false, false, false] rfl rfl (any_of HT_.out (by kernel_rfl)) (fun _ _ _ h => h) (Or.inl ⟨by rfl, ?_⟩) ?_ ?_
            rotate_left
            · intro w'
              go_simp
              with_reducible rfl
            rotate_left
            · simp only [Act.put, List.setIfInBounds_toArray, List.set_cons_zero, List.set_cons_succ, i64_w, i32_w]
              rfl
            refine pure_ (i := 14) (N := some 38) (v := ?_) (a' := ?_) #[true, true, true, false, true, true, true, true, true, true, true, true, true, true, true, false, false, false, false, false, false, false, false, false] rfl rfl (any_of HT_.out (by kernel_rfl)) (fun _ _ _ h => h) (Or.inl ⟨by rfl, ?_⟩) ?_ ?_
            rotate_left
            · intro w'
              go_simp
              with_reducible rfl
            rotate_left
            · simp only [Act.put, List.setIfInBounds_toArray, List.set_cons_zero, List.set_cons_succ, i64_w, i32_w]
              rfl
            refine take_ (i := 3) (N := some 27) (v := ?_) (a' := ?_) #[true, true, true, true, true, true, true, true, true, true, true, true, true, true, true, false, false, false, false, false, false, false, false, false] rfl rfl (take_ofW HT_.out HW_.out (by kernel_rfl)) (fun _ _ _ h => h) (Or.inl ⟨by rfl, ?_⟩) hHeld ?_ ?_
            rotate_left
            · rintro w' ⟨s0, s1⟩
              go_simp
              with_reducible rfl
            rotate_left
            · simp only [Act.put, List.setIfInBounds_toArray, List.set_cons_zero, List.set_cons_succ, i64_w, i32_w]
              rfl
            refine one_ (i := 15) (N := some 39) #[true, true, true, true, true, true, true, true, true, true, true, true, true, true, true, true, false, false, false, false, false, false, false, false] rfl rfl (one_of HT_.out (by kernel_rfl)) (by decide) (fun K hK => ?_)
            refine Kd.R_lit_step (Kd.int .u8) _ 5 ?hg (N := 39) ?hd (xs := ([(t260) % 256, (t260 / 256) % 256, (t260 / 65536) % 256, (t260 / 16777216) % 256] : List Int)) (inner := [.int .u8 ((t260) % 256), .int .u8 ((t260 / 256) % 256), .int .u8 ((t260 / 65536) % 256), .int .u8 ((t260 / 16777216) % 256)]) (ok := fun _ => True) (okp := fun _ => True) ?hr ?hp (fun _ hk => hk) trivial (Below.refl _ _) (Nat.le_refl _) (by simp) ?_; (case hd => rfl); (case hg => rfl); (case hr => first | (go_simp; rfl)); (case hp => exact (Reps.one (show Kd.M (Kd.int .u8) _ _ _ ((t260) % 256) [.int .u8 ((t260) % 256)] from rfl) (Reps.one (show Kd.M (Kd.int .u8) _ _ _ ((t260 / 256) % 256) [.int .u8 ((t260 / 256) % 256)] from rfl) (Reps.one (show Kd.M (Kd.int .u8) _ _ _ ((t260 / 65536) % 256) [.int .u8 ((t260 / 65536) % 256)] from rfl) (Reps.one (show Kd.M (Kd.int .u8) _ _ _ ((t260 / 16777216) % 256) [.int .u8 ((t260 / 16777216) % 256)] from rfl) (Reps.none _ _))))))
            intro v263 w18 ho19 hb hg_ hnew_
            clear hg_ hnew_
            (first | rw [← Ny262.out] at ho19)
            have n0_ := Aside0.mk (Kd.R_lower ho19 (below_size (by repeat (first | (with_reducible first | exact HB.out | refine below_set ?_ GE258.out)))))
            have n1_ := Aside0.mk (blk_below (g := gb258) (o := .cells #[.int .i64 0, .slice none 0 0] 34 (0, 0)) (by exact BK258.out) hb)
            have n2_ := Aside0.mk (below_step (by repeat (first | (with_reducible first | exact HB.out | refine below_set ?_ GE258.out))) hb)
            clear BK258
            clear HB
            have HO264 := n0_
            have BK258 := n1_
            have HB := n2_
            clear n0_ n1_ n2_
            clear hb ho19
            refine hK.out _ _ ⟨(by have h_ := Kd.C_string (P := Try.prog) (A := A17) (c := (c0 - (ji5).toNat)) Try.underlying30 Try.underlying5 Try.underlying9 (Kd.C_below HR261.out HB.out); rw [show (l0.drop ((ji5) : Int).toNat).length = (l0.length - (ji5).toNat) from List.length_drop] at h_; exact h_), ((HB.out.cell (World.block_lt_of_cell? w _ hw265_0)).trans hw265_0)⟩ (fun hHeld => ?_)
            clear hK K
            refine norm_ (a' := ?_) ?_ ?_
            rotate_left
            · show Act.put _ (some 39) _ = _
              simp only [Act.put, List.setIfInBounds_toArray, List.set_cons_zero, List.set_cons_succ, i64_w, i32_w]
              rfl
            refine one_ (i := 16) (N := some 40) #[true, true, true, true, true, true, true, true, true, true, true, true, true, true, true, true, true, false, false, false, false, false, false, false] rfl rfl (one_of HT_.out (by kernel_rfl)) (by decide) (fun K hK => ?_)
            have hcv20 := own_string (P := Try.prog) Try.underlying30 Try.underlying5 Try.underlying9 (Kd.own_of_R HO264.out)
            refine value_ (w1 := ?_) (v := ?_) (by rfl) rfl ?_ ?_
            rotate_left 2
            · go_simp
              constructor
              · rfl
              · rfl
            clear hcv20
            refine hK.out _ _ ⟨(by have h_ := Kd.C_string (P := Try.prog) (A := A17) (c := (c0 - (ji5).toNat)) Try.underlying30 Try.underlying5 Try.underlying9 (Kd.C_below HR261.out HB.out); rw [show (l0.drop ((ji5) : Int).toNat).length = (l0.length - (ji5).toNat) from List.length_drop] at h_; exact h_), ((HB.out.cell (World.block_lt_of_cell? w _ hw265_0)).trans hw265_0)⟩ (fun hHeld => ?_)
            clear hK K
            refine norm_ (a' := ?_) ?_ ?_
            rotate_left
            · show Act.put _ (some 40) _ = _
              simp only [Act.put, List.setIfInBounds_toArray, List.set_cons_zero, List.set_cons_succ, i64_w, i32_w]
              rfl
            refine pure_ (i := 17) (N := some 41) (v := ?_) (a' := ?_) #[true, true, true, true, true, true, true, true, true, true, true, true, true, true, true, true, true, true, false, false, false, false, false, false] rfl rfl (any_of HT_.out (by kernel_rfl)) (fun _ _ _ h => h) (Or.inl ⟨by rfl, ?_⟩) ?_ ?_
            rotate_left
            · intro w'
              go_simp
              with_reducible rfl
            rotate_left
            · simp only [Act.put, List.setIfInBounds_toArray, List.set_cons_zero, List.set_cons_succ, i64_w, i32_w]
              rfl
            refine pure_ (i := 18) (N := some 42) (v := ?_) (a' := ?_) #[true, true, true, true, true, true, true, true, true, true, true, true, true, true, true, true, true, true, true, false, false, false, false, false] rfl rfl (any_of HT_.out (by kernel_rfl)) (fun _ _ _ h => h) (Or.inl ⟨by rfl, ?_⟩) ?_ ?_
            rotate_left
            · intro w'
              go_simp
              with_reducible rfl
            rotate_left
            · simp only [Act.put, List.setIfInBounds_toArray, List.set_cons_zero, List.set_cons_succ, i64_w, i32_w]
              rfl
            refine pure_ (i := 19) (N := some 43) (v := ?_) (a' := ?_) #[true, true, true, true, true, true, true, true, true, true, true, true, true, true, true, true, true, true, true, true, false, false, false, false] rfl rfl (any_of HT_.out (by kernel_rfl)) (fun _ _ _ h => h) (Or.inl ⟨by rfl, ?_⟩) ?_ ?_
            rotate_left
            · intro w'
              go_simp
              with_reducible rfl
            rotate_left
            · simp only [Act.put, List.setIfInBounds_toArray, List.set_cons_zero, List.set_cons_succ, i64_w, i32_w]
              rfl
            refine pure_ (i := 20) (N := some 44) (v := ?_) (a' := ?_) #[true, true, true, true, true, true, true, true, true, true, true, true, true, true, true, true, true, true, true, true, true, false, false, false] rfl rfl (any_of HT_.out (by kernel_rfl)) (fun _ _ _ h => h) (Or.inl ⟨by rfl, ?_⟩) ?_ ?_
            rotate_left
            · intro w'
              go_simp
              with_reducible rfl
            rotate_left
            · simp only [Act.put, List.setIfInBounds_toArray, List.set_cons_zero, List.set_cons_succ, i64_w, i32_w]
              rfl
            refine take_ (i := 21) (N := some 45) (v := ?_) (a' := ?_) #[true, true, true, true, true, true, true, true, true, true, true, true, true, true, true, true, true, true, true, true, true, true, false, false] rfl rfl (take_ofW HT_.out HW_.out (by kernel_rfl)) (fun _ _ _ h => h) (Or.inl ⟨by rfl, ?_⟩) hHeld ?_ ?_
            rotate_left
            · rintro w' ⟨s0, s1⟩
              go_simp
              with_reducible rfl
            rotate_left
            · simp only [Act.put, List.setIfInBounds_toArray, List.set_cons_zero, List.set_cons_succ, i64_w, i32_w]
              rfl
            refine pure_ (i := 22) (N := some 46) (v := ?_) (a' := ?_) #[true, true, true, true, true, true, true, true, true, true, true, true, true, true, true, true, true, true, true, true, true, true, true, false] rfl rfl (any_of HT_.out (by kernel_rfl)) (fun _ _ _ h => h) (Or.inl ⟨by rfl, ?_⟩) ?_ ?_
            rotate_left
            · intro w'
              go_simp
              with_reducible rfl
            rotate_left
            · simp only [Act.put, List.setIfInBounds_toArray, List.set_cons_zero, List.set_cons_succ, i64_w, i32_w]
              rfl
            refine pure_ (i := 23) (N := some 47) (v := ?_) (a' := ?_) #[true, true, true, true, true, true, true, true, true, true, true, true, true, true, true, true, true, true, true, true, true, true, true, true] rfl rfl (any_of HT_.out (by kernel_rfl)) (fun _ _ _ h => h) (Or.inl ⟨by rfl, ?_⟩) ?_ ?_
            rotate_left
            · intro w'
              go_simp
              with_reducible rfl
            rotate_left
            · simp only [Act.put, List.setIfInBounds_toArray, List.set_cons_zero, List.set_cons_succ, i64_w, i32_w]
              rfl
            refine done_ (done_of HT_.out (by kernel_rfl)) ?_
            try go_wp2
            go_meet
            case rel => exact ⟨_, (((rd l0 0) != 1)), (by first | rfl | (refine qa_int ?_; simp <;> omega)), H', ⟨by first | omega⟩, ⟨by exact BK258.out⟩, ⟨by repeat (first | (with_reducible first | exact HB.out | refine below_set ?_ GE258.out))⟩⟩
          · rw [if_neg c15] at H
            exact absurd H (by simp)
        · rw [if_neg c14] at H
          have c14b0 : ((strOfNums (l0.drop ((ji5) : Int).toNat)).toList == (strOfNums y262).toList) = false := beq_eq_false_iff_ne.mpr c14
          have c14b1 : ((strOfNums (l0.drop ((ji5) : Int).toNat)).toList != (strOfNums y262).toList) = true := bne_iff_ne.mpr c14
          (first | skip)
          have H' := Aside0.mk H
          clear H
          try go_wp2
          have n0_ := Aside0.mk (blk_drew BK258.out)
          have n1_ := Aside0.mk (below_drew1 HB.out)
          clear BK258
          clear HB
          have BK258 := n0_
          have HB := n1_
          clear n0_ n1_
          obtain ⟨i022, hi022, _, hsz22, _⟩ := info_parts info5
          obtain ⟨A22, hcut22, hA22, hC22⟩ := print_drop_of (P := Try.prog) (Value.int .u8) 0 30 5 .i64 Try.underlying30 hi022 hsz22 A0 c0 l0 (ji5) (of_decide_eq_true (by first | (with_reducible assumption))) (of_decide_eq_true (by first | (with_reducible assumption))) HC0.out
          have HR261 := Aside0.mk (Kd.C_of_reads (h1 := fun _ => rfl) (hA22 _ (Kd.reads_of_C HR0.out)))
          have HC261 := Aside0.mk hC22
          clear hA22 hC22 hi022 hsz22
          refine start_ (n := 24) (S := fun w' => (convert 30 9 (.slice A22 (l0.length - (ji5).toNat) (c0 - (ji5).toNat))).run Try.prog w' = .ok (.string (strOfNums (l0.drop ((ji5) : Int).toNat))) w') (ds := []) #[false, false, false, false, false, false, false, false, false, false, false, false, false, false, false, false, false, false, false, false, false, false, false, false] (by kernel_rfl) rfl rfl ((by have h_ := Kd.C_string (P := Try.prog) (A := A22) (c := (c0 - (ji5).toNat)) Try.underlying30 Try.underlying5 Try.underlying9 (Kd.C_below HR261.out HB.out); rw [show (l0.drop ((ji5) : Int).toNat).length = (l0.length - (ji5).toNat) from List.length_drop] at h_; exact h_)) (fun hHeld => ?_); refine with_tabW message_Decode.tab5 message_Decode.bits5 (fun HT_ HW_ => ?_)
          generalize w10.drew = w21 at BK258 HB HR261 hHeld ⊢
          refine pure_ (i := 0) (N := some 24) (v := ?_) (a' := ?_) #[true, false, false, false, false, false, false, false, false, false, false, false, false, false, false, false, false, false, false, false, false, false, false, false] rfl rfl (any_of HT_.out (by kernel_rfl)) (fun _ _ _ h => h) (Or.inl ⟨by rfl, ?_⟩) ?_ ?_
          rotate_left
          · intro w'
            go_simp
            with_reducible rfl
          rotate_left
          · simp only [Act.put, List.setIfInBounds_toArray, List.set_cons_zero, List.set_cons_succ, i64_w, i32_w]
            rfl
          refine pure_ (i := 1) (N := some 25) (v := ?_) (a' := ?_) #[true, true, false, false, false, false, false, false, false, false, false, false, false, false, false, false, false, false, false, false, false, false, false, false] rfl rfl (any_of HT_.out (by kernel_rfl)) (fun _ _ _ h => h) (Or.inl ⟨by rfl, ?_⟩) ?_ ?_
          rotate_left
          · intro w'
            go_simp
            with_reducible rfl
          rotate_left
          · simp only [Act.put, List.setIfInBounds_toArray, List.set_cons_zero, List.set_cons_succ, i64_w, i32_w]
            rfl
          refine pure_ (i := 2) (N := some 26) (v := ?_) (a' := ?_) #[true, true, true, false, false, false, false, false, false, false, false, false, false, false, false, false, false, false, false, false, false, false, false, false] rfl rfl (any_of HT_.out (by kernel_rfl)) (fun _ _ _ h => h) (Or.inl ⟨by rfl, ?_⟩) ?_ ?_
          rotate_left
          · intro w'
            go_simp
            with_reducible rfl
          rotate_left
          · simp only [Act.put, List.setIfInBounds_toArray, List.set_cons_zero, List.set_cons_succ, i64_w, i32_w]
            rfl
          refine pure_ (i := 4) (N := some 28) (v := ?_) (a' := ?_) #[true, true, true, false, true, false, false, false, false, false, false, false, false, false, false, false, false, false, false, false, false, false, false, false] rfl rfl (any_of HT_.out (by kernel_rfl)) (fun _ _ _ h => h) (Or.inl ⟨by rfl, ?_⟩) ?_ ?_
          rotate_left
          · intro w'
            go_simp
            with_reducible rfl
          rotate_left
          · simp only [Act.put, List.setIfInBounds_toArray, List.set_cons_zero, List.set_cons_succ, i64_w, i32_w]
            rfl
          refine pure_ (i := 5) (N := some 29) (v := ?_) (a' := ?_) #[true, true, true, false, true, true, false, false, false, false, false, false, false, false, false, false, false, false, false, false, false, false, false, false] rfl rfl (any_of HT_.out (by kernel_rfl)) (fun _ _ _ h => h) (Or.inl ⟨by rfl, ?_⟩) ?_ ?_
          rotate_left
          · intro w'
            go_simp
            with_reducible rfl
          rotate_left
          · simp only [Act.put, List.setIfInBounds_toArray, List.set_cons_zero, List.set_cons_succ, i64_w, i32_w]
            rfl
          refine pure_ (i := 6) (N := some 30) (v := ?_) (a' := ?_) #[true, true, true, false, true, true, true, false, false, false, false, false, false, false, false, false, false, false, false, false, false, false, false, false] rfl rfl (any_of HT_.out (by kernel_rfl)) (fun _ _ _ h => h) (Or.inl ⟨by rfl, ?_⟩) ?_ ?_
          rotate_left
          · intro w'
            go_simp
            with_reducible rfl
          rotate_left
          · simp only [Act.put, List.setIfInBounds_toArray, List.set_cons_zero, List.set_cons_succ, i64_w, i32_w]
            rfl
          refine pure_ (i := 7) (N := some 31) (v := ?_) (a' := ?_) #[true, true, true, false, true, true, true, true, false, false, false, false, false, false, false, false, false, false, false, false, false, false, false, false] rfl rfl (any_of HT_.out (by kernel_rfl)) (fun _ _ _ h => h) (Or.inl ⟨by rfl, ?_⟩) ?_ ?_
          rotate_left
          · intro w'
            go_simp
            with_reducible rfl
          rotate_left
          · simp only [Act.put, List.setIfInBounds_toArray, List.set_cons_zero, List.set_cons_succ, i64_w, i32_w]
            rfl
          refine pure_ (i := 8) (N := some 32) (v := ?_) (a' := ?_) #[true, true, true, false, true, true, true, true, true, false, false, false, false, false, false, false, false, false, false, false, false, false, false, false] rfl rfl (any_of HT_.out (by kernel_rfl)) (fun _ _ _ h => h) (Or.inl ⟨by rfl, ?_⟩) ?_ ?_
          rotate_left
          · intro w'
            go_simp
            with_reducible rfl
          rotate_left
          · simp only [Act.put, List.setIfInBounds_toArray, List.set_cons_zero, List.set_cons_succ, i64_w, i32_w]
            rfl
          refine pure_ (i := 9) (N := some 33) (v := ?_) (a' := ?_) #[true, true, true, false, true, true, true, true, true, true, false, false, false, false, false, false, false, false, false, false, false, false, false, false] rfl rfl (any_of HT_.out (by kernel_rfl)) (fun _ _ _ h => h) (Or.inl ⟨by rfl, ?_⟩) ?_ ?_
          rotate_left
          · intro w'
            go_simp
            with_reducible rfl
          rotate_left
          · simp only [Act.put, List.setIfInBounds_toArray, List.set_cons_zero, List.set_cons_succ, i64_w, i32_w]
            rfl
          refine pure_ (i := 10) (N := some 34) (v := ?_) (a' := ?_) #[true, true, true, false, true, true, true, true, true, true, true, false, false, false, false, false, false, false, false, false, false, false, false, false] rfl rfl (any_of HT_.out (by kernel_rfl)) (fun _ _ _ h => h) (Or.inl ⟨by rfl, ?_⟩) ?_ ?_
          rotate_left
          · intro w'
            go_simp
            with_reducible rfl
          rotate_left
          · simp only [Act.put, List.setIfInBounds_toArray, List.set_cons_zero, List.set_cons_succ, i64_w, i32_w]
            rfl
          refine pure_ (i := 11) (N := some 35) (v := ?_) (a' := ?_) #[true, true, true, false, true, true, true, true, true, true, true, true, false, false, false, false, false, false, false, false, false, false, false, false] rfl rfl (any_of HT_.out (by kernel_rfl)) (fun _ _ _ h => h) (Or.inl ⟨by rfl, ?_⟩) ?_ ?_
          rotate_left
          · intro w'
            go_simp
            with_reducible rfl
          rotate_left
          · simp only [Act.put, List.setIfInBounds_toArray, List.set_cons_zero, List.set_cons_succ, i64_w, i32_w]
            rfl
          refine pure_ (i := 12) (N := some 36) (v := ?_) (a' := ?_) #[true, true, true, false, true, true, true, true, true, true, true, true, true, false, false, false, false, false, false, false, false, false, false, false] rfl rfl (any_of HT_.out (by kernel_rfl)) (fun _ _ _ h => h) (Or.inl ⟨by rfl, ?_⟩) ?_ ?_
          rotate_left
          · intro w'
            go_simp
            with_reducible rfl
          rotate_left
          · simp only [Act.put, List.setIfInBounds_toArray, List.set_cons_zero, List.set_cons_succ, i64_w, i32_w]
            rfl
          refine pure_ (i := 13) (N := some 37) (v := ?_) (a' := ?_) #[true, true, true, false, true, true, true, true, true, true, true, true, true, true, false, false, false, false, false, false, false, false, false, false] rfl rfl (any_of HT_.out (by kernel_rfl)) (fun _ _ _ h => h) (Or.inl ⟨by rfl, ?_⟩) ?_ ?_
          rotate_left
          · intro w'
            go_simp
            with_reducible rfl
          rotate_left
          · simp only [Act.put, List.setIfInBounds_toArray, List.set_cons_zero, List.set_cons_succ, i64_w, i32_w]
            rfl
          refine pure_ (i := 14) (N := some 38) (v := ?_) (a' := ?_) #[true, true, true, false, true, true, true, true, true, true, true, true, true, true, true, false, false, false, false, false, false, false, false, false] rfl rfl (any_of HT_.out (by kernel_rfl)) (fun _ _ _ h => h) (Or.inl ⟨by rfl, ?_⟩) ?_ ?_
          rotate_left
          · intro w'
            go_simp
            with_reducible rfl
          rotate_left
          · simp only [Act.put, List.setIfInBounds_toArray, List.set_cons_zero, List.set_cons_succ, i64_w, i32_w]
            rfl
          refine take_ (i := 3) (N := some 27) (v := ?_) (a' := ?_) #[true, true, true, true, true, true, true, true, true, true, true, true, true, true, true, false, false, false, false, false, false, false, false, false] rfl rfl (take_ofW HT_.out HW_.out (by kernel_rfl)) (fun _ _ _ h => h) (Or.inl ⟨by rfl, ?_⟩) hHeld ?_ ?_
          rotate_left
          · intro w' s0
            go_simp
            with_reducible rfl
          rotate_left
          · simp only [Act.put, List.setIfInBounds_toArray, List.set_cons_zero, List.set_cons_succ, i64_w, i32_w]
            rfl
          refine one_ (i := 15) (N := some 39) #[true, true, true, true, true, true, true, true, true, true, true, true, true, true, true, true, false, false, false, false, false, false, false, false] rfl rfl (one_of HT_.out (by kernel_rfl)) (by decide) (fun K hK => ?_)
          refine Kd.R_lit_step (Kd.int .u8) _ 5 ?hg (N := 39) ?hd (xs := ([(t260) % 256, (t260 / 256) % 256, (t260 / 65536) % 256, (t260 / 16777216) % 256] : List Int)) (inner := [.int .u8 ((t260) % 256), .int .u8 ((t260 / 256) % 256), .int .u8 ((t260 / 65536) % 256), .int .u8 ((t260 / 16777216) % 256)]) (ok := fun _ => True) (okp := fun _ => True) ?hr ?hp (fun _ hk => hk) trivial (Below.refl _ _) (Nat.le_refl _) (by simp) ?_; (case hd => rfl); (case hg => rfl); (case hr => first | (go_simp; rfl)); (case hp => exact (Reps.one (show Kd.M (Kd.int .u8) _ _ _ ((t260) % 256) [.int .u8 ((t260) % 256)] from rfl) (Reps.one (show Kd.M (Kd.int .u8) _ _ _ ((t260 / 256) % 256) [.int .u8 ((t260 / 256) % 256)] from rfl) (Reps.one (show Kd.M (Kd.int .u8) _ _ _ ((t260 / 65536) % 256) [.int .u8 ((t260 / 65536) % 256)] from rfl) (Reps.one (show Kd.M (Kd.int .u8) _ _ _ ((t260 / 16777216) % 256) [.int .u8 ((t260 / 16777216) % 256)] from rfl) (Reps.none _ _))))))
          intro v263 w23 ho24 hb hg_ hnew_
          clear hg_ hnew_
          (first | rw [← Ny262.out] at ho24)
          have n0_ := Aside0.mk (Kd.R_lower ho24 (below_size (by repeat (first | (with_reducible first | exact HB.out | refine below_set ?_ GE258.out)))))
          have n1_ := Aside0.mk (blk_below (g := gb258) (o := .cells #[.int .i64 0, .slice none 0 0] 34 (0, 0)) (by exact BK258.out) hb)
          have n2_ := Aside0.mk (below_step (by repeat (first | (with_reducible first | exact HB.out | refine below_set ?_ GE258.out))) hb)
          clear BK258
          clear HB
          have HO264 := n0_
          have BK258 := n1_
          have HB := n2_
          clear n0_ n1_ n2_
          clear hb ho24
          refine hK.out _ _ ((by have h_ := Kd.C_string (P := Try.prog) (A := A22) (c := (c0 - (ji5).toNat)) Try.underlying30 Try.underlying5 Try.underlying9 (Kd.C_below HR261.out HB.out); rw [show (l0.drop ((ji5) : Int).toNat).length = (l0.length - (ji5).toNat) from List.length_drop] at h_; exact h_)) (fun hHeld => ?_)
          clear hK K
          refine norm_ (a' := ?_) ?_ ?_
          rotate_left
          · show Act.put _ (some 39) _ = _
            simp only [Act.put, List.setIfInBounds_toArray, List.set_cons_zero, List.set_cons_succ, i64_w, i32_w]
            rfl
          refine one_ (i := 16) (N := some 40) #[true, true, true, true, true, true, true, true, true, true, true, true, true, true, true, true, true, false, false, false, false, false, false, false] rfl rfl (one_of HT_.out (by kernel_rfl)) (by decide) (fun K hK => ?_)
          have hcv25 := own_string (P := Try.prog) Try.underlying30 Try.underlying5 Try.underlying9 (Kd.own_of_R HO264.out)
          refine value_ (w1 := ?_) (v := ?_) (by rfl) rfl ?_ ?_
          rotate_left 2
          · go_simp
            constructor
            · rfl
            · rfl
          clear hcv25
          refine hK.out _ _ ((by have h_ := Kd.C_string (P := Try.prog) (A := A22) (c := (c0 - (ji5).toNat)) Try.underlying30 Try.underlying5 Try.underlying9 (Kd.C_below HR261.out HB.out); rw [show (l0.drop ((ji5) : Int).toNat).length = (l0.length - (ji5).toNat) from List.length_drop] at h_; exact h_)) (fun hHeld => ?_)
          clear hK K
          refine norm_ (a' := ?_) ?_ ?_
          rotate_left
          · show Act.put _ (some 40) _ = _
            simp only [Act.put, List.setIfInBounds_toArray, List.set_cons_zero, List.set_cons_succ, i64_w, i32_w]
            rfl
          refine pure_ (i := 17) (N := some 41) (v := ?_) (a' := ?_) #[true, true, true, true, true, true, true, true, true, true, true, true, true, true, true, true, true, true, false, false, false, false, false, false] rfl rfl (any_of HT_.out (by kernel_rfl)) (fun _ _ _ h => h) (Or.inl ⟨by rfl, ?_⟩) ?_ ?_
          rotate_left
          · intro w'
            go_simp
            with_reducible rfl
          rotate_left
          · simp only [Act.put, List.setIfInBounds_toArray, List.set_cons_zero, List.set_cons_succ, i64_w, i32_w]
            rfl
          refine pure_ (i := 18) (N := some 42) (v := ?_) (a' := ?_) #[true, true, true, true, true, true, true, true, true, true, true, true, true, true, true, true, true, true, true, false, false, false, false, false] rfl rfl (any_of HT_.out (by kernel_rfl)) (fun _ _ _ h => h) (Or.inl ⟨by rfl, ?_⟩) ?_ ?_
          rotate_left
          · intro w'
            go_simp
            with_reducible rfl
          rotate_left
          · simp only [Act.put, List.setIfInBounds_toArray, List.set_cons_zero, List.set_cons_succ, i64_w, i32_w]
            rfl
          refine pure_ (i := 19) (N := some 43) (v := undef) (a' := ?_) #[true, true, true, true, true, true, true, true, true, true, true, true, true, true, true, true, true, true, true, true, false, false, false, false] rfl rfl (any_of HT_.out (by kernel_rfl)) (fun _ _ _ h => h) (Or.inr ⟨by rfl, rfl⟩) ?_ ?_
          rotate_left
          · simp only [Act.put, List.setIfInBounds_toArray, List.set_cons_zero, List.set_cons_succ, i64_w, i32_w]
            rfl
          refine pure_ (i := 20) (N := some 44) (v := undef) (a' := ?_) #[true, true, true, true, true, true, true, true, true, true, true, true, true, true, true, true, true, true, true, true, true, false, false, false] rfl rfl (any_of HT_.out (by kernel_rfl)) (fun _ _ _ h => h) (Or.inr ⟨by rfl, rfl⟩) ?_ ?_
          rotate_left
          · simp only [Act.put, List.setIfInBounds_toArray, List.set_cons_zero, List.set_cons_succ, i64_w, i32_w]
            rfl
          refine pure_ (i := 21) (N := some 45) (v := undef) (a' := ?_) #[true, true, true, true, true, true, true, true, true, true, true, true, true, true, true, true, true, true, true, true, true, true, false, false] rfl rfl (any_of HT_.out (by kernel_rfl)) (fun _ _ _ h => h) (Or.inr ⟨by rfl, rfl⟩) ?_ ?_
          rotate_left
          · simp only [Act.put, List.setIfInBounds_toArray, List.set_cons_zero, List.set_cons_succ, i64_w, i32_w]
            rfl
          refine pure_ (i := 22) (N := some 46) (v := undef) (a' := ?_) #[true, true, true, true, true, true, true, true, true, true, true, true, true, true, true, true, true, true, true, true, true, true, true, false] rfl rfl (any_of HT_.out (by kernel_rfl)) (fun _ _ _ h => h) (Or.inr ⟨by rfl, rfl⟩) ?_ ?_
          rotate_left
          · simp only [Act.put, List.setIfInBounds_toArray, List.set_cons_zero, List.set_cons_succ, i64_w, i32_w]
            rfl
          refine pure_ (i := 23) (N := some 47) (v := ?_) (a' := ?_) #[true, true, true, true, true, true, true, true, true, true, true, true, true, true, true, true, true, true, true, true, true, true, true, true] rfl rfl (any_of HT_.out (by kernel_rfl)) (fun _ _ _ h => h) (Or.inl ⟨by rfl, ?_⟩) ?_ ?_
          rotate_left
          · intro w'
            go_simp
            with_reducible rfl
          rotate_left
          · simp only [Act.put, List.setIfInBounds_toArray, List.set_cons_zero, List.set_cons_succ, i64_w, i32_w]
            rfl
          refine done_ (done_of HT_.out (by kernel_rfl)) ?_
          try go_wp2
          go_meet
          case rel => exact ⟨_, (true), (by first | rfl | (refine qa_int ?_; simp <;> omega)), H', ⟨by first | omega⟩, ⟨by exact BK258.out⟩, ⟨by repeat (first | (with_reducible first | exact HB.out | refine below_set ?_ GE258.out))⟩⟩
       case rest =>
        clear HC9
        try clear c1
        try clear c2
        try clear c2b0
        try clear p2
        try clear q2
        try clear hx2
        try clear hcv2
        try clear qi2
        try clear c6
        try clear c6b0
        try clear c6b1
        try clear p6
        try clear c7
        try clear c7b0
        try clear c7b1
        try clear c12
        try clear c12b0
        try clear c13
        try clear c13b0
        try clear c14
        try clear c14b0
        try clear c14b1
        try clear c15
        try clear c15b0
        try clear c15b1
        try clear c16
        try clear hcv20
        try clear c22
        try clear hcv25
        try clear hcz4_0
        try clear hcz4_1
        try clear hfz4_0
        try clear hfz4_1
        try clear hx265_0
        try clear p265
        try clear q265
        obtain ⟨kq, x47_8, rfl, HA, HJ8, BK258, HB⟩ := hcut
        cases kq with
        | zero => exact absurd HA.out (by simp [message_Decode.j0])
        | succ kj8 =>
         have H := HA.out
         clear HA
         simp only [message_Decode.j0] at H
         by_cases c26 : x47_8 = true
         · subst c26
           have H1 : (some (0, ([] : List (S28)), 0, 4)) = some (r1, r2, r3, r4) := by rw [if_pos rfl] at H; exact H
           clear H
           have H := H1
           clear H1
           simp only [Option.some.injEq, Prod.mk.injEq] at H
           obtain ⟨rfl, rfl, rfl, rfl⟩ := H
           have hcz27_0 : wc.cell? ⟨gb258, 0, none⟩ = some (.int .i64 0) := (blk_cell BK258.out 0).trans rfl
           have hcz27_1 : wc.cell? ⟨gb258, 1, none⟩ = some (.slice none 0 0) := (blk_cell BK258.out 1).trans rfl
           have hfz27_0 := blk_frozen BK258.out 0
           have hfz27_1 := blk_frozen BK258.out 1
           go_wp2
           refine bodyPost_ret (results_ctt rfl _ _ gb258 34 #[.int .i64 0, .slice none 0 0] (0, 0) _ rfl (by refine blk_put (cs := #[.int .i64 0, .slice none 0 0]) ?_ 1 _ rfl; refine blk_put (cs := #[.int .i64 0, .slice none 0 0]) ?_ 0 _ rfl; exact BK258.out) Try.underlying34 rfl (by kernel_rfl)) rfl ?_
           exact ⟨_, by first | rfl | (simp [*, errW_none, errW_some] <;> rfl), by first | exact Kd.R_nil _ _ _ _ _ | exact Kd.S_nil _ _ _ _ _, by repeat (first | (with_reducible first | exact HB.out | refine below_set ?_ GE258.out))⟩
         · replace c26 := Bool.eq_false_iff.mpr c26
           subst c26
           have H1 : (if 1 ≤ ji5 then (if ji5 ≤ (l0.length : Int) then ((coin_NewPurse.f ((l0.take (ji5 : Int).toNat).drop 1)).bind fun bt267 => ((coin_Purse_Take.f kj8 bt267.1 bt267.2 15).bind fun bt270 => (message_Decode.l0 kj8 0 bt270.2.1 bt270.2.2 (wrap64 (bt270.1)) ([] : List (S28))))) else (none)) else (none)) = some (r1, r2, r3, r4) := by rw [if_neg (show ¬ (false = true) by decide)] at H; exact H
           clear H
           have H := H1
           clear H1
           by_cases c28 : 1 ≤ ji5
           · rw [if_pos c28] at H
             have c28b0 := eq_true c28
             have c28b1 : decide (1 ≤ ji5) = true := decide_eq_true c28
             clear c28
             by_cases c29 : ji5 ≤ (l0.length : Int)
             · rw [if_pos c29] at H
               have c29b0 := eq_true c29
               have c29b1 : decide (ji5 ≤ (l0.length : Int)) = true := decide_eq_true c29
               clear c29
               replace H := Option.bind_eq_some_iff.mp H
               obtain ⟨⟨t267, t268⟩, A300, H⟩ := H
               replace H : ((coin_Purse_Take.f kj8 t267 t268 15).bind fun bt270 => (message_Decode.l0 kj8 0 bt270.2.1 bt270.2.2 (wrap64 (bt270.1)) ([] : List (S28)))) = some (r1, r2, r3, r4) := H
               have A30 := Aside0.mk A300
               clear A300
               replace H := Option.bind_eq_some_iff.mp H
               obtain ⟨⟨t270, t271, t272⟩, A310, H⟩ := H
               replace H : (message_Decode.l0 kj8 0 t271 t272 (wrap64 (t270)) ([] : List (S28))) = some (r1, r2, r3, r4) := H
               have A31 := Aside0.mk A310
               clear A310
               have HC32 := Aside0.mk H
               clear H
               obtain ⟨i033, hi033, _, hsz33, _⟩ := info_parts info5
               obtain ⟨A33, hcut33, hA33, hC33⟩ := print_mid_of (P := Try.prog) (Value.int .u8) 0 30 5 .i64 .i64 Try.underlying30 hi033 hsz33 A0 c0 l0 1 ji5 (by omega) (by first | exact of_decide_eq_true (by first | (with_reducible assumption))) (of_decide_eq_true (by first | (with_reducible assumption))) HC0.out
               have HR266 := Aside0.mk (Kd.C_of_reads (h1 := fun _ => rfl) (hA33 _ (Kd.reads_of_C HR0.out)))
               have HC266 := Aside0.mk hC33
               clear hA33 hC33 hi033 hsz33
               have hSL33 := Aside0.mk (show ((l0.take (ji5 : Int).toNat).drop 1).length = (ji5.toNat - 1) from (by rw [List.length_drop, List.length_take]; have h_ : (ji5 : Int) ≤ (l0.length : Int) := of_decide_eq_true (by first | (with_reducible assumption)); omega))
               go_upto_block 0 with (first | ((with_reducible refine gate_callee (f := 28) rfl ?_); refine goesL_ (some 52) rfl rfl Try.func28 (by kernel_rfl) rfl #[.slice A33 ((l0.take (ji5 : Int).toNat).drop 1).length (c0 - 1)] rfl (by (try simp only [List.map_toArray, List.map_cons, List.map_nil]); first | (rw [show ((l0.take (ji5 : Int).toNat).drop 1).length = (ji5.toNat - 1) from hSL33.out] <;> rfl) | (refine qa_arr ?_; (repeat' (first | rfl | refine qa_cons ?_ ?_ | refine qa_int ?_ | refine qa_agg ?_ | refine qa_arr ?_ | omega)); done)) ?_; (with_reducible refine (coin_NewPurse.calls _ _ ((l0.take (ji5 : Int).toNat).drop 1) t267 t268 w _ ?side1 ?side2 ?side3 A30.out).mono ?_); (case side1 => repeat (first | (with_reducible first | exact HB.out | refine below_set ?_ GE258.out))); (case side2 => exact HR266.out); (case side3 => exact HC266.out); rintro e w34 ⟨g269, rfl, hi, hb, hb2⟩; refine ⟨_, rfl, ?_⟩; have n0_ := Aside0.mk (blk_below (g := gb258) (o := .cells #[.int .i64 0, .slice none 0 0] 34 (0, 0)) (by exact BK258.out) hb2); have n1_ := Aside0.mk (hb); have n2_ := Aside0.mk (hi); have n3_ := Aside0.mk (IsS71.ne_blk hi (blk_below (g := gb258) (o := .cells #[.int .i64 0, .slice none 0 0] 34 (0, 0)) (by exact BK258.out) hb2) (by decide)); have n4_ := Aside0.mk (Ne.symm (IsS71.ne_blk hi (blk_below (g := gb258) (o := .cells #[.int .i64 0, .slice none 0 0] 34 (0, 0)) (by exact BK258.out) hb2) (by decide))); clear BK258; clear HB; have BK258 := n0_; have HB := n1_; have HI269 := n2_; have NB269_258 := n3_; have NB258_269 := n4_; clear n0_ n1_ n2_ n3_ n4_; (try clear hb); (try clear hb2); (try clear hk); (try clear hi)) | ((with_reducible refine gate_callee (f := 29) rfl ?_); refine goesL_ (some 54) rfl rfl Try.func29 (by kernel_rfl) rfl #[.pointer (some ⟨g269, 0, none⟩), .int .u64 15] rfl (by (try simp only [List.map_toArray, List.map_cons, List.map_nil]); first | rfl | (refine qa_arr ?_; (repeat' (first | rfl | refine qa_cons ?_ ?_ | refine qa_int ?_ | refine qa_agg ?_ | refine qa_arr ?_ | omega)); done)) ?_; (with_reducible refine (coin_Purse_Take.calls kj8 g269 t267 t268 15 t270 t271 t272 w _ ?side1 ?side2 A31.out).mono ?_); (case side1 => repeat (first | (with_reducible first | exact HI269.out | refine IsS71.far ?_ NB269_258.out _))); (case side2 => repeat (first | (with_reducible first | exact HB.out | refine below_set ?_ GE258.out))); rintro e w35 ⟨rfl, hi, hb, hk⟩; refine ⟨_, rfl, ?_⟩; have n0_ := Aside0.mk (KeepBut.blk hk (g' := gb258) (o := .cells #[.int .i64 0, .slice none 0 0] 34 (0, 0)) (by exact BK258.out) NB258_269.out (by simp)); have n1_ := Aside0.mk (hb); have n2_ := Aside0.mk (hi); clear BK258; clear HB; clear HI269; have BK258 := n0_; have HB := n1_; have HI269 := n2_; clear n0_ n1_ n2_; (try clear hb); (try clear hb2); (try clear hk); (try clear hi)) | ((with_reducible refine gate_dst (N := 8) rfl ?_); refine box_event ?hg (N := 8) ?hd (cs := #[.int .i64 0, .slice none 0 0]) (t := 34) ?hr ?_; (case hd => rfl); (case hg => rfl); (case hr => first | (go_simp; done)); intro gb273 hg w36 hbox hb; have n0_ := Aside0.mk (blk_below (g := gb258) (o := .cells #[.int .i64 0, .slice none 0 0] 34 (0, 0)) (by exact BK258.out) hb); have n1_ := Aside0.mk (IsS71.below (by repeat (first | (with_reducible first | exact HI269.out | refine IsS71.far ?_ NB269_258.out _))) hb); have n2_ := Aside0.mk (below_step (by repeat (first | (with_reducible first | exact HB.out | refine below_set ?_ GE258.out))) hb); have n3_ := Aside0.mk (hbox); have n4_ := Aside0.mk ((by rw [hg]; exact (below_size (by repeat (first | (with_reducible first | exact HB.out | refine below_set ?_ GE258.out)))) : w.heap.size ≤ gb273)); have n5_ := Aside0.mk ((by rw [hg]; exact (below_size (by repeat (first | (with_reducible first | exact HB.out | refine below_set ?_ GE258.out)))) : w.heap.size ≤ gb273)); have n6_ := Aside0.mk ((by rw [hg]; exact Nat.ne_of_lt (blk_lt (g := gb258) (o := .cells #[.int .i64 0, .slice none 0 0] 34 (0, 0)) (by exact BK258.out)) : gb258 ≠ gb273)); have n7_ := Aside0.mk ((by rw [hg]; exact Nat.ne_of_gt (blk_lt (g := gb258) (o := .cells #[.int .i64 0, .slice none 0 0] 34 (0, 0)) (by exact BK258.out)) : gb273 ≠ gb258)); have n8_ := Aside0.mk ((by rw [hg]; exact Nat.ne_of_lt (IsS71.lt (show IsS71 w _ g269 t271 t272 from by repeat (first | (with_reducible first | exact HI269.out | refine IsS71.far ?_ NB269_258.out _)))) : g269 ≠ gb273)); have n9_ := Aside0.mk ((by rw [hg]; exact Nat.ne_of_gt (IsS71.lt (show IsS71 w _ g269 t271 t272 from by repeat (first | (with_reducible first | exact HI269.out | refine IsS71.far ?_ NB269_258.out _)))) : gb273 ≠ g269)); clear BK258; clear HI269; clear HB; have BK258 := n0_; have HI269 := n1_; have HB := n2_; have BK273 := n3_; have GW273 := n4_; have GE273 := n5_; have NB258_273 := n6_; have NB273_258 := n7_; have NB269_273 := n8_; have NB273_269 := n9_; clear n0_ n1_ n2_ n3_ n4_ n5_ n6_ n7_ n8_ n9_; clear hb hbox hg; have hnb37 := NB273_258.out; have hnc37 := NB258_273.out; have hnb38 := NB273_269.out; have hnc38 := NB269_273.out; have hcz39_0 : w36.cell? ⟨gb273, 0, none⟩ = some (.int .i64 0) := (blk_cell BK273.out 0).trans rfl; have hcz39_1 : w36.cell? ⟨gb273, 1, none⟩ = some (.slice none 0 0) := (blk_cell BK273.out 1).trans rfl; have hfz39_0 := blk_frozen BK273.out 0; have hfz39_1 := blk_frozen BK273.out 1))
               (try simp only [Act.put, List.setIfInBounds_toArray, List.set_cons_zero, List.set_cons_succ])
               go_cut [9] (fun v9 wc => ∃ (kq : Nat) (x9_31 : Int) (x259000_31 : Int) (x270000_31 : List Int) (x270001_31 : Int) (x274001_31 : List (S28)) (u274001 : Value), v9 = .int .i64 x9_31 ∧ Aside0 (message_Decode.j4 kq x9_31 x270000_31 x270001_31 (wrap64 (t270)) x274001_31 = some (r1, r2, r3, r4)) ∧ Aside0 (kq ≤ kj8) ∧ Aside0 (Kd.R k28 28 wc w.heap.size (fun _ => True) u274001 x274001_31) ∧ Aside0 (wc.heap[gb258]? = some (.cells #[.int .i64 x259000_31, (.slice none 0 0)] 34 (0, 0))) ∧ Aside0 (wc.heap[gb273]? = some (.cells #[.int .i64 (wrap64 (t270)), u274001] 34 (0, 0))) ∧ Aside0 (IsS71 w wc g269 x270000_31 x270001_31) ∧ Aside0 (Below w.heap.size w wc))
               case first =>
                have H := HC32.out
                clear HC32
                have H' := Aside0.mk H
                clear H
                go_wp2
                go_loopg [9] kj8 (fun kq v9 w' => ∃ (x9_2 : Int) (x259000_2 : Int) (x270000_2 : List Int) (x270001_2 : Int) (x274001_2 : List (S28)) (u274001 : Value), v9 = .int .i64 x9_2 ∧ Aside0 (message_Decode.l0 kq x9_2 x270000_2 x270001_2 (wrap64 (t270)) x274001_2 = some (r1, r2, r3, r4)) ∧ Aside0 (kq ≤ kj8) ∧ Aside0 (Kd.R k28 28 w' w.heap.size (fun _ => True) u274001 x274001_2) ∧ Aside0 (w'.heap[gb258]? = some (.cells #[.int .i64 x259000_2, (.slice none 0 0)] 34 (0, 0))) ∧ Aside0 (w'.heap[gb273]? = some (.cells #[.int .i64 (wrap64 (t270)), u274001] 34 (0, 0))) ∧ Aside0 (IsS71 w w' g269 x270000_2 x270001_2) ∧ Aside0 (Below w.heap.size w w'))
                case atStart => exact ⟨(0), (0), (t271), (t272), (([] : List (S28))), (.slice none 0 0), (by first | rfl | (refine qa_int ?_; simp <;> omega)), H', ⟨Nat.le_refl _⟩, ⟨by first | exact Kd.R_nil _ _ _ _ _ | exact Kd.S_nil _ _ _ _ _⟩, ⟨by refine blk_far ?_ NB258_273.out _; refine blk_far ?_ NB258_273.out _; exact BK258.out⟩, ⟨by refine blk_put (cs := #[.int .i64 (wrap64 (t270)), .slice none 0 0]) ?_ 1 _ rfl; refine blk_put (cs := #[.int .i64 0, .slice none 0 0]) ?_ 0 _ rfl; exact BK273.out⟩, ⟨by repeat (first | (with_reducible first | exact HI269.out | refine IsS71.far ?_ NB269_273.out _))⟩, ⟨by repeat (first | (with_reducible first | exact HB.out | refine below_set ?_ GE273.out))⟩⟩
                case round =>
                 clear H'
                 try clear c1
                 try clear c2
                 try clear c2b0
                 try clear p2
                 try clear q2
                 try clear hx2
                 try clear hcv2
                 try clear qi2
                 try clear c3
                 try clear c6
                 try clear c6b0
                 try clear c6b1
                 try clear p6
                 try clear c7
                 try clear c7b0
                 try clear c7b1
                 try clear c12
                 try clear c12b0
                 try clear c13
                 try clear c13b0
                 try clear c14
                 try clear c14b0
                 try clear c14b1
                 try clear c15
                 try clear c15b0
                 try clear c15b1
                 try clear c16
                 try clear hcv20
                 try clear c22
                 try clear hcv25
                 try clear c26
                 try clear p26
                 try clear q26
                 try clear hx26
                 try clear qi26
                 try clear c28
                 try clear c28b0
                 try clear c28b1
                 try clear c29
                 try clear c29b0
                 try clear c29b1
                 try clear c37
                 try clear c38
                 try clear hcz27_0
                 try clear hcz27_1
                 try clear hcz39_0
                 try clear hcz39_1
                 try clear hcz4_0
                 try clear hcz4_1
                 try clear hfz27_0
                 try clear hfz27_1
                 try clear hfz39_0
                 try clear hfz39_1
                 try clear hfz4_0
                 try clear hfz4_1
                 try clear hx265_0
                 try clear p2
                 try clear p265
                 try clear p6
                 try clear q2
                 try clear q265
                 obtain ⟨x9_2, x259000_2, x270000_2, x270001_2, x274001_2, u274001, rfl, HA, HK2, HO_274001, BK258, BK273, HI269, HB⟩ := hrel
                 cases gk with
                 | zero => exact absurd HA.out (by simp [message_Decode.l0])
                 | succ k2 =>
                  have H := HA.out
                  clear HA
                  simp only [message_Decode.l0] at H
                  have HC40 := Aside0.mk H
                  clear H
                  go_upto_region 10 with (fail)
                  go_cut [64] (fun v64 wc => ∃ (kq : Nat) (x64_39 : Bool) (x270000_39 : List Int) (x270001_39 : Int), v64 = .bool x64_39 ∧ Aside0 (message_Decode.j2 kq x9_2 x64_39 x270000_39 x270001_39 (wrap64 (t270)) x274001_2 = some (r1, r2, r3, r4)) ∧ Aside0 (kq ≤ k2) ∧ Aside0 (Kd.R k28 28 wc w.heap.size (fun _ => True) u274001 x274001_2) ∧ Aside0 (wc.heap[gb258]? = some (.cells #[.int .i64 x259000_2, (.slice none 0 0)] 34 (0, 0))) ∧ Aside0 (wc.heap[gb273]? = some (.cells #[.int .i64 (wrap64 (t270)), u274001] 34 (0, 0))) ∧ Aside0 (IsS71 w wc g269 x270000_39 x270001_39) ∧ Aside0 (Below w.heap.size w wc))
                  case first =>
                   have H := HC40.out
                   clear HC40
                   replace H := Option.bind_eq_some_iff.mp H
                   obtain ⟨⟨t274, t275, t276⟩, A410, H⟩ := H
                   replace H : (if t274 = 0 then ((coin_Purse_Left.f t275 t276).bind fun bt277 => (message_Decode.j2 k2 x9_2 (decide (bt277.1 > 0)) bt277.2.1 bt277.2.2 (wrap64 (t270)) x274001_2)) else (message_Decode.j2 k2 x9_2 false t275 t276 (wrap64 (t270)) x274001_2)) = some (r1, r2, r3, r4) := H
                   have A41 := Aside0.mk A410
                   clear A410
                   by_cases c42 : t274 = 0
                   · rw [if_pos c42] at H
                     have c42b0 : (t274 == 0) = true := beq_iff_eq.mpr c42
                     have c42b1 : (t274 != 0) = false := bne_eq_false_iff_eq.mpr c42
                     clear c42
                     (first | skip)
                     replace H := Option.bind_eq_some_iff.mp H
                     obtain ⟨⟨t277, t278, t279⟩, A430, H⟩ := H
                     replace H : (message_Decode.j2 k2 x9_2 (decide (t277 > 0)) t278 t279 (wrap64 (t270)) x274001_2) = some (r1, r2, r3, r4) := H
                     have A43 := Aside0.mk A430
                     clear A430
                     have H' := Aside0.mk H
                     clear H
                     go_wp2_with (first | ((with_reducible refine gate_callee (f := 30) rfl ?_); refine goesL_ (some 58) rfl rfl Try.func30 (by kernel_rfl) rfl #[.pointer (some ⟨g269, 0, none⟩)] rfl (by (try simp only [List.map_toArray, List.map_cons, List.map_nil]); first | rfl | (refine qa_arr ?_; (repeat' (first | rfl | refine qa_cons ?_ ?_ | refine qa_int ?_ | refine qa_agg ?_ | refine qa_arr ?_ | omega)); done)) ?_; (with_reducible refine (coin_Purse_Fault.calls g269 x270000_2 x270001_2 t274 t275 t276 w _ ?side1 ?side2 A41.out).mono ?_); (case side1 => repeat (first | (with_reducible first | exact HI269.out | refine IsS71.far ?_ NB269_273.out _))); (case side2 => repeat (first | (with_reducible first | exact HB.out | refine below_set ?_ GE273.out))); rintro e w44 ⟨rfl, hi, hb, hk⟩; refine ⟨_, rfl, ?_⟩; have n0_ := Aside0.mk (Kd.R_mono (Kd.R_keep (IsS71.apart (show IsS71 w _ g269 x270000_2 x270001_2 from by repeat (first | (with_reducible first | exact HI269.out | refine IsS71.far ?_ NB269_273.out _))) (by exact HO_274001.out) (by decide)) hk (fun _ h => h.2)) (fun _ h => h.1)); have n1_ := Aside0.mk (KeepBut.blk hk (g' := gb258) (o := .cells #[.int .i64 x259000_2, .slice none 0 0] 34 (0, 0)) (by exact BK258.out) NB258_269.out (by simp)); have n2_ := Aside0.mk (KeepBut.blk hk (g' := gb273) (o := .cells #[.int .i64 (wrap64 (t270)), u274001] 34 (0, 0)) (by exact BK273.out) NB273_269.out (by simp)); have n3_ := Aside0.mk (hb); have n4_ := Aside0.mk (hi); clear HO_274001; clear BK258; clear BK273; clear HB; clear HI269; have HO_274001 := n0_; have BK258 := n1_; have BK273 := n2_; have HB := n3_; have HI269 := n4_; clear n0_ n1_ n2_ n3_ n4_; (try clear hb); (try clear hb2); (try clear hk); (try clear hi)) | (go_at_call 31; (with_reducible refine (coin_Purse_Left.calls g269 t275 t276 t277 t278 t279 w _ ?side1 ?side2 A43.out).mono ?_); (case side1 => repeat (first | (with_reducible first | exact HI269.out | refine IsS71.far ?_ NB269_273.out _))); (case side2 => repeat (first | (with_reducible first | exact HB.out | refine below_set ?_ GE273.out))); rintro e w45 ⟨rfl, hi, hb, hk⟩; have n0_ := Aside0.mk (Kd.R_mono (Kd.R_keep (IsS71.apart (show IsS71 w _ g269 t275 t276 from by repeat (first | (with_reducible first | exact HI269.out | refine IsS71.far ?_ NB269_273.out _))) (by exact HO_274001.out) (by decide)) hk (fun _ h => h.2)) (fun _ h => h.1)); have n1_ := Aside0.mk (KeepBut.blk hk (g' := gb258) (o := .cells #[.int .i64 x259000_2, .slice none 0 0] 34 (0, 0)) (by exact BK258.out) NB258_269.out (by simp)); have n2_ := Aside0.mk (KeepBut.blk hk (g' := gb273) (o := .cells #[.int .i64 (wrap64 (t270)), u274001] 34 (0, 0)) (by exact BK273.out) NB273_269.out (by simp)); have n3_ := Aside0.mk (hb); have n4_ := Aside0.mk (hi); clear HO_274001; clear BK258; clear BK273; clear HB; clear HI269; have HO_274001 := n0_; have BK258 := n1_; have BK273 := n2_; have HB := n3_; have HI269 := n4_; clear n0_ n1_ n2_ n3_ n4_; (try clear hb); (try clear hb2); (try clear hk); (try clear hi)))
                     go_meet
                     case rel => exact ⟨_, (decide (t277 > 0)), (t278), (t279), (by first | rfl | (refine qa_int ?_; simp <;> omega)), H', ⟨by have := HJ8.out; have := HK2.out; first | omega⟩, ⟨by exact HO_274001.out⟩, ⟨by exact BK258.out⟩, ⟨by exact BK273.out⟩, ⟨by repeat (first | (with_reducible first | exact HI269.out | refine IsS71.far ?_ NB269_273.out _))⟩, ⟨by repeat (first | (with_reducible first | exact HB.out | refine below_set ?_ GE273.out))⟩⟩
                   · rw [if_neg c42] at H
                     have c42b0 : (t274 == 0) = false := beq_eq_false_iff_ne.mpr c42
                     have c42b1 : (t274 != 0) = true := bne_iff_ne.mpr c42
                     (first | skip)
                     have H' := Aside0.mk H
                     clear H
                     go_wp2_with (first | ((with_reducible refine gate_callee (f := 30) rfl ?_); refine goesL_ (some 58) rfl rfl Try.func30 (by kernel_rfl) rfl #[.pointer (some ⟨g269, 0, none⟩)] rfl (by (try simp only [List.map_toArray, List.map_cons, List.map_nil]); first | rfl | (refine qa_arr ?_; (repeat' (first | rfl | refine qa_cons ?_ ?_ | refine qa_int ?_ | refine qa_agg ?_ | refine qa_arr ?_ | omega)); done)) ?_; (with_reducible refine (coin_Purse_Fault.calls g269 x270000_2 x270001_2 t274 t275 t276 w _ ?side1 ?side2 A41.out).mono ?_); (case side1 => repeat (first | (with_reducible first | exact HI269.out | refine IsS71.far ?_ NB269_273.out _))); (case side2 => repeat (first | (with_reducible first | exact HB.out | refine below_set ?_ GE273.out))); rintro e w46 ⟨rfl, hi, hb, hk⟩; refine ⟨_, rfl, ?_⟩; have n0_ := Aside0.mk (Kd.R_mono (Kd.R_keep (IsS71.apart (show IsS71 w _ g269 x270000_2 x270001_2 from by repeat (first | (with_reducible first | exact HI269.out | refine IsS71.far ?_ NB269_273.out _))) (by exact HO_274001.out) (by decide)) hk (fun _ h => h.2)) (fun _ h => h.1)); have n1_ := Aside0.mk (KeepBut.blk hk (g' := gb258) (o := .cells #[.int .i64 x259000_2, .slice none 0 0] 34 (0, 0)) (by exact BK258.out) NB258_269.out (by simp)); have n2_ := Aside0.mk (KeepBut.blk hk (g' := gb273) (o := .cells #[.int .i64 (wrap64 (t270)), u274001] 34 (0, 0)) (by exact BK273.out) NB273_269.out (by simp)); have n3_ := Aside0.mk (hb); have n4_ := Aside0.mk (hi); clear HO_274001; clear BK258; clear BK273; clear HB; clear HI269; have HO_274001 := n0_; have BK258 := n1_; have BK273 := n2_; have HB := n3_; have HI269 := n4_; clear n0_ n1_ n2_ n3_ n4_; (try clear hb); (try clear hb2); (try clear hk); (try clear hi)))
                     go_meet
                     case rel => exact ⟨_, (false), (t275), (t276), (by first | rfl | (refine qa_int ?_; simp <;> omega)), H', ⟨by have := HJ8.out; have := HK2.out; first | omega⟩, ⟨by exact HO_274001.out⟩, ⟨by exact BK258.out⟩, ⟨by exact BK273.out⟩, ⟨by repeat (first | (with_reducible first | exact HI269.out | refine IsS71.far ?_ NB269_273.out _))⟩, ⟨by repeat (first | (with_reducible first | exact HB.out | refine below_set ?_ GE273.out))⟩⟩
                  case rest =>
                   clear HC40
                   try clear c1
                   try clear c2
                   try clear c2b0
                   try clear p2
                   try clear q2
                   try clear hx2
                   try clear hcv2
                   try clear qi2
                   try clear c3
                   try clear c4
                   try clear c6
                   try clear c6b0
                   try clear c6b1
                   try clear p6
                   try clear c7
                   try clear c7b0
                   try clear c7b1
                   try clear c12
                   try clear c12b0
                   try clear c13
                   try clear c13b0
                   try clear c14
                   try clear c14b0
                   try clear c14b1
                   try clear c15
                   try clear c15b0
                   try clear c15b1
                   try clear c16
                   try clear hcv20
                   try clear c22
                   try clear hcv25
                   try clear c26
                   try clear p26
                   try clear q26
                   try clear hx26
                   try clear qi26
                   try clear c28
                   try clear c28b0
                   try clear c28b1
                   try clear c29
                   try clear c29b0
                   try clear c29b1
                   try clear c30
                   try clear c37
                   try clear c38
                   try clear c42
                   try clear c42b0
                   try clear c42b1
                   try clear hcz27_0
                   try clear hcz27_1
                   try clear hcz39_0
                   try clear hcz39_1
                   try clear hcz4_0
                   try clear hcz4_1
                   try clear hfz27_0
                   try clear hfz27_1
                   try clear hfz39_0
                   try clear hfz39_1
                   try clear hfz4_0
                   try clear hfz4_1
                   try clear hx265_0
                   try clear p2
                   try clear p26
                   try clear p265
                   try clear p6
                   try clear q2
                   try clear q26
                   try clear q265
                   obtain ⟨kq, x64_39, x270000_39, x270001_39, rfl, HA, HJ39, HO_274001, BK258, BK273, HI269, HB⟩ := hcut
                   cases kq with
                   | zero => exact absurd HA.out (by simp [message_Decode.j2])
                   | succ kj39 =>
                    have H := HA.out
                    clear HA
                    simp only [message_Decode.j2] at H
                    by_cases c47 : x64_39 = true
                    · subst c47
                      have H1 : ((coin_Purse_Bytes.f x270000_39 x270001_39 1).bind fun bt280 => ((coin_Purse_Take.f kj39 bt280.2.1 bt280.2.2 1048576).bind fun bt285 => ((coin_Purse_Bytes.f bt285.2.1 bt285.2.2 (wrap64 (bt285.1))).bind fun bt288 => ((coin_Purse_Fault.f bt288.2.1 bt288.2.2).bind fun bt293 => (if bt293.1 = 0 then (if 0 < (bt280.1.length : Int) then (if (rd bt280.1 0) < 1 then (message_Decode.j3 kj39 x9_2 bt280.1 bt288.1 true bt293.2.1 bt293.2.2 (wrap64 (t270)) x274001_2) else (message_Decode.j3 kj39 x9_2 bt280.1 bt288.1 (decide ((rd bt280.1 0) > 4)) bt293.2.1 bt293.2.2 (wrap64 (t270)) x274001_2)) else (none)) else (message_Decode.j4 kj39 x9_2 bt293.2.1 bt293.2.2 (wrap64 (t270)) x274001_2)))))) = some (r1, r2, r3, r4) := by rw [if_pos rfl] at H; exact H
                      clear H
                      have H := H1
                      clear H1
                      replace H := Option.bind_eq_some_iff.mp H
                      obtain ⟨⟨t280, t283, t284⟩, A480, H⟩ := H
                      replace H : ((coin_Purse_Take.f kj39 t283 t284 1048576).bind fun bt285 => ((coin_Purse_Bytes.f bt285.2.1 bt285.2.2 (wrap64 (bt285.1))).bind fun bt288 => ((coin_Purse_Fault.f bt288.2.1 bt288.2.2).bind fun bt293 => (if bt293.1 = 0 then (if 0 < (t280.length : Int) then (if (rd t280 0) < 1 then (message_Decode.j3 kj39 x9_2 t280 bt288.1 true bt293.2.1 bt293.2.2 (wrap64 (t270)) x274001_2) else (message_Decode.j3 kj39 x9_2 t280 bt288.1 (decide ((rd t280 0) > 4)) bt293.2.1 bt293.2.2 (wrap64 (t270)) x274001_2)) else (none)) else (message_Decode.j4 kj39 x9_2 bt293.2.1 bt293.2.2 (wrap64 (t270)) x274001_2))))) = some (r1, r2, r3, r4) := H
                      have A48 := Aside0.mk A480
                      clear A480
                      replace H := Option.bind_eq_some_iff.mp H
                      obtain ⟨⟨t285, t286, t287⟩, A490, H⟩ := H
                      replace H : ((coin_Purse_Bytes.f t286 t287 (wrap64 (t285))).bind fun bt288 => ((coin_Purse_Fault.f bt288.2.1 bt288.2.2).bind fun bt293 => (if bt293.1 = 0 then (if 0 < (t280.length : Int) then (if (rd t280 0) < 1 then (message_Decode.j3 kj39 x9_2 t280 bt288.1 true bt293.2.1 bt293.2.2 (wrap64 (t270)) x274001_2) else (message_Decode.j3 kj39 x9_2 t280 bt288.1 (decide ((rd t280 0) > 4)) bt293.2.1 bt293.2.2 (wrap64 (t270)) x274001_2)) else (none)) else (message_Decode.j4 kj39 x9_2 bt293.2.1 bt293.2.2 (wrap64 (t270)) x274001_2)))) = some (r1, r2, r3, r4) := H
                      have A49 := Aside0.mk A490
                      clear A490
                      replace H := Option.bind_eq_some_iff.mp H
                      obtain ⟨⟨t288, t291, t292⟩, A500, H⟩ := H
                      replace H : ((coin_Purse_Fault.f t291 t292).bind fun bt293 => (if bt293.1 = 0 then (if 0 < (t280.length : Int) then (if (rd t280 0) < 1 then (message_Decode.j3 kj39 x9_2 t280 t288 true bt293.2.1 bt293.2.2 (wrap64 (t270)) x274001_2) else (message_Decode.j3 kj39 x9_2 t280 t288 (decide ((rd t280 0) > 4)) bt293.2.1 bt293.2.2 (wrap64 (t270)) x274001_2)) else (none)) else (message_Decode.j4 kj39 x9_2 bt293.2.1 bt293.2.2 (wrap64 (t270)) x274001_2))) = some (r1, r2, r3, r4) := H
                      have A50 := Aside0.mk A500
                      clear A500
                      replace H := Option.bind_eq_some_iff.mp H
                      obtain ⟨⟨t293, t294, t295⟩, A510, H⟩ := H
                      replace H : (if t293 = 0 then (if 0 < (t280.length : Int) then (if (rd t280 0) < 1 then (message_Decode.j3 kj39 x9_2 t280 t288 true t294 t295 (wrap64 (t270)) x274001_2) else (message_Decode.j3 kj39 x9_2 t280 t288 (decide ((rd t280 0) > 4)) t294 t295 (wrap64 (t270)) x274001_2)) else (none)) else (message_Decode.j4 kj39 x9_2 t294 t295 (wrap64 (t270)) x274001_2)) = some (r1, r2, r3, r4) := H
                      have A51 := Aside0.mk A510
                      clear A510
                      by_cases c52 : t293 = 0
                      · rw [if_pos c52] at H
                        have c52b0 : (t293 == 0) = true := beq_iff_eq.mpr c52
                        have c52b1 : (t293 != 0) = false := bne_eq_false_iff_eq.mpr c52
                        clear c52
                        have HC53 := Aside0.mk H
                        clear H
                        go_upto_region 14 with (first | ((with_reducible refine gate_callee (f := 32) rfl ?_); refine goesL_ (some 66) rfl rfl Try.func32 (by kernel_rfl) rfl #[.pointer (some ⟨g269, 0, none⟩), .int .i64 1] rfl (by (try simp only [List.map_toArray, List.map_cons, List.map_nil]); first | rfl | (refine qa_arr ?_; (repeat' (first | rfl | refine qa_cons ?_ ?_ | refine qa_int ?_ | omega)); done)) ?_; (with_reducible refine (coin_Purse_Bytes.calls g269 x270000_39 x270001_39 1 t280 t283 t284 w _ ?side1 ?side2 A48.out).mono ?_); (case side1 => repeat (first | (with_reducible first | exact HI269.out | refine IsS71.far ?_ NB269_273.out _))); (case side2 => repeat (first | (with_reducible first | exact HB.out | refine below_set ?_ GE273.out))); rintro e w54 ⟨v281, rfl, ho0, hi, hb, hk⟩; refine ⟨_, rfl, ?_⟩; have n0_ := Aside0.mk (Kd.R_mono (Kd.R_keep (IsS71.apart (show IsS71 w _ g269 x270000_39 x270001_39 from by repeat (first | (with_reducible first | exact HI269.out | refine IsS71.far ?_ NB269_273.out _))) (by exact HO_274001.out) (by decide)) hk (fun _ h => h.2)) (fun _ h => h.1)); have n1_ := Aside0.mk (KeepBut.blk hk (g' := gb258) (o := .cells #[.int .i64 x259000_2, .slice none 0 0] 34 (0, 0)) (by exact BK258.out) NB258_269.out (by simp)); have n2_ := Aside0.mk (KeepBut.blk hk (g' := gb273) (o := .cells #[.int .i64 (wrap64 (t270)), u274001] 34 (0, 0)) (by exact BK273.out) NB273_269.out (by simp)); have n3_ := Aside0.mk (Kd.R_lower ho0 (below_size (by repeat (first | (with_reducible first | exact HB.out | refine below_set ?_ GE273.out))))); have n4_ := Aside0.mk (hb); have n5_ := Aside0.mk (hi); clear HO_274001; clear BK258; clear BK273; clear HB; clear HI269; have HO_274001 := n0_; have BK258 := n1_; have BK273 := n2_; have HO282 := n3_; have HB := n4_; have HI269 := n5_; clear n0_ n1_ n2_ n3_ n4_ n5_; (try clear hb); (try clear hb2); (try clear hk); (try clear hi); (try clear ho0)) | ((with_reducible refine gate_callee (f := 29) rfl ?_); refine goesL_ (some 69) rfl rfl Try.func29 (by kernel_rfl) rfl #[.pointer (some ⟨g269, 0, none⟩), .int .u64 1048576] rfl (by (try simp only [List.map_toArray, List.map_cons, List.map_nil]); first | rfl | (refine qa_arr ?_; (repeat' (first | rfl | refine qa_cons ?_ ?_ | refine qa_int ?_ | refine qa_agg ?_ | refine qa_arr ?_ | omega)); done)) ?_; (with_reducible refine (coin_Purse_Take.calls kj39 g269 t283 t284 1048576 t285 t286 t287 w _ ?side1 ?side2 A49.out).mono ?_); (case side1 => repeat (first | (with_reducible first | exact HI269.out | refine IsS71.far ?_ NB269_273.out _))); (case side2 => repeat (first | (with_reducible first | exact HB.out | refine below_set ?_ GE273.out))); rintro e w55 ⟨rfl, hi, hb, hk⟩; refine ⟨_, rfl, ?_⟩; have n0_ := Aside0.mk (Kd.R_mono (Kd.R_keep (IsS71.apart (show IsS71 w _ g269 t283 t284 from by repeat (first | (with_reducible first | exact HI269.out | refine IsS71.far ?_ NB269_273.out _))) (by exact HO_274001.out) (by decide)) hk (fun _ h => h.2)) (fun _ h => h.1)); have n1_ := Aside0.mk (KeepBut.blk hk (g' := gb258) (o := .cells #[.int .i64 x259000_2, .slice none 0 0] 34 (0, 0)) (by exact BK258.out) NB258_269.out (by simp)); have n2_ := Aside0.mk (KeepBut.blk hk (g' := gb273) (o := .cells #[.int .i64 (wrap64 (t270)), u274001] 34 (0, 0)) (by exact BK273.out) NB273_269.out (by simp)); have n3_ := Aside0.mk (Kd.R_mono (Kd.R_keep (IsS71.apart (show IsS71 w _ g269 t283 t284 from by repeat (first | (with_reducible first | exact HI269.out | refine IsS71.far ?_ NB269_273.out _))) (by exact HO282.out) (by decide)) hk (fun _ h => h.2)) (fun _ h => h.1)); have n4_ := Aside0.mk (hb); have n5_ := Aside0.mk (hi); clear HO_274001; clear BK258; clear BK273; clear HO282; clear HB; clear HI269; have HO_274001 := n0_; have BK258 := n1_; have BK273 := n2_; have HO282 := n3_; have HB := n4_; have HI269 := n5_; clear n0_ n1_ n2_ n3_ n4_ n5_; (try clear hb); (try clear hb2); (try clear hk); (try clear hi)) | ((with_reducible refine gate_callee (f := 32) rfl ?_); refine goesL_ (some 71) rfl rfl Try.func32 (by kernel_rfl) rfl #[.pointer (some ⟨g269, 0, none⟩), .int .i64 (wrap64 (t285))] rfl (by (try simp only [List.map_toArray, List.map_cons, List.map_nil]); first | rfl | (refine qa_arr ?_; (repeat' (first | rfl | refine qa_cons ?_ ?_ | refine qa_int ?_ | refine qa_agg ?_ | refine qa_arr ?_ | omega)); done)) ?_; (with_reducible refine (coin_Purse_Bytes.calls g269 t286 t287 (wrap64 (t285)) t288 t291 t292 w _ ?side1 ?side2 A50.out).mono ?_); (case side1 => repeat (first | (with_reducible first | exact HI269.out | refine IsS71.far ?_ NB269_273.out _))); (case side2 => repeat (first | (with_reducible first | exact HB.out | refine below_set ?_ GE273.out))); rintro e w56 ⟨v289, rfl, ho0, hi, hb, hk⟩; refine ⟨_, rfl, ?_⟩; have n0_ := Aside0.mk (Kd.R_mono (Kd.R_keep (IsS71.apart (show IsS71 w _ g269 t286 t287 from by repeat (first | (with_reducible first | exact HI269.out | refine IsS71.far ?_ NB269_273.out _))) (by exact HO_274001.out) (by decide)) hk (fun _ h => h.2)) (fun _ h => h.1)); have n1_ := Aside0.mk (KeepBut.blk hk (g' := gb258) (o := .cells #[.int .i64 x259000_2, .slice none 0 0] 34 (0, 0)) (by exact BK258.out) NB258_269.out (by simp)); have n2_ := Aside0.mk (KeepBut.blk hk (g' := gb273) (o := .cells #[.int .i64 (wrap64 (t270)), u274001] 34 (0, 0)) (by exact BK273.out) NB273_269.out (by simp)); have n3_ := Aside0.mk (Kd.R_mono (Kd.R_told (Kd.R_oldK (IsS71.apart (show IsS71 w _ g269 t286 t287 from by repeat (first | (with_reducible first | exact HI269.out | refine IsS71.far ?_ NB269_273.out _))) (by exact HO282.out) (by decide)) hk) (Kd.R_base ho0)) (fun _ h_ => h_.1)); have n4_ := Aside0.mk (Kd.R_lower (Kd.R_new' ho0 (Kd.R_lt (by exact HO282.out))) (below_size (by repeat (first | (with_reducible first | exact HB.out | refine below_set ?_ GE273.out))))); have n5_ := Aside0.mk (hb); have n6_ := Aside0.mk (hi); clear HO_274001; clear BK258; clear BK273; clear HO282; clear HB; clear HI269; have HO_274001 := n0_; have BK258 := n1_; have BK273 := n2_; have HO282 := n3_; have HO290 := n4_; have HB := n5_; have HI269 := n6_; clear n0_ n1_ n2_ n3_ n4_ n5_ n6_; (try clear hb); (try clear hb2); (try clear hk); (try clear hi); (try clear ho0)) | ((with_reducible refine gate_callee (f := 30) rfl ?_); refine goesL_ (some 73) rfl rfl Try.func30 (by kernel_rfl) rfl #[.pointer (some ⟨g269, 0, none⟩)] rfl (by (try simp only [List.map_toArray, List.map_cons, List.map_nil]); first | rfl | (refine qa_arr ?_; (repeat' (first | rfl | refine qa_cons ?_ ?_ | refine qa_int ?_ | refine qa_agg ?_ | refine qa_arr ?_ | omega)); done)) ?_; (with_reducible refine (coin_Purse_Fault.calls g269 t291 t292 t293 t294 t295 w _ ?side1 ?side2 A51.out).mono ?_); (case side1 => repeat (first | (with_reducible first | exact HI269.out | refine IsS71.far ?_ NB269_273.out _))); (case side2 => repeat (first | (with_reducible first | exact HB.out | refine below_set ?_ GE273.out))); rintro e w57 ⟨rfl, hi, hb, hk⟩; refine ⟨_, rfl, ?_⟩; have n0_ := Aside0.mk (Kd.R_mono (Kd.R_keep (IsS71.apart (show IsS71 w _ g269 t291 t292 from by repeat (first | (with_reducible first | exact HI269.out | refine IsS71.far ?_ NB269_273.out _))) (by exact HO_274001.out) (by decide)) hk (fun _ h => h.2)) (fun _ h => h.1)); have n1_ := Aside0.mk (KeepBut.blk hk (g' := gb258) (o := .cells #[.int .i64 x259000_2, .slice none 0 0] 34 (0, 0)) (by exact BK258.out) NB258_269.out (by simp)); have n2_ := Aside0.mk (KeepBut.blk hk (g' := gb273) (o := .cells #[.int .i64 (wrap64 (t270)), u274001] 34 (0, 0)) (by exact BK273.out) NB273_269.out (by simp)); have n3_ := Aside0.mk (Kd.R_mono (Kd.R_keep (IsS71.apart (show IsS71 w _ g269 t291 t292 from by repeat (first | (with_reducible first | exact HI269.out | refine IsS71.far ?_ NB269_273.out _))) (by exact HO282.out) (by decide)) hk (fun _ h => h.2)) (fun _ h => h.1)); have n4_ := Aside0.mk (Kd.R_mono (Kd.R_keep (IsS71.apart (show IsS71 w _ g269 t291 t292 from by repeat (first | (with_reducible first | exact HI269.out | refine IsS71.far ?_ NB269_273.out _))) (by exact HO290.out) (by decide)) hk (fun _ h => h.2)) (fun _ h => h.1)); have n5_ := Aside0.mk (hb); have n6_ := Aside0.mk (hi); clear HO_274001; clear BK258; clear BK273; clear HO282; clear HO290; clear HB; clear HI269; have HO_274001 := n0_; have BK258 := n1_; have BK273 := n2_; have HO282 := n3_; have HO290 := n4_; have HB := n5_; have HI269 := n6_; clear n0_ n1_ n2_ n3_ n4_ n5_ n6_; (try clear hb); (try clear hb2); (try clear hk); (try clear hi)))
                        (try simp only [Act.put, List.setIfInBounds_toArray, List.set_cons_zero, List.set_cons_succ])
                        go_cut [84] (fun v84 wc => ∃ (kq : Nat) (x84_52 : Bool), v84 = .bool x84_52 ∧ Aside0 (message_Decode.j3 kq x9_2 t280 t288 x84_52 t294 t295 (wrap64 (t270)) x274001_2 = some (r1, r2, r3, r4)) ∧ Aside0 (kq ≤ kj39) ∧ Aside0 (Kd.R (Kd.int .u8) 5 wc w.heap.size (fun k_ => some k_ ≠ (v289 : Value).ownBlock) v281 t280) ∧ Aside0 (Kd.R (Kd.int .u8) 5 wc w.heap.size (fun k_ => some k_ ≠ (v281 : Value).ownBlock) v289 t288) ∧ Aside0 (Kd.R k28 28 wc w.heap.size (fun _ => True) u274001 x274001_2) ∧ Aside0 (wc.heap[gb258]? = some (.cells #[.int .i64 x259000_2, (.slice none 0 0)] 34 (0, 0))) ∧ Aside0 (wc.heap[gb273]? = some (.cells #[.int .i64 (wrap64 (t270)), u274001] 34 (0, 0))) ∧ Aside0 (IsS71 w wc g269 t294 t295) ∧ Aside0 (Below w.heap.size w wc))
                        case first =>
                         have H := HC53.out
                         clear HC53
                         by_cases c58 : 0 < (t280.length : Int)
                         · rw [if_pos c58] at H
                           have c58b0 : decide (0 < (t280.length : Int)) = true := decide_eq_true c58
                           have c58b1 : decide (0 < t280.length) = true := decide_eq_true (by omega)
                           clear c58
                           (first | skip)
                           by_cases c59 : (rd t280 0) < 1
                           · rw [if_pos c59] at H
                             have c59b0 : decide ((rd t280 0) < 1) = true := decide_eq_true c59
                             clear c59
                             have H' := Aside0.mk H
                             clear H
                             obtain ⟨Ao60, co60, eo60⟩ := Kd.R_slice HO282.out
                             subst eo60
                             have p296 : 0 ≤ (0 : Int) := (by omega)
                             have q296 : 0 < (t280.length : Int) := of_decide_eq_true (by first | (with_reducible assumption))
                             obtain ⟨ad296, e296, hx296_0⟩ := Kd.at_int (Kd.R_reads' HO282.out).2.2 0 p296 q296
                             cases e296
                             have qi296 : (0 < t280.length) = True := eq_true (by omega)
                             (try rw [show ((0 : Int)).toNat = 0 from rfl] at hx296_0)
                             (try rw [Addr.add_zero'] at hx296_0)
                             replace p296 := eq_true p296
                             replace q296 := eq_true q296
                             go_wp2
                             go_meet
                             case rel => exact ⟨_, (true), (by first | rfl | (refine qa_int ?_; simp <;> omega)), H', ⟨by have := HJ8.out; have := HK2.out; have := HJ39.out; first | omega⟩, ⟨by exact Kd.R_mono HO282.out (fun _ hk => hk.2)⟩, ⟨by exact Kd.R_mono HO290.out (fun _ hk => hk.2)⟩, ⟨by exact HO_274001.out⟩, ⟨by exact BK258.out⟩, ⟨by exact BK273.out⟩, ⟨by repeat (first | (with_reducible first | exact HI269.out | refine IsS71.far ?_ NB269_273.out _))⟩, ⟨by repeat (first | (with_reducible first | exact HB.out | refine below_set ?_ GE273.out))⟩⟩
                           · rw [if_neg c59] at H
                             have c59b0 : decide ((rd t280 0) < 1) = false := decide_eq_false c59
                             clear c59
                             have H' := Aside0.mk H
                             clear H
                             obtain ⟨Ao61, co61, eo61⟩ := Kd.R_slice HO282.out
                             subst eo61
                             have p296 : 0 ≤ (0 : Int) := (by omega)
                             have q296 : 0 < (t280.length : Int) := of_decide_eq_true (by first | (with_reducible assumption))
                             obtain ⟨ad296, e296, hx296_0⟩ := Kd.at_int (Kd.R_reads' HO282.out).2.2 0 p296 q296
                             cases e296
                             have qi296 : (0 < t280.length) = True := eq_true (by omega)
                             (try rw [show ((0 : Int)).toNat = 0 from rfl] at hx296_0)
                             (try rw [Addr.add_zero'] at hx296_0)
                             replace p296 := eq_true p296
                             replace q296 := eq_true q296
                             have p297 : 0 ≤ (0 : Int) := (by omega)
                             have q297 : 0 < (t280.length : Int) := of_decide_eq_true (by first | (with_reducible assumption))
                             obtain ⟨ad297, e297, hx297_0⟩ := Kd.at_int (Kd.R_reads' HO282.out).2.2 0 p297 q297
                             obtain rfl : ad296 = ad297 := (by injection e297)
                             have qi297 : (0 < t280.length) = True := eq_true (by omega)
                             (try rw [show ((0 : Int)).toNat = 0 from rfl] at hx297_0)
                             (try rw [Addr.add_zero'] at hx297_0)
                             replace p297 := eq_true p297
                             replace q297 := eq_true q297
                             go_wp2
                             go_meet
                             case rel => exact ⟨_, (decide ((rd t280 0) > 4)), (by first | rfl | (refine qa_int ?_; simp <;> omega)), H', ⟨by have := HJ8.out; have := HK2.out; have := HJ39.out; first | omega⟩, ⟨by exact Kd.R_mono HO282.out (fun _ hk => hk.2)⟩, ⟨by exact Kd.R_mono HO290.out (fun _ hk => hk.2)⟩, ⟨by exact HO_274001.out⟩, ⟨by exact BK258.out⟩, ⟨by exact BK273.out⟩, ⟨by repeat (first | (with_reducible first | exact HI269.out | refine IsS71.far ?_ NB269_273.out _))⟩, ⟨by repeat (first | (with_reducible first | exact HB.out | refine below_set ?_ GE273.out))⟩⟩
                         · rw [if_neg c58] at H
                           exact absurd H (by simp)
                        case rest =>
                         clear HC53
                         try clear c1
                         try clear c2
                         try clear c2b0
                         try clear p2
                         try clear q2
                         try clear hx2
                         try clear hcv2
                         try clear qi2
                         try clear c3
                         try clear c4
                         try clear c5
                         try clear c6
                         try clear c6b0
                         try clear c6b1
                         try clear p6
                         try clear c7
                         try clear c7b0
                         try clear c7b1
                         try clear c12
                         try clear c12b0
                         try clear c13
                         try clear c13b0
                         try clear c14
                         try clear c14b0
                         try clear c14b1
                         try clear c15
                         try clear c15b0
                         try clear c15b1
                         try clear c16
                         try clear hcv20
                         try clear c22
                         try clear hcv25
                         try clear c26
                         try clear p26
                         try clear q26
                         try clear hx26
                         try clear qi26
                         try clear c28
                         try clear c28b0
                         try clear c28b1
                         try clear c29
                         try clear c29b0
                         try clear c29b1
                         try clear p29
                         try clear q29
                         try clear hx29
                         try clear qi29
                         try clear c30
                         try clear c32
                         try clear c37
                         try clear c38
                         try clear c42
                         try clear c42b0
                         try clear c42b1
                         try clear c47
                         try clear c52
                         try clear c52b0
                         try clear c52b1
                         try clear c58
                         try clear c58b0
                         try clear c58b1
                         try clear c59
                         try clear c59b0
                         try clear hcz27_0
                         try clear hcz27_1
                         try clear hcz39_0
                         try clear hcz39_1
                         try clear hcz4_0
                         try clear hcz4_1
                         try clear hfz27_0
                         try clear hfz27_1
                         try clear hfz39_0
                         try clear hfz39_1
                         try clear hfz4_0
                         try clear hfz4_1
                         try clear hx265_0
                         try clear hx296_0
                         try clear hx297_0
                         try clear p2
                         try clear p26
                         try clear p265
                         try clear p296
                         try clear p297
                         try clear p6
                         try clear q2
                         try clear q26
                         try clear q265
                         try clear q296
                         try clear q297
                         obtain ⟨kq, x84_52, rfl, HA, HJ52, HO_10, HO_11, HO_274001, BK258, BK273, HI269, HB⟩ := hcut
                         cases kq with
                         | zero => exact absurd HA.out (by simp [message_Decode.j3])
                         | succ kj52 =>
                          have H := HA.out
                          clear HA
                          simp only [message_Decode.j3] at H
                          by_cases c62 : x84_52 = true
                          · subst c62
                            have H1 : (message_Decode.l0 kj52 (wrap64 (x9_2 + 1)) t294 t295 (wrap64 (t270)) x274001_2) = some (r1, r2, r3, r4) := by rw [if_pos rfl] at H; exact H
                            clear H
                            have H := H1
                            clear H1
                            have H' := Aside0.mk H
                            clear H
                            go_wp2
                            go_roundg kj52
                            case measure => have := HJ8.out; have := HK2.out; have := HJ39.out; have := HJ52.out; omega
                            case rel => exact ⟨(wrap64 (x9_2 + 1)), (x259000_2), (t294), (t295), (x274001_2), (u274001), (by first | rfl | (refine qa_int ?_; simp <;> omega)), H', ⟨by have := HJ8.out; have := HK2.out; have := HJ39.out; have := HJ52.out; omega⟩, ⟨by exact HO_274001.out⟩, ⟨by exact BK258.out⟩, ⟨by exact BK273.out⟩, ⟨by repeat (first | (with_reducible first | exact HI269.out | refine IsS71.far ?_ NB269_273.out _))⟩, ⟨by repeat (first | (with_reducible first | exact HB.out | refine below_set ?_ GE273.out))⟩⟩
                          · replace c62 := Bool.eq_false_iff.mpr c62
                            subst c62
                            have H1 : (if 0 < (t280.length : Int) then ((message_part.f kj52 (rd t280 0) t288).bind fun bt299 => (if bt299.2.2.2.2.2.2.2 = true then (if x274001_2.length < 3518437208883 then (message_Decode.l0 kj52 x9_2 t294 t295 (wrap64 (t270)) (x274001_2 ++ [(⟨bt299.1, bt299.2.1, bt299.2.2.1, (⟨bt299.2.2.2.1, bt299.2.2.2.2.1⟩ : S25), bt299.2.2.2.2.2.1, bt299.2.2.2.2.2.2.1⟩ : S28)])) else (none)) else (some (0, ([] : List (S28)), 0, 4)))) else (none)) = some (r1, r2, r3, r4) := by rw [if_neg (show ¬ (false = true) by decide)] at H; exact H
                            clear H
                            have H := H1
                            clear H1
                            by_cases c63 : 0 < (t280.length : Int)
                            · rw [if_pos c63] at H
                              have c63b0 : decide (0 < (t280.length : Int)) = true := decide_eq_true c63
                              have c63b1 : decide (0 < t280.length) = true := decide_eq_true (by omega)
                              clear c63
                              replace H := Option.bind_eq_some_iff.mp H
                              obtain ⟨⟨t299, t300, t301, t302, t303, t304, t305, t306⟩, A640, H⟩ := H
                              replace H : (if t306 = true then (if x274001_2.length < 3518437208883 then (message_Decode.l0 kj52 x9_2 t294 t295 (wrap64 (t270)) (x274001_2 ++ [(⟨t299, t300, t301, (⟨t302, t303⟩ : S25), t304, t305⟩ : S28)])) else (none)) else (some (0, ([] : List (S28)), 0, 4))) = some (r1, r2, r3, r4) := H
                              have A64 := Aside0.mk A640
                              clear A640
                              by_cases c65 : t306 = true
                              · subst c65
                                have H1 : (if x274001_2.length < 3518437208883 then (message_Decode.l0 kj52 x9_2 t294 t295 (wrap64 (t270)) (x274001_2 ++ [(⟨t299, t300, t301, (⟨t302, t303⟩ : S25), t304, t305⟩ : S28)])) else (none)) = some (r1, r2, r3, r4) := by rw [if_pos rfl] at H; exact H
                                clear H
                                have H := H1
                                clear H1
                                by_cases c66 : x274001_2.length < 3518437208883
                                · rw [if_pos c66] at H
                                  have LMc66 := Aside0.mk c66
                                  clear c66
                                  obtain ⟨y308, hy308⟩ : ∃ y_ : List (S28), y_ = (x274001_2 ++ [(⟨t299, t300, t301, (⟨t302, t303⟩ : S25), t304, t305⟩ : S28)]) := ⟨_, rfl⟩
                                  replace H : (message_Decode.l0 kj52 x9_2 t294 t295 (wrap64 (t270)) y308) = some (r1, r2, r3, r4) := by first | (rw [hy308]; with_reducible exact H) | exact H
                                  have Ny308 := Aside0.mk hy308
                                  clear hy308
                                  have H' := Aside0.mk H
                                  clear H
                                  obtain ⟨Ao67, co67, eo67⟩ := Kd.R_slice HO_10.out
                                  subst eo67
                                  have p298 : 0 ≤ (0 : Int) := (by omega)
                                  have q298 : 0 < (t280.length : Int) := of_decide_eq_true (by first | (with_reducible assumption))
                                  obtain ⟨ad298, e298, hx298_0⟩ := Kd.at_int (Kd.R_reads' HO_10.out).2.2 0 p298 q298
                                  cases e298
                                  have qi298 : (0 < t280.length) = True := eq_true (by omega)
                                  (try rw [show ((0 : Int)).toNat = 0 from rfl] at hx298_0)
                                  (try rw [Addr.add_zero'] at hx298_0)
                                  replace p298 := eq_true p298
                                  replace q298 := eq_true q298
                                  obtain ⟨Ao68, co68, eo68⟩ := Kd.R_slice HO_11.out
                                  subst eo68
                                  go_wp2_with (first | ((with_reducible refine gate_callee (f := 33) rfl ?_); refine goesL_ (some 92) rfl rfl Try.func33 (by kernel_rfl) rfl #[.int .u8 (rd t280 0), .slice Ao68 t288.length co68] rfl (by (try simp only [List.map_toArray, List.map_cons, List.map_nil]); first | rfl | (refine qa_arr ?_; (repeat' (first | rfl | refine qa_cons ?_ ?_ | refine qa_int ?_ | refine qa_agg ?_ | refine qa_arr ?_ | omega)); done)) ?_; (with_reducible refine (message_part.calls kj52 (rd t280 0) _ _ t288 t299 t300 t301 t302 t303 t304 t305 true _ ?side1 ?side2 A64.out).mono ?_); (case side1 => repeat (first | exact (Kd.R_reads' HO_11.out).2.2 | (with_reducible refine Kd.C_drew ?_))); (case side2 => exact (Kd.R_reads' HO_11.out).2.1); rintro e w69 ⟨rfl, hb⟩; refine ⟨_, rfl, ?_⟩; have n0_ := Aside0.mk (Kd.R_below (by exact HO_10.out) hb); have n1_ := Aside0.mk (Kd.R_below (by exact HO_11.out) hb); have n2_ := Aside0.mk (Kd.R_below (by exact HO_274001.out) hb); have n3_ := Aside0.mk (blk_below (g := gb258) (o := .cells #[.int .i64 x259000_2, .slice none 0 0] 34 (0, 0)) (by exact BK258.out) hb); have n4_ := Aside0.mk (blk_below (g := gb273) (o := .cells #[.int .i64 (wrap64 (t270)), u274001] 34 (0, 0)) (by exact BK273.out) hb); have n5_ := Aside0.mk (IsS71.below (by repeat (first | (with_reducible first | exact HI269.out | refine IsS71.far ?_ NB269_273.out _))) hb); have n6_ := Aside0.mk (below_step (by repeat (first | (with_reducible first | exact HB.out | refine below_set ?_ GE273.out))) hb); clear HO_10; clear HO_11; clear HO_274001; clear BK258; clear BK273; clear HI269; clear HB; have HO_10 := n0_; have HO_11 := n1_; have HO_274001 := n2_; have BK258 := n3_; have BK273 := n4_; have HI269 := n5_; have HB := n6_; clear n0_ n1_ n2_ n3_ n4_ n5_ n6_; (try clear hb); (try clear hb2); (try clear hk); (try clear hi); have hcy0 : w69.cell? ⟨gb273, 0, none⟩ = some (.int .i64 (wrap64 (t270))) := (blk_cell BK273.out 0).trans rfl; have hcy1 : w69.cell? ⟨gb273, 1, none⟩ = some (u274001) := (blk_cell BK273.out 1).trans rfl; have hfy0 := blk_frozen BK273.out 0; have hfy1 := blk_frozen BK273.out 1; have hnz0 : ∀ o, (w69.alloc o).cell? ⟨gb273, 1, none⟩ = some (u274001) := fun o => (blk_cell (blk_alloc BK273.out o) 1).trans rfl; have hnz1 : ∀ o, (w69.alloc o).frozen? ⟨gb273, 1, none⟩ = false := fun o => blk_frozen (blk_alloc BK273.out o) 1) | ((with_reducible refine gate_builtin (b := .append) (xs := #[.tmp 99, .tmp 101]) rfl ?_); at_builtin; have m0 := Aside0.mk (blk_alloc BK258.out (.cells #[.int .u8 t299, .int .u64 t300, .int .i64 t301, .int .u32 t302, .int .u8 t303, .int .u16 t304, .int .u16 t305] 28 (0, 0))); have m1 := Aside0.mk (blk_alloc BK273.out (.cells #[.int .u8 t299, .int .u64 t300, .int .i64 t301, .int .u32 t302, .int .u8 t303, .int .u16 t304, .int .u16 t305] 28 (0, 0))); have m2 := Aside0.mk (Kd.R_alloc HO_274001.out (.cells #[.int .u8 t299, .int .u64 t300, .int .i64 t301, .int .u32 t302, .int .u8 t303, .int .u16 t304, .int .u16 t305] 28 (0, 0))); have m3 := Aside0.mk (IsS71.alloc HI269.out (.cells #[.int .u8 t299, .int .u64 t300, .int .i64 t301, .int .u32 t302, .int .u8 t303, .int .u16 t304, .int .u16 t305] 28 (0, 0))); have m4 := Aside0.mk (below_alloc HB.out (.cells #[.int .u8 t299, .int .u64 t300, .int .i64 t301, .int .u32 t302, .int .u8 t303, .int .u16 t304, .int .u16 t305] 28 (0, 0))); refine Kd.R_append k28 (w0 := w) w.heap.size rfl (.tmp 99) (.tmp 101) 32 28 (.agg #[(.int .u8 0), (.int .u64 0), (.int .i64 0), (.int .u32 0), (.int .u8 0), (.int .u16 0), (.int .u16 0)]) 40 rfl Try.underlying32 info28 rfl (by decide) (by omega) u274001 x274001_2 (⟨t299, t300, t301, (⟨t302, t303⟩ : S25), t304, t305⟩ : S28) [.int .u8 t299, .int .u64 t300, .int .i64 t301, .int .u32 t302, .int .u8 t303, .int .u16 t304, .int .u16 t305] (fun _ => True) (fun _ => False) rfl ?aX (k28_mkM _ _ _ (⟨t299, t300, t301, (⟨t302, t303⟩ : S25), t304, t305⟩ : S28)) (fun _ hk => hk.elim) (fun _ _ => trivial) m2.out m4.out (below_size m4.out) (by have := LMc66.out; omega) ?_; (case aX => first | (go_simp; done)); intro v309 w78 ho hb hg hat; rw [← Ny308.out] at ho; have n0_ := Aside0.mk (blk_grown (g := gb258) (o := .cells #[.int .i64 x259000_2, .slice none 0 0] 34 (0, 0)) m0.out hg (Kd.R_ne m2.out m0.out (by decide))); have n1_ := Aside0.mk (blk_grown (g := gb273) (o := .cells #[.int .i64 (wrap64 (t270)), u274001] 34 (0, 0)) m1.out hg (Kd.R_ne m2.out m1.out (by decide))); have n2_ := Aside0.mk (IsS71.grown m3.out hg (IsS71.own_ne m3.out m2.out (by decide))); have n3_ := Aside0.mk hb; have n4_ := Aside0.mk ho; clear m0 m1 m2 m3 m4; clear BK258 BK273 HI269 HB HO_274001 hcy0 hcy1 hfy0 hfy1 hnz0 hnz1; have BK258 := n0_; have BK273 := n1_; have HI269 := n2_; have HB := n3_; have HO310 := n4_; clear n0_ n1_ n2_ n3_ n4_ ho hb hg hat; obtain ⟨Ao79, co79, eo79⟩ := Kd.R_slice HO310.out; subst eo79; have hcy0 : w78.cell? ⟨gb273, 0, none⟩ = some (.int .i64 (wrap64 (t270))) := (blk_cell BK273.out 0).trans rfl; have hcy1 : w78.cell? ⟨gb273, 1, none⟩ = some (u274001) := (blk_cell BK273.out 1).trans rfl; have hfy0 := blk_frozen BK273.out 0; have hfy1 := blk_frozen BK273.out 1))
                                  go_roundg kj52
                                  case measure => have := HJ8.out; have := HK2.out; have := HJ39.out; have := HJ52.out; omega
                                  case rel => exact ⟨(x9_2), (x259000_2), (t294), (t295), (y308), (.slice Ao79 y308.length co79), (by first | rfl | (refine qa_int ?_; simp <;> omega)), H', ⟨by have := HJ8.out; have := HK2.out; have := HJ39.out; have := HJ52.out; omega⟩, ⟨by exact Kd.R_mono (Kd.R_far (p := ⟨gb273, 1, none⟩) (Kd.R_types HO310.out BK273.out (by decide)) (fun _ hk => hk.2) (.slice Ao79 y308.length co79)) (fun _ hk => trivial)⟩, ⟨by refine blk_far ?_ NB258_273.out _; exact BK258.out⟩, ⟨by refine blk_put (cs := #[.int .i64 (wrap64 (t270)), u274001]) ?_ 1 _ rfl; exact BK273.out⟩, ⟨by repeat (first | (with_reducible first | exact HI269.out | refine IsS71.far ?_ NB269_273.out _))⟩, ⟨by repeat (first | (with_reducible first | exact HB.out | refine below_set ?_ GE273.out))⟩⟩
                                · rw [if_neg c66] at H
                                  exact absurd H (by simp)
                              · replace c65 := Bool.eq_false_iff.mpr c65
                                subst c65
                                have H1 : (some (0, ([] : List (S28)), 0, 4)) = some (r1, r2, r3, r4) := by rw [if_neg (show ¬ (false = true) by decide)] at H; exact H
                                clear H
                                have H := H1
                                clear H1
                                simp only [Option.some.injEq, Prod.mk.injEq] at H
                                obtain ⟨rfl, rfl, rfl, rfl⟩ := H
                                obtain ⟨Ao81, co81, eo81⟩ := Kd.R_slice HO_10.out
                                subst eo81
                                have p298 : 0 ≤ (0 : Int) := (by omega)
                                have q298 : 0 < (t280.length : Int) := of_decide_eq_true (by first | (with_reducible assumption))
                                obtain ⟨ad298, e298, hx298_0⟩ := Kd.at_int (Kd.R_reads' HO_10.out).2.2 0 p298 q298
                                cases e298
                                have qi298 : (0 < t280.length) = True := eq_true (by omega)
                                (try rw [show ((0 : Int)).toNat = 0 from rfl] at hx298_0)
                                (try rw [Addr.add_zero'] at hx298_0)
                                replace p298 := eq_true p298
                                replace q298 := eq_true q298
                                obtain ⟨Ao82, co82, eo82⟩ := Kd.R_slice HO_11.out
                                subst eo82
                                go_wp2_with (first | ((with_reducible refine gate_callee (f := 33) rfl ?_); refine goesL_ (some 92) rfl rfl Try.func33 (by kernel_rfl) rfl #[.int .u8 (rd t280 0), .slice Ao82 t288.length co82] rfl (by (try simp only [List.map_toArray, List.map_cons, List.map_nil]); first | rfl | (refine qa_arr ?_; (repeat' (first | rfl | refine qa_cons ?_ ?_ | refine qa_int ?_ | refine qa_agg ?_ | refine qa_arr ?_ | omega)); done)) ?_; (with_reducible refine (message_part.calls kj52 (rd t280 0) _ _ t288 t299 t300 t301 t302 t303 t304 t305 false _ ?side1 ?side2 A64.out).mono ?_); (case side1 => repeat (first | exact (Kd.R_reads' HO_11.out).2.2 | (with_reducible refine Kd.C_drew ?_))); (case side2 => exact (Kd.R_reads' HO_11.out).2.1); rintro e w83 ⟨rfl, hb⟩; refine ⟨_, rfl, ?_⟩; have n0_ := Aside0.mk (Kd.R_below (by exact HO_10.out) hb); have n1_ := Aside0.mk (Kd.R_below (by exact HO_11.out) hb); have n2_ := Aside0.mk (Kd.R_below (by exact HO_274001.out) hb); have n3_ := Aside0.mk (blk_below (g := gb258) (o := .cells #[.int .i64 x259000_2, .slice none 0 0] 34 (0, 0)) (by exact BK258.out) hb); have n4_ := Aside0.mk (blk_below (g := gb273) (o := .cells #[.int .i64 (wrap64 (t270)), u274001] 34 (0, 0)) (by exact BK273.out) hb); have n5_ := Aside0.mk (IsS71.below (by repeat (first | (with_reducible first | exact HI269.out | refine IsS71.far ?_ NB269_273.out _))) hb); have n6_ := Aside0.mk (below_step (by repeat (first | (with_reducible first | exact HB.out | refine below_set ?_ GE273.out))) hb); clear HO_10; clear HO_11; clear HO_274001; clear BK258; clear BK273; clear HI269; clear HB; have HO_10 := n0_; have HO_11 := n1_; have HO_274001 := n2_; have BK258 := n3_; have BK273 := n4_; have HI269 := n5_; have HB := n6_; clear n0_ n1_ n2_ n3_ n4_ n5_ n6_; (try clear hb); (try clear hb2); (try clear hk); (try clear hi)) | ((with_reducible refine gate_dst (N := 12) rfl ?_); refine box_event ?hg (N := 12) ?hd (cs := #[.int .u8 0, .int .u64 0, .int .i64 0, .int .u32 0, .int .u8 0, .int .u16 0, .int .u16 0]) (t := 28) ?hr ?_; (case hd => rfl); (case hg => rfl); (case hr => first | (go_simp; done)); intro gb307 hg w84 hbox hb; have n0_ := Aside0.mk (Kd.R_below (by exact HO_10.out) hb); have n1_ := Aside0.mk (Kd.R_below (by exact HO_11.out) hb); have n2_ := Aside0.mk (Kd.R_below (Kd.R_elderB (by exact HO_274001.out) gb307 (Nat.le_of_eq hg.symm)) hb); have n3_ := Aside0.mk (blk_below (g := gb258) (o := .cells #[.int .i64 x259000_2, .slice none 0 0] 34 (0, 0)) (by exact BK258.out) hb); have n4_ := Aside0.mk (blk_below (g := gb273) (o := .cells #[.int .i64 (wrap64 (t270)), u274001] 34 (0, 0)) (by exact BK273.out) hb); have n5_ := Aside0.mk (IsS71.below (by repeat (first | (with_reducible first | exact HI269.out | refine IsS71.far ?_ NB269_273.out _))) hb); have n6_ := Aside0.mk (below_step (by repeat (first | (with_reducible first | exact HB.out | refine below_set ?_ GE273.out))) hb); have n7_ := Aside0.mk (hbox); have n8_ := Aside0.mk ((by rw [hg]; exact (below_size (by repeat (first | (with_reducible first | exact HB.out | refine below_set ?_ GE273.out)))) : w.heap.size ≤ gb307)); have n9_ := Aside0.mk ((by rw [hg]; exact (below_size (by repeat (first | (with_reducible first | exact HB.out | refine below_set ?_ GE273.out)))) : w.heap.size ≤ gb307)); have n10_ := Aside0.mk ((by rw [hg]; exact Nat.ne_of_lt (blk_lt (g := gb258) (o := .cells #[.int .i64 x259000_2, .slice none 0 0] 34 (0, 0)) (by exact BK258.out)) : gb258 ≠ gb307)); have n11_ := Aside0.mk ((by rw [hg]; exact Nat.ne_of_gt (blk_lt (g := gb258) (o := .cells #[.int .i64 x259000_2, .slice none 0 0] 34 (0, 0)) (by exact BK258.out)) : gb307 ≠ gb258)); have n12_ := Aside0.mk ((by rw [hg]; exact Nat.ne_of_lt (blk_lt (g := gb273) (o := .cells #[.int .i64 (wrap64 (t270)), u274001] 34 (0, 0)) (by exact BK273.out)) : gb273 ≠ gb307)); have n13_ := Aside0.mk ((by rw [hg]; exact Nat.ne_of_gt (blk_lt (g := gb273) (o := .cells #[.int .i64 (wrap64 (t270)), u274001] 34 (0, 0)) (by exact BK273.out)) : gb307 ≠ gb273)); have n14_ := Aside0.mk ((by rw [hg]; exact Nat.ne_of_lt (IsS71.lt (show IsS71 w _ g269 t294 t295 from by repeat (first | (with_reducible first | exact HI269.out | refine IsS71.far ?_ NB269_273.out _)))) : g269 ≠ gb307)); have n15_ := Aside0.mk ((by rw [hg]; exact Nat.ne_of_gt (IsS71.lt (show IsS71 w _ g269 t294 t295 from by repeat (first | (with_reducible first | exact HI269.out | refine IsS71.far ?_ NB269_273.out _)))) : gb307 ≠ g269)); clear HO_10; clear HO_11; clear HO_274001; clear BK258; clear BK273; clear HI269; clear HB; have HO_10 := n0_; have HO_11 := n1_; have HO_274001 := n2_; have BK258 := n3_; have BK273 := n4_; have HI269 := n5_; have HB := n6_; have BK307 := n7_; have GW307 := n8_; have GE307 := n9_; have NB258_307 := n10_; have NB307_258 := n11_; have NB273_307 := n12_; have NB307_273 := n13_; have NB269_307 := n14_; have NB307_269 := n15_; clear n0_ n1_ n2_ n3_ n4_ n5_ n6_ n7_ n8_ n9_ n10_ n11_ n12_ n13_ n14_ n15_; clear hb hbox hg; have hnb85 := NB307_258.out; have hnc85 := NB258_307.out; have hnb86 := NB307_273.out; have hnc86 := NB273_307.out; have hnb87 := NB307_269.out; have hnc87 := NB269_307.out; have hcz88_0 : w84.cell? ⟨gb307, 0, none⟩ = some (.int .u8 0) := (blk_cell BK307.out 0).trans rfl; have hcz88_1 : w84.cell? ⟨gb307, 1, none⟩ = some (.int .u64 0) := (blk_cell BK307.out 1).trans rfl; have hcz88_2 : w84.cell? ⟨gb307, 2, none⟩ = some (.int .i64 0) := (blk_cell BK307.out 2).trans rfl; have hcz88_3 : w84.cell? ⟨gb307, 3, none⟩ = some (.int .u32 0) := (blk_cell BK307.out 3).trans rfl; have hcz88_4 : w84.cell? ⟨gb307, 4, none⟩ = some (.int .u8 0) := (blk_cell BK307.out 4).trans rfl; have hcz88_5 : w84.cell? ⟨gb307, 5, none⟩ = some (.int .u16 0) := (blk_cell BK307.out 5).trans rfl; have hcz88_6 : w84.cell? ⟨gb307, 6, none⟩ = some (.int .u16 0) := (blk_cell BK307.out 6).trans rfl; have hfz88_0 := blk_frozen BK307.out 0; have hfz88_1 := blk_frozen BK307.out 1; have hfz88_2 := blk_frozen BK307.out 2; have hfz88_3 := blk_frozen BK307.out 3; have hfz88_4 := blk_frozen BK307.out 4; have hfz88_5 := blk_frozen BK307.out 5; have hfz88_6 := blk_frozen BK307.out 6; have hnb89 := NB258_273.out; have hnc89 := NB273_258.out; have hnb90 := NB258_269.out; have hnc90 := NB269_258.out; have hcz91_0 : w84.cell? ⟨gb258, 0, none⟩ = some (.int .i64 x259000_2) := (blk_cell BK258.out 0).trans rfl; have hcz91_1 : w84.cell? ⟨gb258, 1, none⟩ = some (.slice none 0 0) := (blk_cell BK258.out 1).trans rfl; have hfz91_0 := blk_frozen BK258.out 0; have hfz91_1 := blk_frozen BK258.out 1))
                                refine bodyPost_ret (results_ctt rfl _ _ gb258 34 #[.int .i64 0, .slice none 0 0] (0, 0) _ rfl (by refine blk_put (cs := #[.int .i64 0, .slice none 0 0]) ?_ 1 _ rfl; refine blk_put (cs := #[.int .i64 x259000_2, .slice none 0 0]) ?_ 0 _ rfl; refine blk_far ?_ NB258_307.out _; refine blk_far ?_ NB258_307.out _; refine blk_far ?_ NB258_307.out _; refine blk_far ?_ NB258_307.out _; refine blk_far ?_ NB258_307.out _; refine blk_far ?_ NB258_307.out _; refine blk_far ?_ NB258_307.out _; exact BK258.out) Try.underlying34 rfl (by kernel_rfl)) rfl ?_
                                exact ⟨_, by first | rfl | (simp [*, errW_none, errW_some] <;> rfl), by first | exact Kd.R_nil _ _ _ _ _ | exact Kd.S_nil _ _ _ _ _, by repeat (first | (with_reducible first | exact HB.out | refine below_set ?_ GE258.out | refine below_set ?_ GE307.out))⟩
                            · rw [if_neg c63] at H
                              exact absurd H (by simp)
                      · rw [if_neg c52] at H
                        have c52b0 : (t293 == 0) = false := beq_eq_false_iff_ne.mpr c52
                        have c52b1 : (t293 != 0) = true := bne_iff_ne.mpr c52
                        have H' := Aside0.mk H
                        clear H
                        go_wp2_with (first | ((with_reducible refine gate_callee (f := 32) rfl ?_); refine goesL_ (some 66) rfl rfl Try.func32 (by kernel_rfl) rfl #[.pointer (some ⟨g269, 0, none⟩), .int .i64 1] rfl (by (try simp only [List.map_toArray, List.map_cons, List.map_nil]); first | rfl | (refine qa_arr ?_; (repeat' (first | rfl | refine qa_cons ?_ ?_ | refine qa_int ?_ | omega)); done)) ?_; (with_reducible refine (coin_Purse_Bytes.calls g269 x270000_39 x270001_39 1 t280 t283 t284 w _ ?side1 ?side2 A48.out).mono ?_); (case side1 => repeat (first | (with_reducible first | exact HI269.out | refine IsS71.far ?_ NB269_273.out _))); (case side2 => repeat (first | (with_reducible first | exact HB.out | refine below_set ?_ GE273.out))); rintro e w92 ⟨v281, rfl, ho0, hi, hb, hk⟩; refine ⟨_, rfl, ?_⟩; have n0_ := Aside0.mk (Kd.R_mono (Kd.R_keep (IsS71.apart (show IsS71 w _ g269 x270000_39 x270001_39 from by repeat (first | (with_reducible first | exact HI269.out | refine IsS71.far ?_ NB269_273.out _))) (by exact HO_274001.out) (by decide)) hk (fun _ h => h.2)) (fun _ h => h.1)); have n1_ := Aside0.mk (KeepBut.blk hk (g' := gb258) (o := .cells #[.int .i64 x259000_2, .slice none 0 0] 34 (0, 0)) (by exact BK258.out) NB258_269.out (by simp)); have n2_ := Aside0.mk (KeepBut.blk hk (g' := gb273) (o := .cells #[.int .i64 (wrap64 (t270)), u274001] 34 (0, 0)) (by exact BK273.out) NB273_269.out (by simp)); have n3_ := Aside0.mk (Kd.R_lower ho0 (below_size (by repeat (first | (with_reducible first | exact HB.out | refine below_set ?_ GE273.out))))); have n4_ := Aside0.mk (hb); have n5_ := Aside0.mk (hi); clear HO_274001; clear BK258; clear BK273; clear HB; clear HI269; have HO_274001 := n0_; have BK258 := n1_; have BK273 := n2_; have HO282 := n3_; have HB := n4_; have HI269 := n5_; clear n0_ n1_ n2_ n3_ n4_ n5_; (try clear hb); (try clear hb2); (try clear hk); (try clear hi); (try clear ho0)) | ((with_reducible refine gate_callee (f := 29) rfl ?_); refine goesL_ (some 69) rfl rfl Try.func29 (by kernel_rfl) rfl #[.pointer (some ⟨g269, 0, none⟩), .int .u64 1048576] rfl (by (try simp only [List.map_toArray, List.map_cons, List.map_nil]); first | rfl | (refine qa_arr ?_; (repeat' (first | rfl | refine qa_cons ?_ ?_ | refine qa_int ?_ | refine qa_agg ?_ | refine qa_arr ?_ | omega)); done)) ?_; (with_reducible refine (coin_Purse_Take.calls kj39 g269 t283 t284 1048576 t285 t286 t287 w _ ?side1 ?side2 A49.out).mono ?_); (case side1 => repeat (first | (with_reducible first | exact HI269.out | refine IsS71.far ?_ NB269_273.out _))); (case side2 => repeat (first | (with_reducible first | exact HB.out | refine below_set ?_ GE273.out))); rintro e w93 ⟨rfl, hi, hb, hk⟩; refine ⟨_, rfl, ?_⟩; have n0_ := Aside0.mk (Kd.R_mono (Kd.R_keep (IsS71.apart (show IsS71 w _ g269 t283 t284 from by repeat (first | (with_reducible first | exact HI269.out | refine IsS71.far ?_ NB269_273.out _))) (by exact HO_274001.out) (by decide)) hk (fun _ h => h.2)) (fun _ h => h.1)); have n1_ := Aside0.mk (KeepBut.blk hk (g' := gb258) (o := .cells #[.int .i64 x259000_2, .slice none 0 0] 34 (0, 0)) (by exact BK258.out) NB258_269.out (by simp)); have n2_ := Aside0.mk (KeepBut.blk hk (g' := gb273) (o := .cells #[.int .i64 (wrap64 (t270)), u274001] 34 (0, 0)) (by exact BK273.out) NB273_269.out (by simp)); have n3_ := Aside0.mk (Kd.R_mono (Kd.R_keep (IsS71.apart (show IsS71 w _ g269 t283 t284 from by repeat (first | (with_reducible first | exact HI269.out | refine IsS71.far ?_ NB269_273.out _))) (by exact HO282.out) (by decide)) hk (fun _ h => h.2)) (fun _ h => h.1)); have n4_ := Aside0.mk (hb); have n5_ := Aside0.mk (hi); clear HO_274001; clear BK258; clear BK273; clear HO282; clear HB; clear HI269; have HO_274001 := n0_; have BK258 := n1_; have BK273 := n2_; have HO282 := n3_; have HB := n4_; have HI269 := n5_; clear n0_ n1_ n2_ n3_ n4_ n5_; (try clear hb); (try clear hb2); (try clear hk); (try clear hi)) | ((with_reducible refine gate_callee (f := 32) rfl ?_); refine goesL_ (some 71) rfl rfl Try.func32 (by kernel_rfl) rfl #[.pointer (some ⟨g269, 0, none⟩), .int .i64 (wrap64 (t285))] rfl (by (try simp only [List.map_toArray, List.map_cons, List.map_nil]); first | rfl | (refine qa_arr ?_; (repeat' (first | rfl | refine qa_cons ?_ ?_ | refine qa_int ?_ | refine qa_agg ?_ | refine qa_arr ?_ | omega)); done)) ?_; (with_reducible refine (coin_Purse_Bytes.calls g269 t286 t287 (wrap64 (t285)) t288 t291 t292 w _ ?side1 ?side2 A50.out).mono ?_); (case side1 => repeat (first | (with_reducible first | exact HI269.out | refine IsS71.far ?_ NB269_273.out _))); (case side2 => repeat (first | (with_reducible first | exact HB.out | refine below_set ?_ GE273.out))); rintro e w94 ⟨v289, rfl, ho0, hi, hb, hk⟩; refine ⟨_, rfl, ?_⟩; have n0_ := Aside0.mk (Kd.R_mono (Kd.R_keep (IsS71.apart (show IsS71 w _ g269 t286 t287 from by repeat (first | (with_reducible first | exact HI269.out | refine IsS71.far ?_ NB269_273.out _))) (by exact HO_274001.out) (by decide)) hk (fun _ h => h.2)) (fun _ h => h.1)); have n1_ := Aside0.mk (KeepBut.blk hk (g' := gb258) (o := .cells #[.int .i64 x259000_2, .slice none 0 0] 34 (0, 0)) (by exact BK258.out) NB258_269.out (by simp)); have n2_ := Aside0.mk (KeepBut.blk hk (g' := gb273) (o := .cells #[.int .i64 (wrap64 (t270)), u274001] 34 (0, 0)) (by exact BK273.out) NB273_269.out (by simp)); have n3_ := Aside0.mk (Kd.R_mono (Kd.R_told (Kd.R_oldK (IsS71.apart (show IsS71 w _ g269 t286 t287 from by repeat (first | (with_reducible first | exact HI269.out | refine IsS71.far ?_ NB269_273.out _))) (by exact HO282.out) (by decide)) hk) (Kd.R_base ho0)) (fun _ h_ => h_.1)); have n4_ := Aside0.mk (Kd.R_lower (Kd.R_new' ho0 (Kd.R_lt (by exact HO282.out))) (below_size (by repeat (first | (with_reducible first | exact HB.out | refine below_set ?_ GE273.out))))); have n5_ := Aside0.mk (hb); have n6_ := Aside0.mk (hi); clear HO_274001; clear BK258; clear BK273; clear HO282; clear HB; clear HI269; have HO_274001 := n0_; have BK258 := n1_; have BK273 := n2_; have HO282 := n3_; have HO290 := n4_; have HB := n5_; have HI269 := n6_; clear n0_ n1_ n2_ n3_ n4_ n5_ n6_; (try clear hb); (try clear hb2); (try clear hk); (try clear hi); (try clear ho0)) | ((with_reducible refine gate_callee (f := 30) rfl ?_); refine goesL_ (some 73) rfl rfl Try.func30 (by kernel_rfl) rfl #[.pointer (some ⟨g269, 0, none⟩)] rfl (by (try simp only [List.map_toArray, List.map_cons, List.map_nil]); first | rfl | (refine qa_arr ?_; (repeat' (first | rfl | refine qa_cons ?_ ?_ | refine qa_int ?_ | refine qa_agg ?_ | refine qa_arr ?_ | omega)); done)) ?_; (with_reducible refine (coin_Purse_Fault.calls g269 t291 t292 t293 t294 t295 w _ ?side1 ?side2 A51.out).mono ?_); (case side1 => repeat (first | (with_reducible first | exact HI269.out | refine IsS71.far ?_ NB269_273.out _))); (case side2 => repeat (first | (with_reducible first | exact HB.out | refine below_set ?_ GE273.out))); rintro e w95 ⟨rfl, hi, hb, hk⟩; refine ⟨_, rfl, ?_⟩; have n0_ := Aside0.mk (Kd.R_mono (Kd.R_keep (IsS71.apart (show IsS71 w _ g269 t291 t292 from by repeat (first | (with_reducible first | exact HI269.out | refine IsS71.far ?_ NB269_273.out _))) (by exact HO_274001.out) (by decide)) hk (fun _ h => h.2)) (fun _ h => h.1)); have n1_ := Aside0.mk (KeepBut.blk hk (g' := gb258) (o := .cells #[.int .i64 x259000_2, .slice none 0 0] 34 (0, 0)) (by exact BK258.out) NB258_269.out (by simp)); have n2_ := Aside0.mk (KeepBut.blk hk (g' := gb273) (o := .cells #[.int .i64 (wrap64 (t270)), u274001] 34 (0, 0)) (by exact BK273.out) NB273_269.out (by simp)); have n3_ := Aside0.mk (Kd.R_mono (Kd.R_keep (IsS71.apart (show IsS71 w _ g269 t291 t292 from by repeat (first | (with_reducible first | exact HI269.out | refine IsS71.far ?_ NB269_273.out _))) (by exact HO282.out) (by decide)) hk (fun _ h => h.2)) (fun _ h => h.1)); have n4_ := Aside0.mk (Kd.R_mono (Kd.R_keep (IsS71.apart (show IsS71 w _ g269 t291 t292 from by repeat (first | (with_reducible first | exact HI269.out | refine IsS71.far ?_ NB269_273.out _))) (by exact HO290.out) (by decide)) hk (fun _ h => h.2)) (fun _ h => h.1)); have n5_ := Aside0.mk (hb); have n6_ := Aside0.mk (hi); clear HO_274001; clear BK258; clear BK273; clear HO282; clear HO290; clear HB; clear HI269; have HO_274001 := n0_; have BK258 := n1_; have BK273 := n2_; have HO282 := n3_; have HO290 := n4_; have HB := n5_; have HI269 := n6_; clear n0_ n1_ n2_ n3_ n4_ n5_ n6_; (try clear hb); (try clear hb2); (try clear hk); (try clear hi)))
                        go_meet
                        case rel => exact ⟨_, (x9_2), (x259000_2), (t294), (t295), (x274001_2), (u274001), (by first | rfl | (refine qa_int ?_; simp <;> omega)), H', ⟨by have := HJ8.out; have := HK2.out; have := HJ39.out; first | omega⟩, ⟨by exact HO_274001.out⟩, ⟨by exact BK258.out⟩, ⟨by exact BK273.out⟩, ⟨by repeat (first | (with_reducible first | exact HI269.out | refine IsS71.far ?_ NB269_273.out _))⟩, ⟨by repeat (first | (with_reducible first | exact HB.out | refine below_set ?_ GE273.out))⟩⟩
                    · replace c47 := Bool.eq_false_iff.mpr c47
                      subst c47
                      have H1 : (message_Decode.j4 kj39 x9_2 x270000_39 x270001_39 (wrap64 (t270)) x274001_2) = some (r1, r2, r3, r4) := by rw [if_neg (show ¬ (false = true) by decide)] at H; exact H
                      clear H
                      have H := H1
                      clear H1
                      have H' := Aside0.mk H
                      clear H
                      go_wp2
                      go_meet
                      case rel => exact ⟨_, (x9_2), (x259000_2), (x270000_39), (x270001_39), (x274001_2), (u274001), (by first | rfl | (refine qa_int ?_; simp <;> omega)), H', ⟨by have := HJ8.out; have := HK2.out; have := HJ39.out; first | omega⟩, ⟨by exact HO_274001.out⟩, ⟨by exact BK258.out⟩, ⟨by exact BK273.out⟩, ⟨by repeat (first | (with_reducible first | exact HI269.out | refine IsS71.far ?_ NB269_273.out _))⟩, ⟨by repeat (first | (with_reducible first | exact HB.out | refine below_set ?_ GE273.out))⟩⟩
               case rest =>
                clear HC32
                try clear c1
                try clear c2
                try clear c2b0
                try clear p2
                try clear q2
                try clear hx2
                try clear hcv2
                try clear qi2
                try clear c3
                try clear c4
                try clear c5
                try clear c6
                try clear c6b0
                try clear c6b1
                try clear p6
                try clear c7
                try clear c7b0
                try clear c7b1
                try clear c8
                try clear c9
                try clear c12
                try clear c12b0
                try clear c13
                try clear c13b0
                try clear c14
                try clear c14b0
                try clear c14b1
                try clear c15
                try clear c15b0
                try clear c15b1
                try clear c16
                try clear hcv20
                try clear c22
                try clear hcv25
                try clear c26
                try clear p26
                try clear q26
                try clear hx26
                try clear qi26
                try clear c28
                try clear c28b0
                try clear c28b1
                try clear c29
                try clear c29b0
                try clear c29b1
                try clear p29
                try clear q29
                try clear hx29
                try clear qi29
                try clear c30
                try clear c32
                try clear c33
                try clear c37
                try clear c38
                try clear c42
                try clear c42b0
                try clear c42b1
                try clear c47
                try clear c52
                try clear c52b0
                try clear c52b1
                try clear c58
                try clear c58b0
                try clear c58b1
                try clear c59
                try clear c59b0
                try clear c62
                try clear c63
                try clear c63b0
                try clear c63b1
                try clear p64
                try clear c65
                try clear c66
                try clear c71
                try clear c72
                try clear c73
                try clear c75
                try clear c76
                try clear c85
                try clear c86
                try clear c87
                try clear c89
                try clear c90
                try clear hcz27_0
                try clear hcz27_1
                try clear hcz39_0
                try clear hcz39_1
                try clear hcz4_0
                try clear hcz4_1
                try clear hcz74_0
                try clear hcz74_1
                try clear hcz74_2
                try clear hcz74_3
                try clear hcz74_4
                try clear hcz74_5
                try clear hcz74_6
                try clear hcz77_0
                try clear hcz77_1
                try clear hcz80_0
                try clear hcz80_1
                try clear hcz88_0
                try clear hcz88_1
                try clear hcz88_2
                try clear hcz88_3
                try clear hcz88_4
                try clear hcz88_5
                try clear hcz88_6
                try clear hcz91_0
                try clear hcz91_1
                try clear hfz27_0
                try clear hfz27_1
                try clear hfz39_0
                try clear hfz39_1
                try clear hfz4_0
                try clear hfz4_1
                try clear hfz74_0
                try clear hfz74_1
                try clear hfz74_2
                try clear hfz74_3
                try clear hfz74_4
                try clear hfz74_5
                try clear hfz74_6
                try clear hfz77_0
                try clear hfz77_1
                try clear hfz80_0
                try clear hfz80_1
                try clear hfz88_0
                try clear hfz88_1
                try clear hfz88_2
                try clear hfz88_3
                try clear hfz88_4
                try clear hfz88_5
                try clear hfz88_6
                try clear hfz91_0
                try clear hfz91_1
                try clear hx265_0
                try clear hx296_0
                try clear hx297_0
                try clear hx298_0
                try clear p2
                try clear p26
                try clear p265
                try clear p29
                try clear p296
                try clear p297
                try clear p298
                try clear p6
                try clear q2
                try clear q26
                try clear q265
                try clear q29
                try clear q296
                try clear q297
                try clear q298
                obtain ⟨kq, x9_31, x259000_31, x270000_31, x270001_31, x274001_31, u274001, rfl, HA, HJ31, HO_274001, BK258, BK273, HI269, HB⟩ := hcut
                cases kq with
                | zero => exact absurd HA.out (by simp [message_Decode.j4])
                | succ kj31 =>
                 have H := HA.out
                 clear HA
                 simp only [message_Decode.j4] at H
                 replace H := Option.bind_eq_some_iff.mp H
                 obtain ⟨⟨t311, t312, t313⟩, A960, H⟩ := H
                 replace H : (if t311 = 0 then (if (x274001_31.length : Int) > 300 then (some (0, ([] : List (S28)), 0, 6)) else (some ((wrap64 (t270)), x274001_31, x9_31, 0))) else (some (0, ([] : List (S28)), 0, 4))) = some (r1, r2, r3, r4) := H
                 have A96 := Aside0.mk A960
                 clear A960
                 by_cases c97 : t311 = 0
                 · rw [if_pos c97] at H
                   have c97b0 : (t311 == 0) = true := beq_iff_eq.mpr c97
                   have c97b1 : (t311 != 0) = false := bne_eq_false_iff_eq.mpr c97
                   clear c97
                   by_cases c98 : (x274001_31.length : Int) > 300
                   · rw [if_pos c98] at H
                     have c98b0 : decide (300 < (x274001_31.length : Int)) = true := decide_eq_true c98
                     have c98b1 : decide (300 < x274001_31.length) = true := decide_eq_true (by omega)
                     clear c98
                     simp only [Option.some.injEq, Prod.mk.injEq] at H
                     obtain ⟨rfl, rfl, rfl, rfl⟩ := H
                     go_wp2_with (first | ((with_reducible refine gate_callee (f := 30) rfl ?_); refine goesL_ (some 106) rfl rfl Try.func30 (by kernel_rfl) rfl #[.pointer (some ⟨g269, 0, none⟩)] rfl (by (try simp only [List.map_toArray, List.map_cons, List.map_nil]); first | rfl | (refine qa_arr ?_; (repeat' (first | rfl | refine qa_cons ?_ ?_ | refine qa_int ?_ | refine qa_agg ?_ | refine qa_arr ?_ | omega)); done)) ?_; (with_reducible refine (coin_Purse_Fault.calls g269 x270000_31 x270001_31 t311 t312 t313 w _ ?side1 ?side2 A96.out).mono ?_); (case side1 => repeat (first | (with_reducible first | exact HI269.out | refine IsS71.far ?_ NB269_273.out _))); (case side2 => repeat (first | (with_reducible first | exact HB.out | refine below_set ?_ GE273.out))); rintro e w99 ⟨rfl, hi, hb, hk⟩; refine ⟨_, rfl, ?_⟩; have n0_ := Aside0.mk (Kd.R_mono (Kd.R_keep (IsS71.apart (show IsS71 w _ g269 x270000_31 x270001_31 from by repeat (first | (with_reducible first | exact HI269.out | refine IsS71.far ?_ NB269_273.out _))) (by exact HO_274001.out) (by decide)) hk (fun _ h => h.2)) (fun _ h => h.1)); have n1_ := Aside0.mk (KeepBut.blk hk (g' := gb258) (o := .cells #[.int .i64 x259000_31, .slice none 0 0] 34 (0, 0)) (by exact BK258.out) NB258_269.out (by simp)); have n2_ := Aside0.mk (KeepBut.blk hk (g' := gb273) (o := .cells #[.int .i64 (wrap64 (t270)), u274001] 34 (0, 0)) (by exact BK273.out) NB273_269.out (by simp)); have n3_ := Aside0.mk (hb); have n4_ := Aside0.mk (hi); clear HO_274001; clear BK258; clear BK273; clear HB; clear HI269; have HO_274001 := n0_; have BK258 := n1_; have BK273 := n2_; have HB := n3_; have HI269 := n4_; clear n0_ n1_ n2_ n3_ n4_; (try clear hb); (try clear hb2); (try clear hk); (try clear hi); have hnb100 := NB273_258.out; have hnc100 := NB258_273.out; have hnb101 := NB273_269.out; have hnc101 := NB269_273.out; have hcz102_0 : w99.cell? ⟨gb273, 0, none⟩ = some (.int .i64 (wrap64 (t270))) := (blk_cell BK273.out 0).trans rfl; have hcz102_1 : w99.cell? ⟨gb273, 1, none⟩ = some (u274001) := (blk_cell BK273.out 1).trans rfl; have hfz102_0 := blk_frozen BK273.out 0; have hfz102_1 := blk_frozen BK273.out 1; obtain ⟨Ao103, co103, eo103⟩ := Kd.R_slice HO_274001.out; subst eo103; have hnb104 := NB258_269.out; have hnc104 := NB269_258.out; have hcz105_0 : w99.cell? ⟨gb258, 0, none⟩ = some (.int .i64 x259000_31) := (blk_cell BK258.out 0).trans rfl; have hcz105_1 : w99.cell? ⟨gb258, 1, none⟩ = some (.slice none 0 0) := (blk_cell BK258.out 1).trans rfl; have hfz105_0 := blk_frozen BK258.out 0; have hfz105_1 := blk_frozen BK258.out 1))
                     refine bodyPost_ret (results_ctt rfl _ _ gb258 34 #[.int .i64 0, .slice none 0 0] (0, 0) _ rfl (by refine blk_put (cs := #[.int .i64 0, .slice none 0 0]) ?_ 1 _ rfl; refine blk_put (cs := #[.int .i64 x259000_31, .slice none 0 0]) ?_ 0 _ rfl; exact BK258.out) Try.underlying34 rfl (by kernel_rfl)) rfl ?_
                     exact ⟨_, by first | rfl | (simp [*, errW_none, errW_some] <;> rfl), by first | exact Kd.R_nil _ _ _ _ _ | exact Kd.S_nil _ _ _ _ _, by repeat (first | (with_reducible first | exact HB.out | refine below_set ?_ GE258.out))⟩
                   · rw [if_neg c98] at H
                     have c98b0 : decide (300 < (x274001_31.length : Int)) = false := decide_eq_false c98
                     have c98b1 : decide (300 < x274001_31.length) = false := decide_eq_false (by omega)
                     clear c98
                     simp only [Option.some.injEq, Prod.mk.injEq] at H
                     obtain ⟨rfl, rfl, rfl, rfl⟩ := H
                     go_wp2_with (first | ((with_reducible refine gate_callee (f := 30) rfl ?_); refine goesL_ (some 106) rfl rfl Try.func30 (by kernel_rfl) rfl #[.pointer (some ⟨g269, 0, none⟩)] rfl (by (try simp only [List.map_toArray, List.map_cons, List.map_nil]); first | rfl | (refine qa_arr ?_; (repeat' (first | rfl | refine qa_cons ?_ ?_ | refine qa_int ?_ | refine qa_agg ?_ | refine qa_arr ?_ | omega)); done)) ?_; (with_reducible refine (coin_Purse_Fault.calls g269 x270000_31 x270001_31 t311 t312 t313 w _ ?side1 ?side2 A96.out).mono ?_); (case side1 => repeat (first | (with_reducible first | exact HI269.out | refine IsS71.far ?_ NB269_273.out _))); (case side2 => repeat (first | (with_reducible first | exact HB.out | refine below_set ?_ GE273.out))); rintro e w106 ⟨rfl, hi, hb, hk⟩; refine ⟨_, rfl, ?_⟩; have n0_ := Aside0.mk (Kd.R_mono (Kd.R_keep (IsS71.apart (show IsS71 w _ g269 x270000_31 x270001_31 from by repeat (first | (with_reducible first | exact HI269.out | refine IsS71.far ?_ NB269_273.out _))) (by exact HO_274001.out) (by decide)) hk (fun _ h => h.2)) (fun _ h => h.1)); have n1_ := Aside0.mk (KeepBut.blk hk (g' := gb258) (o := .cells #[.int .i64 x259000_31, .slice none 0 0] 34 (0, 0)) (by exact BK258.out) NB258_269.out (by simp)); have n2_ := Aside0.mk (KeepBut.blk hk (g' := gb273) (o := .cells #[.int .i64 (wrap64 (t270)), u274001] 34 (0, 0)) (by exact BK273.out) NB273_269.out (by simp)); have n3_ := Aside0.mk (hb); have n4_ := Aside0.mk (hi); clear HO_274001; clear BK258; clear BK273; clear HB; clear HI269; have HO_274001 := n0_; have BK258 := n1_; have BK273 := n2_; have HB := n3_; have HI269 := n4_; clear n0_ n1_ n2_ n3_ n4_; (try clear hb); (try clear hb2); (try clear hk); (try clear hi); have hnb107 := NB273_258.out; have hnc107 := NB258_273.out; have hnb108 := NB273_269.out; have hnc108 := NB269_273.out; have hcz109_0 : w106.cell? ⟨gb273, 0, none⟩ = some (.int .i64 (wrap64 (t270))) := (blk_cell BK273.out 0).trans rfl; have hcz109_1 : w106.cell? ⟨gb273, 1, none⟩ = some (u274001) := (blk_cell BK273.out 1).trans rfl; have hfz109_0 := blk_frozen BK273.out 0; have hfz109_1 := blk_frozen BK273.out 1; obtain ⟨Ao110, co110, eo110⟩ := Kd.R_slice HO_274001.out; subst eo110; have hnb111 := NB258_269.out; have hnc111 := NB269_258.out; have hcz112_0 : w106.cell? ⟨gb258, 0, none⟩ = some (.int .i64 x259000_31) := (blk_cell BK258.out 0).trans rfl; have hcz112_1 : w106.cell? ⟨gb258, 1, none⟩ = some (.slice none 0 0) := (blk_cell BK258.out 1).trans rfl; have hfz112_0 := blk_frozen BK258.out 0; have hfz112_1 := blk_frozen BK258.out 1))
                     refine bodyPost_ret (results_ctt rfl _ _ gb258 34 #[.int .i64 (wrap64 (t270)), .slice Ao110 x274001_31.length co110] (0, 0) _ rfl (by refine blk_put (cs := #[.int .i64 (wrap64 (t270)), .slice none 0 0]) ?_ 1 _ rfl; refine blk_put (cs := #[.int .i64 x259000_31, .slice none 0 0]) ?_ 0 _ rfl; exact BK258.out) Try.underlying34 rfl (by kernel_rfl)) rfl ?_
                     exact ⟨_, by first | rfl | (simp [*, errW_none, errW_some] <;> rfl), by exact Kd.R_mono (Kd.R_far (p := ⟨gb258, 1, none⟩) (Kd.R_far (p := ⟨gb258, 0, none⟩) (Kd.R_types HO_274001.out BK258.out (by decide)) (fun _ hk => hk.2) (.int .i64 (wrap64 (t270)))) (fun _ hk => hk.2) (.slice Ao110 x274001_31.length co110)) (fun _ hk => trivial), by repeat (first | (with_reducible first | exact HB.out | refine below_set ?_ GE258.out))⟩
                 · rw [if_neg c97] at H
                   have c97b0 : (t311 == 0) = false := beq_eq_false_iff_ne.mpr c97
                   have c97b1 : (t311 != 0) = true := bne_iff_ne.mpr c97
                   simp only [Option.some.injEq, Prod.mk.injEq] at H
                   obtain ⟨rfl, rfl, rfl, rfl⟩ := H
                   go_wp2_with (first | ((with_reducible refine gate_callee (f := 30) rfl ?_); refine goesL_ (some 106) rfl rfl Try.func30 (by kernel_rfl) rfl #[.pointer (some ⟨g269, 0, none⟩)] rfl (by (try simp only [List.map_toArray, List.map_cons, List.map_nil]); first | rfl | (refine qa_arr ?_; (repeat' (first | rfl | refine qa_cons ?_ ?_ | refine qa_int ?_ | refine qa_agg ?_ | refine qa_arr ?_ | omega)); done)) ?_; (with_reducible refine (coin_Purse_Fault.calls g269 x270000_31 x270001_31 t311 t312 t313 w _ ?side1 ?side2 A96.out).mono ?_); (case side1 => repeat (first | (with_reducible first | exact HI269.out | refine IsS71.far ?_ NB269_273.out _))); (case side2 => repeat (first | (with_reducible first | exact HB.out | refine below_set ?_ GE273.out))); rintro e w113 ⟨rfl, hi, hb, hk⟩; refine ⟨_, rfl, ?_⟩; have n0_ := Aside0.mk (Kd.R_mono (Kd.R_keep (IsS71.apart (show IsS71 w _ g269 x270000_31 x270001_31 from by repeat (first | (with_reducible first | exact HI269.out | refine IsS71.far ?_ NB269_273.out _))) (by exact HO_274001.out) (by decide)) hk (fun _ h => h.2)) (fun _ h => h.1)); have n1_ := Aside0.mk (KeepBut.blk hk (g' := gb258) (o := .cells #[.int .i64 x259000_31, .slice none 0 0] 34 (0, 0)) (by exact BK258.out) NB258_269.out (by simp)); have n2_ := Aside0.mk (KeepBut.blk hk (g' := gb273) (o := .cells #[.int .i64 (wrap64 (t270)), u274001] 34 (0, 0)) (by exact BK273.out) NB273_269.out (by simp)); have n3_ := Aside0.mk (hb); have n4_ := Aside0.mk (hi); clear HO_274001; clear BK258; clear BK273; clear HB; clear HI269; have HO_274001 := n0_; have BK258 := n1_; have BK273 := n2_; have HB := n3_; have HI269 := n4_; clear n0_ n1_ n2_ n3_ n4_; (try clear hb); (try clear hb2); (try clear hk); (try clear hi); have hnb114 := NB258_273.out; have hnc114 := NB273_258.out; have hnb115 := NB258_269.out; have hnc115 := NB269_258.out; have hcz116_0 : w113.cell? ⟨gb258, 0, none⟩ = some (.int .i64 x259000_31) := (blk_cell BK258.out 0).trans rfl; have hcz116_1 : w113.cell? ⟨gb258, 1, none⟩ = some (.slice none 0 0) := (blk_cell BK258.out 1).trans rfl; have hfz116_0 := blk_frozen BK258.out 0; have hfz116_1 := blk_frozen BK258.out 1))
                   refine bodyPost_ret (results_ctt rfl _ _ gb258 34 #[.int .i64 0, .slice none 0 0] (0, 0) _ rfl (by refine blk_put (cs := #[.int .i64 0, .slice none 0 0]) ?_ 1 _ rfl; refine blk_put (cs := #[.int .i64 x259000_31, .slice none 0 0]) ?_ 0 _ rfl; exact BK258.out) Try.underlying34 rfl (by kernel_rfl)) rfl ?_
                   exact ⟨_, by first | rfl | (simp [*, errW_none, errW_some] <;> rfl), by first | exact Kd.R_nil _ _ _ _ _ | exact Kd.S_nil _ _ _ _ _, by repeat (first | (with_reducible first | exact HB.out | refine below_set ?_ GE258.out))⟩
             · rw [if_neg c29] at H
               exact absurd H (by simp)
           · rw [if_neg c28] at H
             exact absurd H (by simp)
     · rw [if_neg c7] at H
       exact absurd H (by simp)
   · rw [if_neg c6] at H
     exact absurd H (by simp)

end Go.Proofs.Ytnfdgpmdakciiaa.QMessageReads
