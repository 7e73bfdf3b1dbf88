-- Lines by a program of this session, for this claim.
import Derived.Test.YtmkjgiejnlmncaaQTablePartsx0
import Derived.Test.YtmkjgiejnlmncaaQTablePartsx3
import Derived.Test.YtmkjgiejnlmncaaQTablePartsx4
import Derived.Test.YtmkjgiejnlmncaaQTablePartsx9
import Derived.Test.YtmkjgiejnlmncaaQTablePartsx10
namespace Go.Proofs.Ytmkjgiejnlmncaa.QTableParts
open Go.RowKit Go.Proofs.YtmkjgiejnlmncaaW.PrintWords Go.Proofs.YtmkjgiejnlmncaaW.PrintLast Go.Proofs.YtmkjgiejnlmncaaW.PrintMore
attribute [local go_sem] max2_int min2_int max_two min_two max_three min_three max_four min_four   -- for this text's walks alone
set_option linter.unusedVariables false
set_option linter.unusedSimpArgs false

/-! ### table_Decode: function 19 -/
def table_Decode.tk (k : Nat) (s : List Int) (e a : Int) : Option (Int × List Int × Int) := (coin_Purse_Take.f k s e a).bind fun x => if 0 ≤ x.1 ∧ x.1 ≤ a then some x else none
theorem table_Decode.tk_is {k : Nat} {s : List Int} {e a : Int} {n : Int} {s' : List Int} {e' : Int} (h : table_Decode.tk k s e a = some (n, s', e')) : coin_Purse_Take.f k s e a = some (n, s', e') ∧ 0 ≤ n ∧ n ≤ a := by
  obtain ⟨y, h1, h2⟩ := Option.bind_eq_some_iff.mp h
  by_cases c : 0 ≤ y.1 ∧ y.1 ≤ a
  · rw [if_pos c] at h2; obtain rfl := Option.some.inj h2; exact ⟨h1, c⟩
  · rw [if_neg c] at h2; cases h2
def table_Decode.rest (k : Nat) (a b c d v : Int) (s : List Int) (e : Int) : Option (S43 × List Int × Int) :=
  if 0 < v then (table_Decode.tk k s e 65534).bind fun m => (table_Decode.tk k m.2.1 m.2.2 65535).bind fun q => some (⟨⟨a, b⟩, true, ⟨⟨a, b⟩, v - 1, m.1, q.1⟩, ⟨c, d⟩⟩, q.2.1, q.2.2)
  else some (⟨⟨a, b⟩, false, ⟨⟨a, b⟩, 0, 0, 0⟩, ⟨c, d⟩⟩, s, e)
def table_Decode.row (k : Nat) (s : List Int) (e : Int) : Option (S43 × List Int × Int) :=
  (table_Decode.tk k s e 4294967295).bind fun a => (table_Decode.tk k a.2.1 a.2.2 32).bind fun b => (table_Decode.tk k b.2.1 b.2.2 65535).bind fun c => (table_Decode.tk k c.2.1 c.2.2 65534).bind fun d => (table_Decode.tk k d.2.1 d.2.2 16).bind fun v => table_Decode.rest k a.1 b.1 c.1 d.1 v.1 v.2.1 v.2.2
/-- doesn't a row stand behind the last one -/
def table_Decode.low (rows : List S43) (X : S43) : Bool := decide (0 < rows.length) && decide (0 ≤ cmpI (rd_T43 rows ((rows.length - 1 : Nat) : Int)).f0.f0 (rd_T43 rows ((rows.length - 1 : Nat) : Int)).f0.f1 X.f0.f0 X.f0.f1)
def table_Decode.loop (k : Nat) : Nat → Int → List Int → Int → List S43 → Option (Option (List S43) × Int)
  | 0, _, _, _, _ => none
  | j + 1, n, s, e, rows => if 0 < n ∧ e = 0 then (table_Decode.row k s e).bind fun x => (prefix_Right.f x.1.f0.f0 x.1.f0.f1).bind fun rt =>
      if x.2.2 = 0 ∧ (rt = false ∨ table_Decode.low rows x.1 = true) then some (none, 4) else table_Decode.loop k j (n - 1) x.2.1 x.2.2 (rows ++ [x.1])
    else (coin_Purse_End.f s e).bind fun z => if z.1 = 0 then some (some rows, 0) else some (none, z.1)
def table_Decode.f (k : Nat) (l : List Int) : Option (Option (List S43 × Int × Int) × Int) :=
  (table_Decode.tk k l 0 18446744073709551615).bind fun a => (table_Decode.tk k a.2.1 a.2.2 18446744073709551615).bind fun b => (table_Decode.tk k b.2.1 b.2.2 256).bind fun c => (table_Decode.loop k 300 c.1 c.2.1 c.2.2 []).bind fun z => some (z.1.map (fun r => (r, a.1, b.1)), z.2)
theorem table_Decode.go_on {k k1 : Nat} {n : Int} {s' : List Int} {e' : Int} {rows : List S43} {X : S43} {rt : Bool} {z : Option (List S43) × Int} (h : (if e' = 0 ∧ (rt = false ∨ table_Decode.low rows X = true) then some (none, 4) else table_Decode.loop k k1 (n - 1) s' e' (rows ++ [X])) = some z) (hB : false = (decide (e' = 0) && (!rt || table_Decode.low rows X))) : table_Decode.loop k k1 (n - 1) s' e' (rows ++ [X]) = some z := by
  rw [if_neg (fun q => by
    rw [decide_eq_true q.1, Bool.true_and] at hB
    rcases q.2 with q | q <;> rw [q] at hB <;> simp at hB)] at h
  exact h
theorem table_Decode.low_no {e' : Int} {rows : List S43} {X : S43} {rt : Bool} (h : e' = 0) (hB : false = (decide (e' = 0) && (!rt || table_Decode.low rows X))) : table_Decode.low rows X = false := by
  rw [decide_eq_true h, Bool.true_and] at hB; exact (Bool.or_eq_false_iff.1 hB.symm).2
theorem table_Decode.stop {k k1 : Nat} {n : Int} {s' : List Int} {e' : Int} {rows : List S43} {X : S43} {rt : Bool} {ro : Option (List S43)} {rr : Int} (h : (if e' = 0 ∧ (rt = false ∨ table_Decode.low rows X = true) then some (none, 4) else table_Decode.loop k k1 (n - 1) s' e' (rows ++ [X])) = some (ro, rr)) (hB : true = (decide (e' = 0) && (!rt || table_Decode.low rows X))) : ro = none ∧ rr = 4 := by
  have hb := hB.symm; rw [Bool.and_eq_true, Bool.or_eq_true] at hb
  rw [if_pos ⟨of_decide_eq_true hb.1, by
    rcases hb.2 with q | q
    · left; simpa using q
    · exact .inr q⟩] at h
  have := Option.some.inj h
  simp only [Prod.mk.injEq] at this
  exact ⟨this.1.symm, this.2.symm⟩
theorem table_Decode.end_0 {s : List Int} {e : Int} {z2 : List Int} {z3 : Int} (h : coin_Purse_End.f s e = some (0, z2, z3)) : e = 0 := by
  unfold coin_Purse_End.f at h
  by_cases c : e = 0
  · exact c
  · rw [if_neg c] at h; have := Option.some.inj h; simp only [Prod.mk.injEq] at this; exact this.1
theorem table_Decode.some_ad {W : World} {base : Nat} {ok : Nat → Prop} {Ar : Option Addr} {cr : Nat} {rows : List S43} (h : Kd.R k43 43 W base ok (.slice Ar rows.length cr) rows) (hr : 0 < rows.length) : ∃ ad, Ar = some ad := by
  obtain ⟨g2, cp, e2, _⟩ := Kd.R_form h hr
  injection e2 with e _ _
  exact ⟨_, e⟩
theorem table_Decode.last_is {W : World} {base : Nat} {ok : Nat → Prop} {ad : Addr} {cr : Nat} {rows : List S43} (h : Kd.R k43 43 W base ok (.slice (some ad) rows.length cr) rows) (hr : 0 < rows.length) :
    W.cell? (ad.add ((rows.length - 1) * 10)) = some (.int .u32 (rd_T43 rows ((rows.length - 1 : Nat) : Int)).f0.f0) ∧ W.cell? ⟨(ad.add ((rows.length - 1) * 10)).block, (ad.add ((rows.length - 1) * 10)).off + 1, none⟩ = some (.int .u8 (rd_T43 rows ((rows.length - 1 : Nat) : Int)).f0.f1) := by
  obtain ⟨A', c', e2, _, hC⟩ := Kd.R_reads h
  injection e2 with e2 _ _
  subst e2; obtain ⟨ad', e0, h0, h1, _⟩ := at_T43 hC ((rows.length - 1 : Nat) : Int) (by omega) (by omega); cases e0; rw [Int.toNat_natCast] at h0 h1; exact ⟨h0, h1⟩
def table_Decode.post (w : World) (o : Option (List S43 × Int × Int)) (r : Int) (e : Ending) (w' : World) : Prop := match o with
  | some T => ∃ g : Nat, e = .returned (.tuple #[.pointer (some ⟨g, 0, none⟩), .int .i64 r]) ∧ IsS70 w w' g T
  | none => e = .returned (.tuple #[.pointer none, .int .i64 r])
theorem table_Decode.srt_snoc {rows : List S43} {X : S43} (h : rowSrt rows) (hl : table_Decode.low rows X = false) : rowSrt (rows ++ [X]) := by
  unfold rowSrt at *
  rw [List.pairwise_append]; refine ⟨h, List.pairwise_singleton _ _, fun y hy x hx => ?_⟩; obtain rfl : x = X := List.mem_singleton.1 hx; have hp : 0 < rows.length := List.length_pos_of_mem hy
  unfold table_Decode.low at hl
  rw [decide_eq_true hp, Bool.true_and, decide_eq_false_iff_not, rd_cast rows _ (by omega)] at hl; obtain ⟨i, hi, rfl⟩ := List.getElem_of_mem hy
  by_cases e : i = rows.length - 1
  · subst e; omega
  · have h1 := (List.pairwise_iff_getElem.1 h) i (rows.length - 1) hi (by omega) (by omega); exact cmpI_trans h1 (by omega)
set_option maxHeartbeats 8000000 in
set_option maxRecDepth 100000 in
theorem table_Decode.calls (k : Nat) (A : Option Addr) (c0 : Nat) (l : List Int) (o : Option (List S43 × Int × Int)) (r : Int) (w : World) (hC : Kd.C (Kd.int .u8) w A l.length l) (hc0 : l.length ≤ c0) (h : table_Decode.f k l = some (o, r)) :
    Calls Try.prog 19 #[.slice A l.length c0] w fun e w' => table_Decode.post w o r e w' ∧ Below w.heap.size w w' := by
  have hu43 := Try.underlying43; have hu70 := Try.underlying70; obtain ⟨⟨no, s1, e1⟩, h1, h⟩ := Option.bind_eq_some_iff.mp h; obtain ⟨⟨tm, s2, e2⟩, h2, h⟩ := Option.bind_eq_some_iff.mp h; obtain ⟨⟨n3, s3, e3⟩, h3, h⟩ := Option.bind_eq_some_iff.mp h; obtain ⟨⟨ro, rr⟩, h4, h⟩ := Option.bind_eq_some_iff.mp h
  obtain ⟨rfl, rfl⟩ : ro.map (fun r => (r, no, tm)) = o ∧ rr = r := by
    have := Option.some.inj h; exact ⟨congrArg Prod.fst this, congrArg Prod.snd this⟩
  have H1 := Aside0.mk (table_Decode.tk_is h1).1; have H2 := Aside0.mk (table_Decode.tk_is h2).1; have H3 := Aside0.mk (table_Decode.tk_is h3).1; have b3 := (table_Decode.tk_is h3).2.1; have b3' := (table_Decode.tk_is h3).2.2; have HF := Aside0.mk (show table_Decode.loop k 300 n3 s3 e3 [] = some (ro, rr) from h4); clear h h1 h2 h3 h4
  go_enter Try.func19, Try.ntmps19
  go_wp2_with (fail)
  refine (coin_NewPurse.calls A c0 l l 0 w w (Below.refl _ _) hC hc0 rfl).mono ?_; rintro e_ w1 ⟨gp, rfl, hi, hb, _⟩; have HI := Aside0.mk hi; have HB := Aside0.mk hb; clear hi hb hC hc0
  go_wp2_with (fail)
  refine (coin_Purse_Take.calls k gp (l) 0 18446744073709551615 no (s1) e1 w _ HI.out HB.out H1.out).mono ?_; rintro e_ w2 ⟨rfl, hi, hb, hkp⟩; have n0_ := Aside0.mk (hi); have n1_ := Aside0.mk (hb); clear HI HB; have HI := n0_; have HB := n1_; clear n0_ n1_; clear hi hb hkp
  go_wp2_with (fail)
  refine (coin_Purse_Take.calls k gp (s1) e1 18446744073709551615 tm (s2) e2 w _ HI.out HB.out H2.out).mono ?_; rintro e_ w3 ⟨rfl, hi, hb, hkp⟩; have n0_ := Aside0.mk (hi); have n1_ := Aside0.mk (hb); clear HI HB; have HI := n0_; have HB := n1_; clear n0_ n1_; clear hi hb hkp
  go_upto_region 3 with (fail)
  obtain ⟨gT, hgT⟩ : ∃ x : Nat, x = w3.heap.size := ⟨_, rfl⟩
  obtain ⟨W, hW⟩ : ∃ x : World, x = w3.alloc (.cells #[.slice none 0 0, .int .u64 no, .int .u64 tm] 70 (0, 0)) := ⟨_, rfl⟩
  rw [← hW, ← hgT]; have BKT := Aside0.mk (show W.heap[gT]? = some (.cells #[.slice none 0 0, .int .u64 no, .int .u64 tm] 70 (0, 0)) from by rw [hW, hgT]; exact heap_alloc_new _ _)
  have hbW : Below w3.heap.size w3 W := by rw [hW]; exact below_alloc (Below.refl _ _) _
  have GET := Aside0.mk (show w.heap.size ≤ gT from by rw [hgT]; exact HB.out.size); have n0_ := Aside0.mk (IsS96.below HI.out hbW); have n1_ := Aside0.mk (below_step HB.out hbW); clear HI HB; have HI := n0_; have HB := n1_; clear n0_ n1_; have HNE := Aside0.mk (fun h : gT = gp => HI.out.ne_blk BKT.out (by decide) h.symm); clear hW hgT hbW
  go_wp2_with (fail)
  refine (coin_Purse_Take.calls k gp (s2) e2 256 n3 (s3) e3 w _ HI.out HB.out H3.out).mono ?_; rintro e_ w4 ⟨rfl, hi, hb, hkp⟩; have n0_ := Aside0.mk (hi); have n1_ := Aside0.mk (hb); have n2_ := Aside0.mk (hkp.blk BKT.out HNE.out (by simp)); clear HI HB BKT; have HI := n0_; have HB := n1_; have BKT := n2_; clear n0_ n1_ n2_; clear hi hb hkp
  go_wp2_with (fail)
  go_loopg [6] 300 (fun kx s6 wr => ∃ (n : Int) (s : List Int) (e : Int) (rows : List S43) (v : Value), s6 = .int .u64 n ∧ 0 ≤ n ∧ n + rows.length ≤ 256 ∧ Aside0 (IsS96 w wr gp s e) ∧ Aside0 (Below w.heap.size w wr) ∧ Aside0 (wr.heap[gT]? = some (.cells #[v, .int .u64 no, .int .u64 tm] 70 (0, 0))) ∧ Aside0 (Kd.R k43 43 wr w.heap.size (fun k_ => k_ ≠ gp) v rows) ∧ Aside0 (e = 0 → rowSrt rows) ∧ Aside0 (table_Decode.loop k kx n s e rows = some (ro, rr)))
  case atStart => exact ⟨n3, s3, e3, [], _, rfl, b3, by simpa using b3', HI, HB, BKT, ⟨Kd.R_nil _ _ _ _ _⟩, ⟨fun _ => List.Pairwise.nil⟩, HF⟩
  case round =>
    clear HF HI HB BKT; obtain ⟨n, s, e, rows, v, rfl, hn0, hn1, HI, HB, BKT, HR, HS, HF⟩ := hrel
    cases gk with
    | zero => exact absurd HF.out (by simp [table_Decode.loop])
    | succ k1 =>
      have hf := HF.out; rw [table_Decode.loop] at hf
      by_cases hn : 0 < n
      · have q1 : decide (n > 0) = true := decide_eq_true hn
        have q2 : decide (0 < n) = true := decide_eq_true hn
        go_wp2_with (fail)
        refine (coin_Purse_Fault.calls gp s e e s e w _ HI.out HB.out rfl).mono ?_; rintro e_ wf ⟨rfl, hi, hb, hkp⟩; have n0_ := Aside0.mk (hi); have n1_ := Aside0.mk (hb); have n2_ := Aside0.mk (hkp.blk BKT.out HNE.out (by simp)); have n3_ := Aside0.mk (Kd.R_keep HR.out hkp (fun _ h => h)); clear HI HB BKT HR; have HI := n0_; have HB := n1_; have BKT := n2_; have HR := n3_; clear n0_ n1_ n2_ n3_; clear hi hb hkp
        by_cases he : e = 0
        · rw [if_pos ⟨hn, he⟩] at hf
          subst he; clear HF; obtain ⟨⟨X, s', e'⟩, hrow, hf1⟩ := Option.bind_eq_some_iff.mp hf; obtain ⟨rt, hrt, hf2⟩ := Option.bind_eq_some_iff.mp hf1; have HRT := Aside0.mk (show prefix_Right.f X.f0.f0 X.f0.f1 = some rt from hrt); have HF := Aside0.mk (show (if e' = 0 ∧ (rt = false ∨ table_Decode.low rows X = true) then some (none, 4) else table_Decode.loop k k1 (n - 1) s' e' (rows ++ [X])) = some (ro, rr) from hf2); clear hrt hf hf1 hf2; obtain ⟨⟨a, sa, ea⟩, ha, hrow1⟩ := Option.bind_eq_some_iff.mp hrow; obtain ⟨⟨b, sb, eb⟩, hb1, hrow2⟩ := Option.bind_eq_some_iff.mp hrow1; obtain ⟨⟨c, sc, ec⟩, hc1, hrow3⟩ := Option.bind_eq_some_iff.mp hrow2; obtain ⟨⟨d, sd, ed⟩, hd1, hrow4⟩ := Option.bind_eq_some_iff.mp hrow3; obtain ⟨⟨vv, sv, ev⟩, hv1, hrow5⟩ := Option.bind_eq_some_iff.mp hrow4; obtain ⟨ha', ba, ba'⟩ := table_Decode.tk_is ha; obtain ⟨hb1', bb, bb'⟩ := table_Decode.tk_is hb1; obtain ⟨hc1', bc, bc'⟩ := table_Decode.tk_is hc1; obtain ⟨hd1', bd, bd'⟩ := table_Decode.tk_is hd1; obtain ⟨hv1', bv, bv'⟩ := table_Decode.tk_is hv1; have HA := Aside0.mk ha'; have HB1 := Aside0.mk hb1'; have HC1 := Aside0.mk hc1'; have HD1 := Aside0.mk hd1'; have HV1 := Aside0.mk hv1'; have HROW := Aside0.mk (show table_Decode.rest k a b c d vv sv ev = some (X, s', e') from hrow5); clear ha hb1 hc1 hd1 hv1 ha' hb1' hc1' hd1' hv1' hrow hrow1 hrow2 hrow3 hrow4 hrow5 q1 q2
          go_wp2_with (fail)
          refine (coin_Purse_Take.calls k gp (s) 0 4294967295 a (sa) ea w _ HI.out HB.out HA.out).mono ?_; rintro e_ wa ⟨rfl, hi, hb, hkp⟩; have n0_ := Aside0.mk (hi); have n1_ := Aside0.mk (hb); have n2_ := Aside0.mk (hkp.blk BKT.out HNE.out (by simp)); have n3_ := Aside0.mk (Kd.R_keep HR.out hkp (fun _ h => h)); clear HI HB BKT HR; have HI := n0_; have HB := n1_; have BKT := n2_; have HR := n3_; clear n0_ n1_ n2_ n3_; clear hi hb hkp
          go_wp2_with (fail)
          refine (coin_Purse_Take.calls k gp (sa) ea 32 b (sb) eb w _ HI.out HB.out HB1.out).mono ?_; rintro e_ wb ⟨rfl, hi, hb, hkp⟩; have n0_ := Aside0.mk (hi); have n1_ := Aside0.mk (hb); have n2_ := Aside0.mk (hkp.blk BKT.out HNE.out (by simp)); have n3_ := Aside0.mk (Kd.R_keep HR.out hkp (fun _ h => h)); clear HI HB BKT HR; have HI := n0_; have HB := n1_; have BKT := n2_; have HR := n3_; clear n0_ n1_ n2_ n3_; clear hi hb hkp
          go_wp2_with (fail)
          refine (coin_Purse_Take.calls k gp (sb) eb 65535 c (sc) ec w _ HI.out HB.out HC1.out).mono ?_; rintro e_ wc ⟨rfl, hi, hb, hkp⟩; have n0_ := Aside0.mk (hi); have n1_ := Aside0.mk (hb); have n2_ := Aside0.mk (hkp.blk BKT.out HNE.out (by simp)); have n3_ := Aside0.mk (Kd.R_keep HR.out hkp (fun _ h => h)); clear HI HB BKT HR; have HI := n0_; have HB := n1_; have BKT := n2_; have HR := n3_; clear n0_ n1_ n2_ n3_; clear hi hb hkp
          go_wp2_with (fail)
          refine (coin_Purse_Take.calls k gp (sc) ec 65534 d (sd) ed w _ HI.out HB.out HD1.out).mono ?_; rintro e_ wd ⟨rfl, hi, hb, hkp⟩; have n0_ := Aside0.mk (hi); have n1_ := Aside0.mk (hb); have n2_ := Aside0.mk (hkp.blk BKT.out HNE.out (by simp)); have n3_ := Aside0.mk (Kd.R_keep HR.out hkp (fun _ h => h)); clear HI HB BKT HR; have HI := n0_; have HB := n1_; have BKT := n2_; have HR := n3_; clear n0_ n1_ n2_ n3_; clear hi hb hkp
          go_upto_region 8 with (fail)
          obtain ⟨g7, hg7⟩ : ∃ x : Nat, x = wd.heap.size := ⟨_, rfl⟩
          obtain ⟨V, hV⟩ : ∃ x : World, x = wd.alloc (.cells #[.int .u32 a, .int .u8 b, .bool false, .int .u32 a, .int .u8 b, .int .i64 0, .int .u16 0, .int .u16 0, .int .u16 c, .int .u16 d] 43 (0, 0)) := ⟨_, rfl⟩
          rw [← hV, ← hg7]; have BK7 := Aside0.mk (show V.heap[g7]? = some (.cells #[.int .u32 a, .int .u8 b, .bool false, .int .u32 a, .int .u8 b, .int .i64 0, .int .u16 0, .int .u16 0, .int .u16 c, .int .u16 d] 43 (0, 0)) from by rw [hV, hg7]; exact heap_alloc_new _ _)
          have hb : Below wd.heap.size wd V := by rw [hV]; exact below_alloc (Below.refl _ _) _
          have GE7 := Aside0.mk (show w.heap.size ≤ g7 from by rw [hg7]; exact HB.out.size); have N7T := Aside0.mk (show g7 ≠ gT from by have := blk_lt BKT.out; omega); have NR7 := Aside0.mk (show Kd.R k43 43 wd w.heap.size (fun k_ => k_ ≠ gp ∧ k_ ≠ g7) v rows from Kd.R_mono (Kd.R_bound HR.out) (fun _ h => ⟨h.1, by have := h.2.2.1; omega⟩)); clear HR; have HR := NR7; clear NR7; have n0_ := Aside0.mk (IsS96.below HI.out hb); have n1_ := Aside0.mk (below_step HB.out hb); have n2_ := Aside0.mk (blk_below BKT.out hb); have n3_ := Aside0.mk (Kd.R_below HR.out hb); clear HI HB BKT HR; have HI := n0_; have HB := n1_; have BKT := n2_; have HR := n3_; clear n0_ n1_ n2_ n3_; have HN7 := Aside0.mk (fun h : g7 = gp => HI.out.ne_blk BK7.out (by decide) h.symm); clear hV hg7 hb
          go_wp2_with (fail)
          refine (coin_Purse_Take.calls k gp (sd) ed 16 vv (sv) ev w _ HI.out HB.out HV1.out).mono ?_; rintro e_ we ⟨rfl, hi, hb, hkp⟩; have n0_ := Aside0.mk (hi); have n1_ := Aside0.mk (hb); have n2_ := Aside0.mk (hkp.blk BKT.out HNE.out (by simp)); have n3_ := Aside0.mk (Kd.R_keep HR.out hkp (fun _ h => h.1)); have n4_ := Aside0.mk (hkp.blk BK7.out HN7.out (by simp)); clear HI HB BKT HR BK7; have HI := n0_; have HB := n1_; have BKT := n2_; have HR := n3_; have BK7 := n4_; clear n0_ n1_ n2_ n3_ n4_; clear hi hb hkp
          go_upto_if 51 with (fail)
          go_cut [] (fun wx => Aside0 (IsS96 w wx gp s' e') ∧ Aside0 (Below w.heap.size w wx) ∧ Aside0 (wx.heap[gT]? = some (.cells #[v, .int .u64 no, .int .u64 tm] 70 (0, 0))) ∧ Aside0 (wx.heap[g7]? = some (.cells #[.int .u32 X.f0.f0, .int .u8 X.f0.f1, .bool X.f1, .int .u32 X.f2.f0.f0, .int .u8 X.f2.f0.f1, .int .i64 X.f2.f1, .int .u16 X.f2.f2, .int .u16 X.f2.f3, .int .u16 X.f3.f0, .int .u16 X.f3.f1] 43 (0, 0))) ∧ Aside0 (Kd.R k43 43 wx w.heap.size (fun k_ => k_ ≠ gp ∧ k_ ≠ g7) v rows))
          case first =>
            have hrow := HROW.out
            unfold table_Decode.rest at hrow
            by_cases hv : 0 < vv
            · rw [if_pos hv] at hrow
              obtain ⟨⟨mm, sm, em⟩, hm1, hrow1⟩ := Option.bind_eq_some_iff.mp hrow; obtain ⟨⟨qq, sq, eq⟩, hq1, hrow2⟩ := Option.bind_eq_some_iff.mp hrow1; have HM1 := Aside0.mk (table_Decode.tk_is hm1).1; have HQ1 := Aside0.mk (show coin_Purse_Take.f k sm em 65535 = some (qq, sq, eq) from (table_Decode.tk_is hq1).1); have bm := (table_Decode.tk_is hm1).2; have bq := (table_Decode.tk_is hq1).2; have hx := Option.some.inj hrow2
              simp only [Prod.mk.injEq] at hx
              obtain ⟨hX, e2, e3⟩ := hx; have HX := Aside0.mk hX; have HE2 := Aside0.mk e2; have HE3 := Aside0.mk e3; clear hX hrow hrow1 hrow2 hm1 hq1 HROW e2 e3; have q1 : decide (vv > 0) = true := decide_eq_true hv; have z2 : we.cell? ⟨g7, 2, none⟩ = some (.bool false) := (blk_cell BK7.out 2).trans rfl; have y2 := blk_frozen BK7.out 2
              go_wp2_with (fail)
              have hkp := KeepBut.set_ (KeepBut.refl we g7 none) 2 (.bool true); have n0_ := Aside0.mk (HI.out.far (p := ⟨g7, 2, none⟩) (fun h => HN7.out h.symm) (.bool true)); have n1_ := Aside0.mk (below_set (j := 2) (v := .bool true) HB.out GE7.out); have n2_ := Aside0.mk (hkp.blk BKT.out (fun h => N7T.out h.symm) (by simp)); have n3_ := Aside0.mk (Kd.R_mono (Kd.R_keep HR.out hkp (fun _ h => h.2)) (fun _ h => h)); have n4_ := Aside0.mk (blk_put BK7.out 2 (.bool true) rfl); clear HI HB BKT HR BK7; have HI := n0_; have HB := n1_; have BKT := n2_; have HR := n3_; have BK7 := n4_; clear n0_ n1_ n2_ n3_ n4_; clear hkp z2 y2
              go_wp2_with (fail)
              refine (coin_Purse_Take.calls k gp (sv) ev 65534 mm (sm) em w _ HI.out HB.out HM1.out).mono ?_; rintro e_ wm ⟨rfl, hi, hb, hkp⟩; have n0_ := Aside0.mk (hi); have n1_ := Aside0.mk (hb); have n2_ := Aside0.mk (hkp.blk BKT.out HNE.out (by simp)); have n3_ := Aside0.mk (Kd.R_keep HR.out hkp (fun _ h => h.1)); have n4_ := Aside0.mk (hkp.blk BK7.out HN7.out (by simp)); clear HI HB BKT HR BK7; have HI := n0_; have HB := n1_; have BKT := n2_; have HR := n3_; have BK7 := n4_; clear n0_ n1_ n2_ n3_ n4_; clear hi hb hkp
              go_wp2_with (fail)
              refine (coin_Purse_Take.calls k gp (sm) em 65535 qq (sq) eq w _ HI.out HB.out HQ1.out).mono ?_; rintro e_ wq ⟨rfl, hi, hb, hkp⟩; have n0_ := Aside0.mk (hi); have n1_ := Aside0.mk (hb); have n2_ := Aside0.mk (hkp.blk BKT.out HNE.out (by simp)); have n3_ := Aside0.mk (Kd.R_keep HR.out hkp (fun _ h => h.1)); have n4_ := Aside0.mk (hkp.blk BK7.out HN7.out (by simp)); clear HI HB BKT HR BK7; have HI := n0_; have HB := n1_; have BKT := n2_; have HR := n3_; have BK7 := n4_; clear n0_ n1_ n2_ n3_ n4_; clear hi hb hkp; have z5 : wq.cell? ⟨g7, 5, none⟩ = some (.int .i64 0) := (blk_cell BK7.out 5).trans rfl; have z6 : wq.cell? ⟨g7, 6, none⟩ = some (.int .u16 0) := (blk_cell BK7.out 6).trans rfl; have z7 : wq.cell? ⟨g7, 7, none⟩ = some (.int .u16 0) := (blk_cell BK7.out 7).trans rfl; have y5 := blk_frozen BK7.out 5; have y6 := blk_frozen BK7.out 6; have y7 := blk_frozen BK7.out 7
              go_wp2_with (fail)
              have hkp := KeepBut.set_ (KeepBut.set_ (KeepBut.set_ (KeepBut.refl wq g7 none) 5 (.int .i64 (vv - 1))) 6 (.int .u16 mm)) 7 (.int .u16 qq); go_meet; have hX := HX.out; subst hX; have e2 := HE2.out; subst e2; have e3 := HE3.out; subst e3; refine ⟨⟨((HI.out.far (p := ⟨g7, 5, none⟩) (fun h => HN7.out h.symm) _).far (p := ⟨g7, 6, none⟩) (fun h => HN7.out h.symm) _).far (p := ⟨g7, 7, none⟩) (fun h => HN7.out h.symm) _⟩, ⟨below_set (below_set (below_set HB.out GE7.out) GE7.out) GE7.out⟩, ⟨hkp.blk BKT.out (fun h => N7T.out h.symm) (by simp)⟩, ⟨?_⟩, ⟨Kd.R_keep HR.out hkp (fun _ h => h.2)⟩⟩; refine blk_put (cs := #[.int .u32 a, .int .u8 b, .bool true, .int .u32 a, .int .u8 b, .int .i64 (vv - 1), .int .u16 mm, .int .u16 0, .int .u16 c, .int .u16 d]) ?_ 7 _ rfl; refine blk_put (cs := #[.int .u32 a, .int .u8 b, .bool true, .int .u32 a, .int .u8 b, .int .i64 (vv - 1), .int .u16 0, .int .u16 0, .int .u16 c, .int .u16 d]) ?_ 6 _ rfl; exact blk_put BK7.out 5 _ rfl
            · rw [if_neg hv] at hrow
              have hx := Option.some.inj hrow
              simp only [Prod.mk.injEq] at hx
              obtain ⟨hX, e2, e3⟩ := hx; have HX := Aside0.mk hX; have HE2 := Aside0.mk e2; have HE3 := Aside0.mk e3; clear hX hrow HROW e2 e3; have q1 : decide (vv > 0) = false := decide_eq_false hv
              go_wp2_with (fail)
              go_meet; have hX := HX.out; subst hX; have e2 := HE2.out; subst e2; have e3 := HE3.out; subst e3; exact ⟨HI, HB, BKT, BK7, HR⟩
          case rest =>
            clear HI HB BKT BK7 HR HA HB1 HC1 HD1 HV1 HROW; obtain ⟨HI, HB, BKT, BK7, HR⟩ := hcut; obtain ⟨Ar, cr, e5, hlr, hCr⟩ := Kd.R_reads HR.out; subst e5; clear hCr; have HRI := Aside0.mk (show prefix_Right.f X.f0.f0 X.f0.f1 = some rt from HRT.out)
            obtain ⟨B, hB⟩ : ∃ B : Bool, B = (decide (e' = 0) && (!rt || table_Decode.low rows X)) := ⟨_, rfl⟩
            have HBB := Aside0.mk hB; clear hB HRT
            go_upto_region 12 with (fail)
            go_cut [103] (fun s103 wx => s103 = .bool B ∧ Aside0 (IsS96 w wx gp s' e') ∧ Aside0 (Below w.heap.size w wx) ∧ Aside0 (wx.heap[gT]? = some (.cells #[.slice Ar rows.length cr, .int .u64 no, .int .u64 tm] 70 (0, 0))) ∧ Aside0 (wx.heap[g7]? = some (.cells #[.int .u32 X.f0.f0, .int .u8 X.f0.f1, .bool X.f1, .int .u32 X.f2.f0.f0, .int .u8 X.f2.f0.f1, .int .i64 X.f2.f1, .int .u16 X.f2.f2, .int .u16 X.f2.f3, .int .u16 X.f3.f0, .int .u16 X.f3.f1] 43 (0, 0))) ∧ Aside0 (Kd.R k43 43 wx w.heap.size (fun k_ => k_ ≠ gp ∧ k_ ≠ g7) (.slice Ar rows.length cr) rows))
            case first =>
              have n0_ := Aside0.mk (IsS96.drew HI.out); have n1_ := Aside0.mk (below_drew1 HB.out); have n2_ := Aside0.mk (blk_drew BKT.out); have n3_ := Aside0.mk (blk_drew BK7.out); have n4_ := Aside0.mk (Kd.R_drew HR.out); clear HI HB BKT BK7 HR; have HI := n0_; have HB := n1_; have BKT := n2_; have BK7 := n3_; have HR := n4_; clear n0_ n1_ n2_ n3_ n4_
              by_cases he : e' = 0
              · have p0 : (e' == 0) = true := beq_iff_eq.mpr he
                cases rt
                · have hB2 : B = true := by rw [HBB.out, decide_eq_true he]; rfl
                  have HB2 := Aside0.mk hB2; clear he hB2; refine start_ (n := 36) (S := fun w' => w'.cell? ⟨g7, 0, none⟩ = some (.int .u32 X.f0.f0) ∧ w'.cell? ⟨g7, 1, none⟩ = some (.int .u8 X.f0.f1) ∧ w'.cell? ⟨gT, 0, none⟩ = some (.slice Ar rows.length cr)) (ds := []) #[O,O,O,O,O,O,O,O,O,O,O,O,O,O,O,O,O,O,O,O,O,O,O,O,O,O,O,O,O,O,O,O,O,O,O,O] (by kernel_rfl) rfl rfl ⟨(blk_cell BK7.out 0).trans rfl, (blk_cell BK7.out 1).trans rfl, (blk_cell BKT.out 0).trans rfl⟩ (fun hHeld => ?_); generalize wc.drew = wz at HI HB BKT BK7 HR hHeld ⊢; refine pure_ (i := 0) (N := some 68) (v := ?_) (a' := ?_) #[I,O,O,O,O,O,O,O,O,O,O,O,O,O,O,O,O,O,O,O,O,O,O,O,O,O,O,O,O,O,O,O,O,O,O,O] rfl rfl (by kernel_rfl) (fun _ _ _ h => h) (Or.inl ⟨by rfl, ?_⟩) ?_ ?_; rotate_left; · intro w'; go_simp; with_reducible rfl
                  rotate_left; · simp only [Act.put, la0, la1, la2, i64_w, i32_w]; rfl
                  refine one_ (i := 1) (N := some 69) #[I,I,O,O,O,O,O,O,O,O,O,O,O,O,O,O,O,O,O,O,O,O,O,O,O,O,O,O,O,O,O,O,O,O,O,O] rfl rfl (by kernel_rfl) (by decide) (fun K hK => ?_); refine goes_ Try.func31 (by kernel_rfl) rfl #[.pointer (some ⟨gp, 0, none⟩)] (by rfl) rfl rfl (by simp only [List.map_toArray, List.map_cons, List.map_nil]; rfl) ?_
                  with_reducible refine (coin_Purse_Fault.calls gp s' e' e' s' e' w _ HI.out HB.out rfl).mono ?_
                  rintro e_ wf1 ⟨rfl, hi, hb, hkp⟩; refine ⟨_, rfl, ?_⟩; have n0_ := Aside0.mk (hi); have n1_ := Aside0.mk (hb); have n2_ := Aside0.mk (hkp.blk BKT.out HNE.out (by simp)); have n3_ := Aside0.mk (hkp.blk BK7.out HN7.out (by simp)); have n4_ := Aside0.mk (Kd.R_keep HR.out hkp (fun _ h => h.1)); clear HI HB BKT BK7 HR; have HI := n0_; have HB := n1_; have BKT := n2_; have BK7 := n3_; have HR := n4_; clear n0_ n1_ n2_ n3_ n4_; clear hi hb hkp; refine hK.out _ _ ⟨(blk_cell BK7.out 0).trans rfl, (blk_cell BK7.out 1).trans rfl, (blk_cell BKT.out 0).trans rfl⟩ (fun hHeld => ?_); clear hK K; refine norm_ (a' := ?_) ?_ ?_; rotate_left
                  · show Act.put _ (some 69) _ = _
                    simp only [Act.put, la0, la1, la2, i64_w, i32_w]
                    rfl
                  refine pure_ (i := 2) (N := some 70) (v := ?_) (a' := ?_) #[I,I,I,O,O,O,O,O,O,O,O,O,O,O,O,O,O,O,O,O,O,O,O,O,O,O,O,O,O,O,O,O,O,O,O,O] rfl rfl (by kernel_rfl) (fun _ _ _ h => h) (Or.inl ⟨by rfl, ?_⟩) ?_ ?_; rotate_left; · intro w'; go_simp; with_reducible rfl
                  rotate_left; · simp only [Act.put, la0, la1, la2, i64_w, i32_w]; rfl
                  refine pure_ (i := 3) (N := some 71) (v := ?_) (a' := ?_) #[I,I,I,I,O,O,O,O,O,O,O,O,O,O,O,O,O,O,O,O,O,O,O,O,O,O,O,O,O,O,O,O,O,O,O,O] rfl rfl (by kernel_rfl) (fun _ _ _ h => h) (Or.inl ⟨by rfl, ?_⟩) ?_ ?_; rotate_left; · intro w'; go_simp; with_reducible rfl
                  rotate_left; · simp only [Act.put, la0, la1, la2, i64_w, i32_w]; rfl
                  refine pure_ (i := 4) (N := some 72) (v := ?_) (a' := ?_) #[I,I,I,I,I,O,O,O,O,O,O,O,O,O,O,O,O,O,O,O,O,O,O,O,O,O,O,O,O,O,O,O,O,O,O,O] rfl rfl (by kernel_rfl) (fun _ _ _ h => h) (Or.inl ⟨by rfl, ?_⟩) ?_ ?_; rotate_left; · intro w'; go_simp; with_reducible rfl
                  rotate_left; · simp only [Act.put, la0, la1, la2, i64_w, i32_w]; rfl
                  refine take_ (i := 5) (N := some 73) (v := ?_) (a' := ?_) #[I,I,I,I,I,I,O,O,O,O,O,O,O,O,O,O,O,O,O,O,O,O,O,O,O,O,O,O,O,O,O,O,O,O,O,O] rfl rfl (by kernel_rfl) (fun _ _ _ h => h) (Or.inl ⟨by rfl, ?_⟩) hHeld ?_ ?_; rotate_left; · rintro w' ⟨s0, s1, s2⟩; go_simp; with_reducible rfl
                  rotate_left; · simp only [Act.put, la0, la1, la2, i64_w, i32_w]; rfl
                  refine one_ (i := 6) (N := some 74) #[I,I,I,I,I,I,I,O,O,O,O,O,O,O,O,O,O,O,O,O,O,O,O,O,O,O,O,O,O,O,O,O,O,O,O,O] rfl rfl (by kernel_rfl) (by decide) (fun K hK => ?_); refine goes_ Try.func32 (by kernel_rfl) rfl #[.agg #[.int .u32 X.f0.f0, .int .u8 X.f0.f1]] (by rfl) rfl rfl (by simp only [List.map_toArray, List.map_cons, List.map_nil]; rfl) ?_
                  with_reducible refine (prefix_Right.calls X.f0.f0 X.f0.f1 false _ HRI.out).mono ?_
                  rintro e_ wf2 ⟨rfl, hb⟩; refine ⟨_, rfl, ?_⟩; have n0_ := Aside0.mk (IsS96.below HI.out hb); have n1_ := Aside0.mk (below_step HB.out hb); have n2_ := Aside0.mk (blk_below BKT.out hb); have n3_ := Aside0.mk (blk_below BK7.out hb); have n4_ := Aside0.mk (Kd.R_below HR.out hb); clear HI HB BKT BK7 HR; have HI := n0_; have HB := n1_; have BKT := n2_; have BK7 := n3_; have HR := n4_; clear n0_ n1_ n2_ n3_ n4_; clear hb; refine hK.out _ _ ⟨(blk_cell BK7.out 0).trans rfl, (blk_cell BK7.out 1).trans rfl, (blk_cell BKT.out 0).trans rfl⟩ (fun hHeld => ?_); clear hK K; refine norm_ (a' := ?_) ?_ ?_; rotate_left
                  · show Act.put _ (some 74) _ = _
                    simp only [Act.put, la0, la1, la2, i64_w, i32_w]
                    rfl
                  refine pure_ (i := 7) (N := some 75) (v := ?_) (a' := ?_) #[I,I,I,I,I,I,I,I,O,O,O,O,O,O,O,O,O,O,O,O,O,O,O,O,O,O,O,O,O,O,O,O,O,O,O,O] rfl rfl (by kernel_rfl) (fun _ _ _ h => h) (Or.inl ⟨by rfl, ?_⟩) ?_ ?_; rotate_left; · intro w'; go_simp; with_reducible rfl
                  rotate_left; · simp only [Act.put, la0, la1, la2, i64_w, i32_w]; rfl
                  refine pure_ (i := 8) (N := some 76) (v := ?_) (a' := ?_) #[I,I,I,I,I,I,I,I,I,O,O,O,O,O,O,O,O,O,O,O,O,O,O,O,O,O,O,O,O,O,O,O,O,O,O,O] rfl rfl (by kernel_rfl) (fun _ _ _ h => h) (Or.inl ⟨by rfl, ?_⟩) ?_ ?_; rotate_left; · intro w'; go_simp; with_reducible rfl
                  rotate_left; · simp only [Act.put, la0, la1, la2, i64_w, i32_w]; rfl
                  refine pure_ (i := 9) (N := some 77) (v := undef) (a' := ?_) #[I,I,I,I,I,I,I,I,I,I,O,O,O,O,O,O,O,O,O,O,O,O,O,O,O,O,O,O,O,O,O,O,O,O,O,O] rfl rfl (by kernel_rfl) (fun _ _ _ h => h) (Or.inr ⟨by rfl, rfl⟩) ?_ ?_; rotate_left; · simp only [Act.put, la0, la1, la2, i64_w, i32_w]; rfl
                  refine pure_ (i := 10) (N := some 78) (v := undef) (a' := ?_) #[I,I,I,I,I,I,I,I,I,I,I,O,O,O,O,O,O,O,O,O,O,O,O,O,O,O,O,O,O,O,O,O,O,O,O,O] rfl rfl (by kernel_rfl) (fun _ _ _ h => h) (Or.inr ⟨by rfl, rfl⟩) ?_ ?_; rotate_left; · simp only [Act.put, la0, la1, la2, i64_w, i32_w]; rfl
                  refine pure_ (i := 11) (N := some 79) (v := undef) (a' := ?_) #[I,I,I,I,I,I,I,I,I,I,I,I,O,O,O,O,O,O,O,O,O,O,O,O,O,O,O,O,O,O,O,O,O,O,O,O] rfl rfl (by kernel_rfl) (fun _ _ _ h => h) (Or.inr ⟨by rfl, rfl⟩) ?_ ?_; rotate_left; · simp only [Act.put, la0, la1, la2, i64_w, i32_w]; rfl
                  refine pure_ (i := 12) (N := some 80) (v := undef) (a' := ?_) #[I,I,I,I,I,I,I,I,I,I,I,I,I,O,O,O,O,O,O,O,O,O,O,O,O,O,O,O,O,O,O,O,O,O,O,O] rfl rfl (by kernel_rfl) (fun _ _ _ h => h) (Or.inr ⟨by rfl, rfl⟩) ?_ ?_; rotate_left; · simp only [Act.put, la0, la1, la2, i64_w, i32_w]; rfl
                  refine pure_ (i := 13) (N := some 81) (v := undef) (a' := ?_) #[I,I,I,I,I,I,I,I,I,I,I,I,I,I,O,O,O,O,O,O,O,O,O,O,O,O,O,O,O,O,O,O,O,O,O,O] rfl rfl (by kernel_rfl) (fun _ _ _ h => h) (Or.inr ⟨by rfl, rfl⟩) ?_ ?_; rotate_left; · simp only [Act.put, la0, la1, la2, i64_w, i32_w]; rfl
                  refine pure_ (i := 14) (N := some 82) (v := undef) (a' := ?_) #[I,I,I,I,I,I,I,I,I,I,I,I,I,I,I,O,O,O,O,O,O,O,O,O,O,O,O,O,O,O,O,O,O,O,O,O] rfl rfl (by kernel_rfl) (fun _ _ _ h => h) (Or.inr ⟨by rfl, rfl⟩) ?_ ?_; rotate_left; · simp only [Act.put, la0, la1, la2, i64_w, i32_w]; rfl
                  refine pure_ (i := 15) (N := some 83) (v := undef) (a' := ?_) #[I,I,I,I,I,I,I,I,I,I,I,I,I,I,I,I,O,O,O,O,O,O,O,O,O,O,O,O,O,O,O,O,O,O,O,O] rfl rfl (by kernel_rfl) (fun _ _ _ h => h) (Or.inr ⟨by rfl, rfl⟩) ?_ ?_; rotate_left; · simp only [Act.put, la0, la1, la2, i64_w, i32_w]; rfl
                  refine pure_ (i := 16) (N := some 84) (v := undef) (a' := ?_) #[I,I,I,I,I,I,I,I,I,I,I,I,I,I,I,I,I,O,O,O,O,O,O,O,O,O,O,O,O,O,O,O,O,O,O,O] rfl rfl (by kernel_rfl) (fun _ _ _ h => h) (Or.inr ⟨by rfl, rfl⟩) ?_ ?_; rotate_left; · simp only [Act.put, la0, la1, la2, i64_w, i32_w]; rfl
                  refine pure_ (i := 17) (N := some 85) (v := undef) (a' := ?_) #[I,I,I,I,I,I,I,I,I,I,I,I,I,I,I,I,I,I,O,O,O,O,O,O,O,O,O,O,O,O,O,O,O,O,O,O] rfl rfl (by kernel_rfl) (fun _ _ _ h => h) (Or.inr ⟨by rfl, rfl⟩) ?_ ?_; rotate_left; · simp only [Act.put, la0, la1, la2, i64_w, i32_w]; rfl
                  refine pure_ (i := 18) (N := some 86) (v := undef) (a' := ?_) #[I,I,I,I,I,I,I,I,I,I,I,I,I,I,I,I,I,I,I,O,O,O,O,O,O,O,O,O,O,O,O,O,O,O,O,O] rfl rfl (by kernel_rfl) (fun _ _ _ h => h) (Or.inr ⟨by rfl, rfl⟩) ?_ ?_; rotate_left; · simp only [Act.put, la0, la1, la2, i64_w, i32_w]; rfl
                  refine pure_ (i := 19) (N := some 87) (v := undef) (a' := ?_) #[I,I,I,I,I,I,I,I,I,I,I,I,I,I,I,I,I,I,I,I,O,O,O,O,O,O,O,O,O,O,O,O,O,O,O,O] rfl rfl (by kernel_rfl) (fun _ _ _ h => h) (Or.inr ⟨by rfl, rfl⟩) ?_ ?_; rotate_left; · simp only [Act.put, la0, la1, la2, i64_w, i32_w]; rfl
                  refine pure_ (i := 20) (N := some 88) (v := undef) (a' := ?_) #[I,I,I,I,I,I,I,I,I,I,I,I,I,I,I,I,I,I,I,I,I,O,O,O,O,O,O,O,O,O,O,O,O,O,O,O] rfl rfl (by kernel_rfl) (fun _ _ _ h => h) (Or.inr ⟨by rfl, rfl⟩) ?_ ?_; rotate_left; · simp only [Act.put, la0, la1, la2, i64_w, i32_w]; rfl
                  refine pure_ (i := 21) (N := some 89) (v := undef) (a' := ?_) #[I,I,I,I,I,I,I,I,I,I,I,I,I,I,I,I,I,I,I,I,I,I,O,O,O,O,O,O,O,O,O,O,O,O,O,O] rfl rfl (by kernel_rfl) (fun _ _ _ h => h) (Or.inr ⟨by rfl, rfl⟩) ?_ ?_; rotate_left; · simp only [Act.put, la0, la1, la2, i64_w, i32_w]; rfl
                  refine pure_ (i := 22) (N := some 90) (v := undef) (a' := ?_) #[I,I,I,I,I,I,I,I,I,I,I,I,I,I,I,I,I,I,I,I,I,I,I,O,O,O,O,O,O,O,O,O,O,O,O,O] rfl rfl (by kernel_rfl) (fun _ _ _ h => h) (Or.inr ⟨by rfl, rfl⟩) ?_ ?_; rotate_left; · simp only [Act.put, la0, la1, la2, i64_w, i32_w]; rfl
                  refine pure_ (i := 23) (N := some 91) (v := undef) (a' := ?_) #[I,I,I,I,I,I,I,I,I,I,I,I,I,I,I,I,I,I,I,I,I,I,I,I,O,O,O,O,O,O,O,O,O,O,O,O] rfl rfl (by kernel_rfl) (fun _ _ _ h => h) (Or.inr ⟨by rfl, rfl⟩) ?_ ?_; rotate_left; · simp only [Act.put, la0, la1, la2, i64_w, i32_w]; rfl
                  refine pure_ (i := 24) (N := some 92) (v := undef) (a' := ?_) #[I,I,I,I,I,I,I,I,I,I,I,I,I,I,I,I,I,I,I,I,I,I,I,I,I,O,O,O,O,O,O,O,O,O,O,O] rfl rfl (by kernel_rfl) (fun _ _ _ h => h) (Or.inr ⟨by rfl, rfl⟩) ?_ ?_; rotate_left; · simp only [Act.put, la0, la1, la2, i64_w, i32_w]; rfl
                  refine pure_ (i := 25) (N := some 93) (v := undef) (a' := ?_) #[I,I,I,I,I,I,I,I,I,I,I,I,I,I,I,I,I,I,I,I,I,I,I,I,I,I,O,O,O,O,O,O,O,O,O,O] rfl rfl (by kernel_rfl) (fun _ _ _ h => h) (Or.inr ⟨by rfl, rfl⟩) ?_ ?_; rotate_left; · simp only [Act.put, la0, la1, la2, i64_w, i32_w]; rfl
                  refine pure_ (i := 26) (N := some 94) (v := undef) (a' := ?_) #[I,I,I,I,I,I,I,I,I,I,I,I,I,I,I,I,I,I,I,I,I,I,I,I,I,I,I,O,O,O,O,O,O,O,O,O] rfl rfl (by kernel_rfl) (fun _ _ _ h => h) (Or.inr ⟨by rfl, rfl⟩) ?_ ?_; rotate_left; · simp only [Act.put, la0, la1, la2, i64_w, i32_w]; rfl
                  refine pure_ (i := 27) (N := some 95) (v := undef) (a' := ?_) #[I,I,I,I,I,I,I,I,I,I,I,I,I,I,I,I,I,I,I,I,I,I,I,I,I,I,I,I,O,O,O,O,O,O,O,O] rfl rfl (by kernel_rfl) (fun _ _ _ h => h) (Or.inr ⟨by rfl, rfl⟩) ?_ ?_; rotate_left; · simp only [Act.put, la0, la1, la2, i64_w, i32_w]; rfl
                  refine pure_ (i := 28) (N := some 96) (v := undef) (a' := ?_) #[I,I,I,I,I,I,I,I,I,I,I,I,I,I,I,I,I,I,I,I,I,I,I,I,I,I,I,I,I,O,O,O,O,O,O,O] rfl rfl (by kernel_rfl) (fun _ _ _ h => h) (Or.inr ⟨by rfl, rfl⟩) ?_ ?_; rotate_left; · simp only [Act.put, la0, la1, la2, i64_w, i32_w]; rfl
                  refine pure_ (i := 29) (N := some 97) (v := undef) (a' := ?_) #[I,I,I,I,I,I,I,I,I,I,I,I,I,I,I,I,I,I,I,I,I,I,I,I,I,I,I,I,I,I,O,O,O,O,O,O] rfl rfl (by kernel_rfl) (fun _ _ _ h => h) (Or.inr ⟨by rfl, rfl⟩) ?_ ?_; rotate_left; · simp only [Act.put, la0, la1, la2, i64_w, i32_w]; rfl
                  refine pure_ (i := 30) (N := some 98) (v := undef) (a' := ?_) #[I,I,I,I,I,I,I,I,I,I,I,I,I,I,I,I,I,I,I,I,I,I,I,I,I,I,I,I,I,I,I,O,O,O,O,O] rfl rfl (by kernel_rfl) (fun _ _ _ h => h) (Or.inr ⟨by rfl, rfl⟩) ?_ ?_; rotate_left; · simp only [Act.put, la0, la1, la2, i64_w, i32_w]; rfl
                  refine pure_ (i := 31) (N := some 99) (v := undef) (a' := ?_) #[I,I,I,I,I,I,I,I,I,I,I,I,I,I,I,I,I,I,I,I,I,I,I,I,I,I,I,I,I,I,I,I,O,O,O,O] rfl rfl (by kernel_rfl) (fun _ _ _ h => h) (Or.inr ⟨by rfl, rfl⟩) ?_ ?_; rotate_left; · simp only [Act.put, la0, la1, la2, i64_w, i32_w]; rfl
                  refine pure_ (i := 32) (N := some 100) (v := undef) (a' := ?_) #[I,I,I,I,I,I,I,I,I,I,I,I,I,I,I,I,I,I,I,I,I,I,I,I,I,I,I,I,I,I,I,I,I,O,O,O] rfl rfl (by kernel_rfl) (fun _ _ _ h => h) (Or.inr ⟨by rfl, rfl⟩) ?_ ?_; rotate_left; · simp only [Act.put, la0, la1, la2, i64_w, i32_w]; rfl
                  refine pure_ (i := 33) (N := some 101) (v := undef) (a' := ?_) #[I,I,I,I,I,I,I,I,I,I,I,I,I,I,I,I,I,I,I,I,I,I,I,I,I,I,I,I,I,I,I,I,I,I,O,O] rfl rfl (by kernel_rfl) (fun _ _ _ h => h) (Or.inr ⟨by rfl, rfl⟩) ?_ ?_; rotate_left; · simp only [Act.put, la0, la1, la2, i64_w, i32_w]; rfl
                  refine pure_ (i := 34) (N := some 102) (v := ?_) (a' := ?_) #[I,I,I,I,I,I,I,I,I,I,I,I,I,I,I,I,I,I,I,I,I,I,I,I,I,I,I,I,I,I,I,I,I,I,I,O] rfl rfl (by kernel_rfl) (fun _ _ _ h => h) (Or.inl ⟨by rfl, ?_⟩) ?_ ?_; rotate_left; · intro w'; go_simp; with_reducible rfl
                  rotate_left; · simp only [Act.put, la0, la1, la2, i64_w, i32_w]; rfl
                  refine pure_ (i := 35) (N := some 103) (v := ?_) (a' := ?_) #[I,I,I,I,I,I,I,I,I,I,I,I,I,I,I,I,I,I,I,I,I,I,I,I,I,I,I,I,I,I,I,I,I,I,I,I] rfl rfl (by kernel_rfl) (fun _ _ _ h => h) (Or.inl ⟨by rfl, ?_⟩) ?_ ?_; rotate_left; · intro w'; go_simp; with_reducible rfl
                  rotate_left; · simp only [Act.put, la0, la1, la2, i64_w, i32_w]; rfl
                  refine done_ (by kernel_rfl) ?_
                  go_wp2_with (fail)
                  go_meet; exact ⟨by rw [HB2.out], HI, HB, BKT, BK7, HR⟩
                · by_cases hr0 : 0 < rows.length
                  · have i1 : decide (0 < rows.length) = true := decide_eq_true hr0
                    have i1' : decide ((rows.length : Int) > 0) = true := decide_eq_true (by omega)
                    have wl : IntKind.i64.wrap ((rows.length : Int) - 1) = ((rows.length - 1 : Nat) : Int) := by rw [show (rows.length : Int) - 1 = ((rows.length - 1 : Nat) : Int) by omega]; exact IntWalk.i64_in _ (by omega)
                    have i2 : decide (0 ≤ ((rows.length - 1 : Nat) : Int)) = true := decide_eq_true (by omega); have i3 : decide (((rows.length - 1 : Nat) : Int) < (rows.length : Int)) = true := decide_eq_true (by omega); have i4 : decide (rows.length - 1 < rows.length) = true := decide_eq_true (by omega); have i5 : (rows.length - 1 < rows.length) = True := eq_true (by omega); obtain ⟨ad, rfl⟩ := table_Decode.some_ad HR.out hr0
                    obtain ⟨cv, hcv⟩ : ∃ x : Int, x = cmpI (rd_T43 rows ((rows.length - 1 : Nat) : Int)).f0.f0 (rd_T43 rows ((rows.length - 1 : Nat) : Int)).f0.f1 X.f0.f0 X.f0.f1 := ⟨_, rfl⟩
                    have hB2 : B = decide (0 ≤ cv) := by rw [HBB.out, decide_eq_true he, hcv]; unfold table_Decode.low; rw [decide_eq_true hr0]; rfl
                    have HB2 := Aside0.mk hB2; have HCV := Aside0.mk (show prefix_Compare.f 3 (rd_T43 rows ((rows.length - 1 : Nat) : Int)).f0.f0 (rd_T43 rows ((rows.length - 1 : Nat) : Int)).f0.f1 X.f0.f0 X.f0.f1 = some cv from by rw [hcv]; exact table_Table_find.cmp_is _ _ _ _); have hbv : decide (cv ≥ 0) = B := hB2.symm; have HR0 := Aside0.mk hr0; clear he hB2 hcv hr0; refine start_ (n := 36) (S := fun w' => w'.cell? ⟨g7, 0, none⟩ = some (.int .u32 X.f0.f0) ∧ w'.cell? ⟨g7, 1, none⟩ = some (.int .u8 X.f0.f1) ∧ w'.cell? ⟨gT, 0, none⟩ = some (.slice (some ad) rows.length cr) ∧ w'.cell? (ad.add ((rows.length - 1) * 10)) = some (.int .u32 (rd_T43 rows ((rows.length - 1 : Nat) : Int)).f0.f0) ∧ w'.cell? ⟨(ad.add ((rows.length - 1) * 10)).block, (ad.add ((rows.length - 1) * 10)).off + 1, none⟩ = some (.int .u8 (rd_T43 rows ((rows.length - 1 : Nat) : Int)).f0.f1)) (ds := []) #[O,O,O,O,O,O,O,O,O,O,O,O,O,O,O,O,O,O,O,O,O,O,O,O,O,O,O,O,O,O,O,O,O,O,O,O] (by kernel_rfl) rfl rfl ⟨(blk_cell BK7.out 0).trans rfl, (blk_cell BK7.out 1).trans rfl, (blk_cell BKT.out 0).trans rfl, (table_Decode.last_is HR.out HR0.out).1, (table_Decode.last_is HR.out HR0.out).2⟩ (fun hHeld => ?_); generalize wc.drew = wz at HI HB BKT BK7 HR hHeld ⊢; refine pure_ (i := 0) (N := some 68) (v := ?_) (a' := ?_) #[I,O,O,O,O,O,O,O,O,O,O,O,O,O,O,O,O,O,O,O,O,O,O,O,O,O,O,O,O,O,O,O,O,O,O,O] rfl rfl (by kernel_rfl) (fun _ _ _ h => h) (Or.inl ⟨by rfl, ?_⟩) ?_ ?_; rotate_left; · intro w'; go_simp; with_reducible rfl
                    rotate_left; · simp only [Act.put, la0, la1, la2, i64_w, i32_w]; rfl
                    refine one_ (i := 1) (N := some 69) #[I,I,O,O,O,O,O,O,O,O,O,O,O,O,O,O,O,O,O,O,O,O,O,O,O,O,O,O,O,O,O,O,O,O,O,O] rfl rfl (by kernel_rfl) (by decide) (fun K hK => ?_); refine goes_ Try.func31 (by kernel_rfl) rfl #[.pointer (some ⟨gp, 0, none⟩)] (by rfl) rfl rfl (by simp only [List.map_toArray, List.map_cons, List.map_nil]; rfl) ?_
                    with_reducible refine (coin_Purse_Fault.calls gp s' e' e' s' e' w _ HI.out HB.out rfl).mono ?_
                    rintro e_ wf1 ⟨rfl, hi, hb, hkp⟩; refine ⟨_, rfl, ?_⟩; have n0_ := Aside0.mk (hi); have n1_ := Aside0.mk (hb); have n2_ := Aside0.mk (hkp.blk BKT.out HNE.out (by simp)); have n3_ := Aside0.mk (hkp.blk BK7.out HN7.out (by simp)); have n4_ := Aside0.mk (Kd.R_keep HR.out hkp (fun _ h => h.1)); clear HI HB BKT BK7 HR; have HI := n0_; have HB := n1_; have BKT := n2_; have BK7 := n3_; have HR := n4_; clear n0_ n1_ n2_ n3_ n4_; clear hi hb hkp; refine hK.out _ _ ⟨(blk_cell BK7.out 0).trans rfl, (blk_cell BK7.out 1).trans rfl, (blk_cell BKT.out 0).trans rfl, (table_Decode.last_is HR.out HR0.out).1, (table_Decode.last_is HR.out HR0.out).2⟩ (fun hHeld => ?_); clear hK K; refine norm_ (a' := ?_) ?_ ?_; rotate_left
                    · show Act.put _ (some 69) _ = _
                      simp only [Act.put, la0, la1, la2, i64_w, i32_w]
                      rfl
                    refine pure_ (i := 2) (N := some 70) (v := ?_) (a' := ?_) #[I,I,I,O,O,O,O,O,O,O,O,O,O,O,O,O,O,O,O,O,O,O,O,O,O,O,O,O,O,O,O,O,O,O,O,O] rfl rfl (by kernel_rfl) (fun _ _ _ h => h) (Or.inl ⟨by rfl, ?_⟩) ?_ ?_; rotate_left; · intro w'; go_simp; with_reducible rfl
                    rotate_left; · simp only [Act.put, la0, la1, la2, i64_w, i32_w]; rfl
                    refine pure_ (i := 3) (N := some 71) (v := ?_) (a' := ?_) #[I,I,I,I,O,O,O,O,O,O,O,O,O,O,O,O,O,O,O,O,O,O,O,O,O,O,O,O,O,O,O,O,O,O,O,O] rfl rfl (by kernel_rfl) (fun _ _ _ h => h) (Or.inl ⟨by rfl, ?_⟩) ?_ ?_; rotate_left; · intro w'; go_simp; with_reducible rfl
                    rotate_left; · simp only [Act.put, la0, la1, la2, i64_w, i32_w]; rfl
                    refine pure_ (i := 4) (N := some 72) (v := ?_) (a' := ?_) #[I,I,I,I,I,O,O,O,O,O,O,O,O,O,O,O,O,O,O,O,O,O,O,O,O,O,O,O,O,O,O,O,O,O,O,O] rfl rfl (by kernel_rfl) (fun _ _ _ h => h) (Or.inl ⟨by rfl, ?_⟩) ?_ ?_; rotate_left; · intro w'; go_simp; with_reducible rfl
                    rotate_left; · simp only [Act.put, la0, la1, la2, i64_w, i32_w]; rfl
                    refine take_ (i := 5) (N := some 73) (v := ?_) (a' := ?_) #[I,I,I,I,I,I,O,O,O,O,O,O,O,O,O,O,O,O,O,O,O,O,O,O,O,O,O,O,O,O,O,O,O,O,O,O] rfl rfl (by kernel_rfl) (fun _ _ _ h => h) (Or.inl ⟨by rfl, ?_⟩) hHeld ?_ ?_; rotate_left; · rintro w' ⟨s0, s1, s2, s3, s4⟩; go_simp; with_reducible rfl
                    rotate_left; · simp only [Act.put, la0, la1, la2, i64_w, i32_w]; rfl
                    refine one_ (i := 6) (N := some 74) #[I,I,I,I,I,I,I,O,O,O,O,O,O,O,O,O,O,O,O,O,O,O,O,O,O,O,O,O,O,O,O,O,O,O,O,O] rfl rfl (by kernel_rfl) (by decide) (fun K hK => ?_); refine goes_ Try.func32 (by kernel_rfl) rfl #[.agg #[.int .u32 X.f0.f0, .int .u8 X.f0.f1]] (by rfl) rfl rfl (by simp only [List.map_toArray, List.map_cons, List.map_nil]; rfl) ?_
                    with_reducible refine (prefix_Right.calls X.f0.f0 X.f0.f1 true _ HRI.out).mono ?_
                    rintro e_ wf2 ⟨rfl, hb⟩; refine ⟨_, rfl, ?_⟩; have n0_ := Aside0.mk (IsS96.below HI.out hb); have n1_ := Aside0.mk (below_step HB.out hb); have n2_ := Aside0.mk (blk_below BKT.out hb); have n3_ := Aside0.mk (blk_below BK7.out hb); have n4_ := Aside0.mk (Kd.R_below HR.out hb); clear HI HB BKT BK7 HR; have HI := n0_; have HB := n1_; have BKT := n2_; have BK7 := n3_; have HR := n4_; clear n0_ n1_ n2_ n3_ n4_; clear hb; refine hK.out _ _ ⟨(blk_cell BK7.out 0).trans rfl, (blk_cell BK7.out 1).trans rfl, (blk_cell BKT.out 0).trans rfl, (table_Decode.last_is HR.out HR0.out).1, (table_Decode.last_is HR.out HR0.out).2⟩ (fun hHeld => ?_); clear hK K; refine norm_ (a' := ?_) ?_ ?_; rotate_left
                    · show Act.put _ (some 74) _ = _
                      simp only [Act.put, la0, la1, la2, i64_w, i32_w]
                      rfl
                    refine pure_ (i := 7) (N := some 75) (v := ?_) (a' := ?_) #[I,I,I,I,I,I,I,I,O,O,O,O,O,O,O,O,O,O,O,O,O,O,O,O,O,O,O,O,O,O,O,O,O,O,O,O] rfl rfl (by kernel_rfl) (fun _ _ _ h => h) (Or.inl ⟨by rfl, ?_⟩) ?_ ?_; rotate_left; · intro w'; go_simp; with_reducible rfl
                    rotate_left; · simp only [Act.put, la0, la1, la2, i64_w, i32_w]; rfl
                    refine pure_ (i := 8) (N := some 76) (v := ?_) (a' := ?_) #[I,I,I,I,I,I,I,I,I,O,O,O,O,O,O,O,O,O,O,O,O,O,O,O,O,O,O,O,O,O,O,O,O,O,O,O] rfl rfl (by kernel_rfl) (fun _ _ _ h => h) (Or.inl ⟨by rfl, ?_⟩) ?_ ?_; rotate_left; · intro w'; go_simp; with_reducible rfl
                    rotate_left; · simp only [Act.put, la0, la1, la2, i64_w, i32_w]; rfl
                    refine pure_ (i := 9) (N := some 77) (v := ?_) (a' := ?_) #[I,I,I,I,I,I,I,I,I,I,O,O,O,O,O,O,O,O,O,O,O,O,O,O,O,O,O,O,O,O,O,O,O,O,O,O] rfl rfl (by kernel_rfl) (fun _ _ _ h => h) (Or.inl ⟨by rfl, ?_⟩) ?_ ?_; rotate_left; · intro w'; go_simp; with_reducible rfl
                    rotate_left; · simp only [Act.put, la0, la1, la2, i64_w, i32_w]; rfl
                    refine pure_ (i := 10) (N := some 78) (v := ?_) (a' := ?_) #[I,I,I,I,I,I,I,I,I,I,I,O,O,O,O,O,O,O,O,O,O,O,O,O,O,O,O,O,O,O,O,O,O,O,O,O] rfl rfl (by kernel_rfl) (fun _ _ _ h => h) (Or.inl ⟨by rfl, ?_⟩) ?_ ?_; rotate_left; · intro w'; go_simp; with_reducible rfl
                    rotate_left; · simp only [Act.put, la0, la1, la2, i64_w, i32_w]; rfl
                    refine pure_ (i := 11) (N := some 79) (v := ?_) (a' := ?_) #[I,I,I,I,I,I,I,I,I,I,I,I,O,O,O,O,O,O,O,O,O,O,O,O,O,O,O,O,O,O,O,O,O,O,O,O] rfl rfl (by kernel_rfl) (fun _ _ _ h => h) (Or.inl ⟨by rfl, ?_⟩) ?_ ?_; rotate_left; · intro w'; go_simp; with_reducible rfl
                    rotate_left; · simp only [Act.put, la0, la1, la2, i64_w, i32_w]; rfl
                    refine take_ (i := 12) (N := some 80) (v := ?_) (a' := ?_) #[I,I,I,I,I,I,I,I,I,I,I,I,I,O,O,O,O,O,O,O,O,O,O,O,O,O,O,O,O,O,O,O,O,O,O,O] rfl rfl (by kernel_rfl) (fun _ _ _ h => h) (Or.inl ⟨by rfl, ?_⟩) hHeld ?_ ?_; rotate_left; · rintro w' ⟨s0, s1, s2, s3, s4⟩; go_simp; with_reducible rfl
                    rotate_left; · simp only [Act.put, la0, la1, la2, i64_w, i32_w]; rfl
                    refine pure_ (i := 13) (N := some 81) (v := ?_) (a' := ?_) #[I,I,I,I,I,I,I,I,I,I,I,I,I,I,O,O,O,O,O,O,O,O,O,O,O,O,O,O,O,O,O,O,O,O,O,O] rfl rfl (by kernel_rfl) (fun _ _ _ h => h) (Or.inl ⟨by rfl, ?_⟩) ?_ ?_; rotate_left; · intro w'; go_simp; with_reducible rfl
                    rotate_left; · simp only [Act.put, la0, la1, la2, i64_w, i32_w]; rfl
                    refine pure_ (i := 14) (N := some 82) (v := ?_) (a' := ?_) #[I,I,I,I,I,I,I,I,I,I,I,I,I,I,I,O,O,O,O,O,O,O,O,O,O,O,O,O,O,O,O,O,O,O,O,O] rfl rfl (by kernel_rfl) (fun _ _ _ h => h) (Or.inl ⟨by rfl, ?_⟩) ?_ ?_; rotate_left; · intro w'; go_simp; with_reducible rfl
                    rotate_left; · simp only [Act.put, la0, la1, la2, i64_w, i32_w]; rfl
                    refine pure_ (i := 15) (N := some 83) (v := ?_) (a' := ?_) #[I,I,I,I,I,I,I,I,I,I,I,I,I,I,I,I,O,O,O,O,O,O,O,O,O,O,O,O,O,O,O,O,O,O,O,O] rfl rfl (by kernel_rfl) (fun _ _ _ h => h) (Or.inl ⟨by rfl, ?_⟩) ?_ ?_; rotate_left; · intro w'; go_simp; with_reducible rfl
                    rotate_left; · simp only [Act.put, la0, la1, la2, i64_w, i32_w]; rfl
                    refine pure_ (i := 16) (N := some 84) (v := ?_) (a' := ?_) #[I,I,I,I,I,I,I,I,I,I,I,I,I,I,I,I,I,O,O,O,O,O,O,O,O,O,O,O,O,O,O,O,O,O,O,O] rfl rfl (by kernel_rfl) (fun _ _ _ h => h) (Or.inl ⟨by rfl, ?_⟩) ?_ ?_; rotate_left; · intro w'; go_simp; with_reducible rfl
                    rotate_left; · simp only [Act.put, la0, la1, la2, i64_w, i32_w]; rfl
                    refine pure_ (i := 17) (N := some 85) (v := ?_) (a' := ?_) #[I,I,I,I,I,I,I,I,I,I,I,I,I,I,I,I,I,I,O,O,O,O,O,O,O,O,O,O,O,O,O,O,O,O,O,O] rfl rfl (by kernel_rfl) (fun _ _ _ h => h) (Or.inl ⟨by rfl, ?_⟩) ?_ ?_; rotate_left; · intro w'; go_simp; with_reducible rfl
                    rotate_left; · simp only [Act.put, la0, la1, la2, i64_w, i32_w]; rfl
                    refine pure_ (i := 18) (N := some 86) (v := ?_) (a' := ?_) #[I,I,I,I,I,I,I,I,I,I,I,I,I,I,I,I,I,I,I,O,O,O,O,O,O,O,O,O,O,O,O,O,O,O,O,O] rfl rfl (by kernel_rfl) (fun _ _ _ h => h) (Or.inl ⟨by rfl, ?_⟩) ?_ ?_; rotate_left; · intro w'; go_simp; with_reducible rfl
                    rotate_left; · simp only [Act.put, la0, la1, la2, i64_w, i32_w]; rfl
                    refine pure_ (i := 20) (N := some 88) (v := ?_) (a' := ?_) #[I,I,I,I,I,I,I,I,I,I,I,I,I,I,I,I,I,I,I,O,I,O,O,O,O,O,O,O,O,O,O,O,O,O,O,O] rfl rfl (by kernel_rfl) (fun _ _ _ h => h) (Or.inl ⟨by rfl, ?_⟩) ?_ ?_; rotate_left; · intro w'; go_simp; with_reducible rfl
                    rotate_left; · simp only [Act.put, la0, la1, la2, i64_w, i32_w]; rfl
                    refine pure_ (i := 21) (N := some 89) (v := ?_) (a' := ?_) #[I,I,I,I,I,I,I,I,I,I,I,I,I,I,I,I,I,I,I,O,I,I,O,O,O,O,O,O,O,O,O,O,O,O,O,O] rfl rfl (by kernel_rfl) (fun _ _ _ h => h) (Or.inl ⟨by rfl, ?_⟩) ?_ ?_; rotate_left; · intro w'; go_simp; with_reducible rfl
                    rotate_left; · simp only [Act.put, la0, la1, la2, i64_w, i32_w]; rfl
                    refine pure_ (i := 22) (N := some 90) (v := ?_) (a' := ?_) #[I,I,I,I,I,I,I,I,I,I,I,I,I,I,I,I,I,I,I,O,I,I,I,O,O,O,O,O,O,O,O,O,O,O,O,O] rfl rfl (by kernel_rfl) (fun _ _ _ h => h) (Or.inl ⟨by rfl, ?_⟩) ?_ ?_; rotate_left; · intro w'; go_simp; with_reducible rfl
                    rotate_left; · simp only [Act.put, la0, la1, la2, i64_w, i32_w]; rfl
                    refine pure_ (i := 29) (N := some 97) (v := ?_) (a' := ?_) #[I,I,I,I,I,I,I,I,I,I,I,I,I,I,I,I,I,I,I,O,I,I,I,O,O,O,O,O,O,I,O,O,O,O,O,O] rfl rfl (by kernel_rfl) (fun _ _ _ h => h) (Or.inl ⟨by rfl, ?_⟩) ?_ ?_; rotate_left; · intro w'; go_simp; with_reducible rfl
                    rotate_left; · simp only [Act.put, la0, la1, la2, i64_w, i32_w]; rfl
                    refine take_ (i := 19) (N := some 87) (v := ?_) (a' := ?_) #[I,I,I,I,I,I,I,I,I,I,I,I,I,I,I,I,I,I,I,I,I,I,I,O,O,O,O,O,O,I,O,O,O,O,O,O] rfl rfl (by kernel_rfl) (fun _ _ _ h => h) (Or.inl ⟨by rfl, ?_⟩) hHeld ?_ ?_; rotate_left; · rintro w' ⟨s0, s1, s2, s3, s4⟩; go_simp; with_reducible rfl
                    rotate_left; · simp only [Act.put, la0, la1, la2, i64_w, i32_w]; rfl
                    refine take_ (i := 23) (N := some 91) (v := ?_) (a' := ?_) #[I,I,I,I,I,I,I,I,I,I,I,I,I,I,I,I,I,I,I,I,I,I,I,I,O,O,O,O,O,I,O,O,O,O,O,O] rfl rfl (by kernel_rfl) (fun _ _ _ h => h) (Or.inl ⟨by rfl, ?_⟩) hHeld ?_ ?_; rotate_left; · rintro w' ⟨s0, s1, s2, s3, s4⟩; go_simp; with_reducible rfl
                    rotate_left; · simp only [Act.put, la0, la1, la2, i64_w, i32_w]; rfl
                    refine pure_ (i := 24) (N := some 92) (v := ?_) (a' := ?_) #[I,I,I,I,I,I,I,I,I,I,I,I,I,I,I,I,I,I,I,I,I,I,I,I,I,O,O,O,O,I,O,O,O,O,O,O] rfl rfl (by kernel_rfl) (fun _ _ _ h => h) (Or.inl ⟨by rfl, ?_⟩) ?_ ?_; rotate_left; · intro w'; go_simp; with_reducible rfl
                    rotate_left; · simp only [Act.put, la0, la1, la2, i64_w, i32_w]; rfl
                    refine pure_ (i := 25) (N := some 93) (v := ?_) (a' := ?_) #[I,I,I,I,I,I,I,I,I,I,I,I,I,I,I,I,I,I,I,I,I,I,I,I,I,I,O,O,O,I,O,O,O,O,O,O] rfl rfl (by kernel_rfl) (fun _ _ _ h => h) (Or.inl ⟨by rfl, ?_⟩) ?_ ?_; rotate_left; · intro w'; go_simp; with_reducible rfl
                    rotate_left; · simp only [Act.put, la0, la1, la2, i64_w, i32_w]; rfl
                    refine pure_ (i := 26) (N := some 94) (v := ?_) (a' := ?_) #[I,I,I,I,I,I,I,I,I,I,I,I,I,I,I,I,I,I,I,I,I,I,I,I,I,I,I,O,O,I,O,O,O,O,O,O] rfl rfl (by kernel_rfl) (fun _ _ _ h => h) (Or.inl ⟨by rfl, ?_⟩) ?_ ?_; rotate_left; · intro w'; go_simp; with_reducible rfl
                    rotate_left; · simp only [Act.put, la0, la1, la2, i64_w, i32_w]; rfl
                    refine pure_ (i := 27) (N := some 95) (v := ?_) (a' := ?_) #[I,I,I,I,I,I,I,I,I,I,I,I,I,I,I,I,I,I,I,I,I,I,I,I,I,I,I,I,O,I,O,O,O,O,O,O] rfl rfl (by kernel_rfl) (fun _ _ _ h => h) (Or.inl ⟨by rfl, ?_⟩) ?_ ?_; rotate_left; · intro w'; go_simp; with_reducible rfl
                    rotate_left; · simp only [Act.put, la0, la1, la2, i64_w, i32_w]; rfl
                    refine take_ (i := 28) (N := some 96) (v := ?_) (a' := ?_) #[I,I,I,I,I,I,I,I,I,I,I,I,I,I,I,I,I,I,I,I,I,I,I,I,I,I,I,I,I,I,O,O,O,O,O,O] rfl rfl (by kernel_rfl) (fun _ _ _ h => h) (Or.inl ⟨by rfl, ?_⟩) hHeld ?_ ?_; rotate_left; · rintro w' ⟨s0, s1, s2, s3, s4⟩; go_simp; with_reducible rfl
                    rotate_left; · simp only [Act.put, la0, la1, la2, i64_w, i32_w]; rfl
                    refine take_ (i := 30) (N := some 98) (v := ?_) (a' := ?_) #[I,I,I,I,I,I,I,I,I,I,I,I,I,I,I,I,I,I,I,I,I,I,I,I,I,I,I,I,I,I,I,O,O,O,O,O] rfl rfl (by kernel_rfl) (fun _ _ _ h => h) (Or.inl ⟨by rfl, ?_⟩) hHeld ?_ ?_; rotate_left; · rintro w' ⟨s0, s1, s2, s3, s4⟩; go_simp; with_reducible rfl
                    rotate_left; · simp only [Act.put, la0, la1, la2, i64_w, i32_w]; rfl
                    refine one_ (i := 31) (N := some 99) #[I,I,I,I,I,I,I,I,I,I,I,I,I,I,I,I,I,I,I,I,I,I,I,I,I,I,I,I,I,I,I,I,O,O,O,O] rfl rfl (by kernel_rfl) (by decide) (fun K hK => ?_); refine goes_ Try.func33 (by kernel_rfl) rfl #[.agg #[.int .u32 (rd_T43 rows ((rows.length - 1 : Nat) : Int)).f0.f0, .int .u8 (rd_T43 rows ((rows.length - 1 : Nat) : Int)).f0.f1], .agg #[.int .u32 X.f0.f0, .int .u8 X.f0.f1]] (by rfl) rfl rfl (by simp only [List.map_toArray, List.map_cons, List.map_nil]; rfl) ?_
                    with_reducible refine (prefix_Compare.calls 3 (rd_T43 rows ((rows.length - 1 : Nat) : Int)).f0.f0 (rd_T43 rows ((rows.length - 1 : Nat) : Int)).f0.f1 X.f0.f0 X.f0.f1 cv _ HCV.out).mono ?_
                    rintro e_ wf3 ⟨rfl, hb⟩; refine ⟨_, rfl, ?_⟩; have n0_ := Aside0.mk (IsS96.below HI.out hb); have n1_ := Aside0.mk (below_step HB.out hb); have n2_ := Aside0.mk (blk_below BKT.out hb); have n3_ := Aside0.mk (blk_below BK7.out hb); have n4_ := Aside0.mk (Kd.R_below HR.out hb); clear HI HB BKT BK7 HR; have HI := n0_; have HB := n1_; have BKT := n2_; have BK7 := n3_; have HR := n4_; clear n0_ n1_ n2_ n3_ n4_; clear hb; refine hK.out _ _ ⟨(blk_cell BK7.out 0).trans rfl, (blk_cell BK7.out 1).trans rfl, (blk_cell BKT.out 0).trans rfl, (table_Decode.last_is HR.out HR0.out).1, (table_Decode.last_is HR.out HR0.out).2⟩ (fun hHeld => ?_); clear hK K; refine norm_ (a' := ?_) ?_ ?_; rotate_left
                    · show Act.put _ (some 99) _ = _
                      simp only [Act.put, la0, la1, la2, i64_w, i32_w]
                      rfl
                    refine pure_ (i := 32) (N := some 100) (v := ?_) (a' := ?_) #[I,I,I,I,I,I,I,I,I,I,I,I,I,I,I,I,I,I,I,I,I,I,I,I,I,I,I,I,I,I,I,I,I,O,O,O] rfl rfl (by kernel_rfl) (fun _ _ _ h => h) (Or.inl ⟨by rfl, ?_⟩) ?_ ?_; rotate_left; · intro w'; go_simp; with_reducible rfl
                    rotate_left; · simp only [Act.put, la0, la1, la2, i64_w, i32_w]; rfl
                    refine pure_ (i := 33) (N := some 101) (v := ?_) (a' := ?_) #[I,I,I,I,I,I,I,I,I,I,I,I,I,I,I,I,I,I,I,I,I,I,I,I,I,I,I,I,I,I,I,I,I,I,O,O] rfl rfl (by kernel_rfl) (fun _ _ _ h => h) (Or.inl ⟨by rfl, ?_⟩) ?_ ?_; rotate_left; · intro w'; go_simp; with_reducible rfl
                    rotate_left; · simp only [Act.put, la0, la1, la2, i64_w, i32_w]; rfl
                    refine pure_ (i := 34) (N := some 102) (v := ?_) (a' := ?_) #[I,I,I,I,I,I,I,I,I,I,I,I,I,I,I,I,I,I,I,I,I,I,I,I,I,I,I,I,I,I,I,I,I,I,I,O] rfl rfl (by kernel_rfl) (fun _ _ _ h => h) (Or.inl ⟨by rfl, ?_⟩) ?_ ?_; rotate_left; · intro w'; go_simp; with_reducible rfl
                    rotate_left; · simp only [Act.put, la0, la1, la2, i64_w, i32_w]; rfl
                    refine pure_ (i := 35) (N := some 103) (v := ?_) (a' := ?_) #[I,I,I,I,I,I,I,I,I,I,I,I,I,I,I,I,I,I,I,I,I,I,I,I,I,I,I,I,I,I,I,I,I,I,I,I] rfl rfl (by kernel_rfl) (fun _ _ _ h => h) (Or.inl ⟨by rfl, ?_⟩) ?_ ?_; rotate_left; · intro w'; go_simp; with_reducible rfl
                    rotate_left; · simp only [Act.put, la0, la1, la2, i64_w, i32_w]; rfl
                    refine done_ (by kernel_rfl) ?_
                    go_wp2_with (fail)
                    go_meet; exact ⟨rfl, HI, HB, BKT, BK7, HR⟩
                  · have i1 : decide (0 < rows.length) = false := decide_eq_false hr0
                    have i1' : decide ((rows.length : Int) > 0) = false := decide_eq_false (by omega)
                    have hB2 : B = false := by rw [HBB.out]; unfold table_Decode.low; rw [decide_eq_false hr0]; simp
                    have HB2 := Aside0.mk hB2; clear he hB2 hr0; refine start_ (n := 36) (S := fun w' => w'.cell? ⟨g7, 0, none⟩ = some (.int .u32 X.f0.f0) ∧ w'.cell? ⟨g7, 1, none⟩ = some (.int .u8 X.f0.f1) ∧ w'.cell? ⟨gT, 0, none⟩ = some (.slice Ar rows.length cr)) (ds := []) #[O,O,O,O,O,O,O,O,O,O,O,O,O,O,O,O,O,O,O,O,O,O,O,O,O,O,O,O,O,O,O,O,O,O,O,O] (by kernel_rfl) rfl rfl ⟨(blk_cell BK7.out 0).trans rfl, (blk_cell BK7.out 1).trans rfl, (blk_cell BKT.out 0).trans rfl⟩ (fun hHeld => ?_); generalize wc.drew = wz at HI HB BKT BK7 HR hHeld ⊢; refine pure_ (i := 0) (N := some 68) (v := ?_) (a' := ?_) #[I,O,O,O,O,O,O,O,O,O,O,O,O,O,O,O,O,O,O,O,O,O,O,O,O,O,O,O,O,O,O,O,O,O,O,O] rfl rfl (by kernel_rfl) (fun _ _ _ h => h) (Or.inl ⟨by rfl, ?_⟩) ?_ ?_; rotate_left; · intro w'; go_simp; with_reducible rfl
                    rotate_left; · simp only [Act.put, la0, la1, la2, i64_w, i32_w]; rfl
                    refine one_ (i := 1) (N := some 69) #[I,I,O,O,O,O,O,O,O,O,O,O,O,O,O,O,O,O,O,O,O,O,O,O,O,O,O,O,O,O,O,O,O,O,O,O] rfl rfl (by kernel_rfl) (by decide) (fun K hK => ?_); refine goes_ Try.func31 (by kernel_rfl) rfl #[.pointer (some ⟨gp, 0, none⟩)] (by rfl) rfl rfl (by simp only [List.map_toArray, List.map_cons, List.map_nil]; rfl) ?_
                    with_reducible refine (coin_Purse_Fault.calls gp s' e' e' s' e' w _ HI.out HB.out rfl).mono ?_
                    rintro e_ wf1 ⟨rfl, hi, hb, hkp⟩; refine ⟨_, rfl, ?_⟩; have n0_ := Aside0.mk (hi); have n1_ := Aside0.mk (hb); have n2_ := Aside0.mk (hkp.blk BKT.out HNE.out (by simp)); have n3_ := Aside0.mk (hkp.blk BK7.out HN7.out (by simp)); have n4_ := Aside0.mk (Kd.R_keep HR.out hkp (fun _ h => h.1)); clear HI HB BKT BK7 HR; have HI := n0_; have HB := n1_; have BKT := n2_; have BK7 := n3_; have HR := n4_; clear n0_ n1_ n2_ n3_ n4_; clear hi hb hkp; refine hK.out _ _ ⟨(blk_cell BK7.out 0).trans rfl, (blk_cell BK7.out 1).trans rfl, (blk_cell BKT.out 0).trans rfl⟩ (fun hHeld => ?_); clear hK K; refine norm_ (a' := ?_) ?_ ?_; rotate_left
                    · show Act.put _ (some 69) _ = _
                      simp only [Act.put, la0, la1, la2, i64_w, i32_w]
                      rfl
                    refine pure_ (i := 2) (N := some 70) (v := ?_) (a' := ?_) #[I,I,I,O,O,O,O,O,O,O,O,O,O,O,O,O,O,O,O,O,O,O,O,O,O,O,O,O,O,O,O,O,O,O,O,O] rfl rfl (by kernel_rfl) (fun _ _ _ h => h) (Or.inl ⟨by rfl, ?_⟩) ?_ ?_; rotate_left; · intro w'; go_simp; with_reducible rfl
                    rotate_left; · simp only [Act.put, la0, la1, la2, i64_w, i32_w]; rfl
                    refine pure_ (i := 3) (N := some 71) (v := ?_) (a' := ?_) #[I,I,I,I,O,O,O,O,O,O,O,O,O,O,O,O,O,O,O,O,O,O,O,O,O,O,O,O,O,O,O,O,O,O,O,O] rfl rfl (by kernel_rfl) (fun _ _ _ h => h) (Or.inl ⟨by rfl, ?_⟩) ?_ ?_; rotate_left; · intro w'; go_simp; with_reducible rfl
                    rotate_left; · simp only [Act.put, la0, la1, la2, i64_w, i32_w]; rfl
                    refine pure_ (i := 4) (N := some 72) (v := ?_) (a' := ?_) #[I,I,I,I,I,O,O,O,O,O,O,O,O,O,O,O,O,O,O,O,O,O,O,O,O,O,O,O,O,O,O,O,O,O,O,O] rfl rfl (by kernel_rfl) (fun _ _ _ h => h) (Or.inl ⟨by rfl, ?_⟩) ?_ ?_; rotate_left; · intro w'; go_simp; with_reducible rfl
                    rotate_left; · simp only [Act.put, la0, la1, la2, i64_w, i32_w]; rfl
                    refine take_ (i := 5) (N := some 73) (v := ?_) (a' := ?_) #[I,I,I,I,I,I,O,O,O,O,O,O,O,O,O,O,O,O,O,O,O,O,O,O,O,O,O,O,O,O,O,O,O,O,O,O] rfl rfl (by kernel_rfl) (fun _ _ _ h => h) (Or.inl ⟨by rfl, ?_⟩) hHeld ?_ ?_; rotate_left; · rintro w' ⟨s0, s1, s2⟩; go_simp; with_reducible rfl
                    rotate_left; · simp only [Act.put, la0, la1, la2, i64_w, i32_w]; rfl
                    refine one_ (i := 6) (N := some 74) #[I,I,I,I,I,I,I,O,O,O,O,O,O,O,O,O,O,O,O,O,O,O,O,O,O,O,O,O,O,O,O,O,O,O,O,O] rfl rfl (by kernel_rfl) (by decide) (fun K hK => ?_); refine goes_ Try.func32 (by kernel_rfl) rfl #[.agg #[.int .u32 X.f0.f0, .int .u8 X.f0.f1]] (by rfl) rfl rfl (by simp only [List.map_toArray, List.map_cons, List.map_nil]; rfl) ?_
                    with_reducible refine (prefix_Right.calls X.f0.f0 X.f0.f1 true _ HRI.out).mono ?_
                    rintro e_ wf2 ⟨rfl, hb⟩; refine ⟨_, rfl, ?_⟩; have n0_ := Aside0.mk (IsS96.below HI.out hb); have n1_ := Aside0.mk (below_step HB.out hb); have n2_ := Aside0.mk (blk_below BKT.out hb); have n3_ := Aside0.mk (blk_below BK7.out hb); have n4_ := Aside0.mk (Kd.R_below HR.out hb); clear HI HB BKT BK7 HR; have HI := n0_; have HB := n1_; have BKT := n2_; have BK7 := n3_; have HR := n4_; clear n0_ n1_ n2_ n3_ n4_; clear hb; refine hK.out _ _ ⟨(blk_cell BK7.out 0).trans rfl, (blk_cell BK7.out 1).trans rfl, (blk_cell BKT.out 0).trans rfl⟩ (fun hHeld => ?_); clear hK K; refine norm_ (a' := ?_) ?_ ?_; rotate_left
                    · show Act.put _ (some 74) _ = _
                      simp only [Act.put, la0, la1, la2, i64_w, i32_w]
                      rfl
                    refine pure_ (i := 7) (N := some 75) (v := ?_) (a' := ?_) #[I,I,I,I,I,I,I,I,O,O,O,O,O,O,O,O,O,O,O,O,O,O,O,O,O,O,O,O,O,O,O,O,O,O,O,O] rfl rfl (by kernel_rfl) (fun _ _ _ h => h) (Or.inl ⟨by rfl, ?_⟩) ?_ ?_; rotate_left; · intro w'; go_simp; with_reducible rfl
                    rotate_left; · simp only [Act.put, la0, la1, la2, i64_w, i32_w]; rfl
                    refine pure_ (i := 8) (N := some 76) (v := ?_) (a' := ?_) #[I,I,I,I,I,I,I,I,I,O,O,O,O,O,O,O,O,O,O,O,O,O,O,O,O,O,O,O,O,O,O,O,O,O,O,O] rfl rfl (by kernel_rfl) (fun _ _ _ h => h) (Or.inl ⟨by rfl, ?_⟩) ?_ ?_; rotate_left; · intro w'; go_simp; with_reducible rfl
                    rotate_left; · simp only [Act.put, la0, la1, la2, i64_w, i32_w]; rfl
                    refine pure_ (i := 9) (N := some 77) (v := ?_) (a' := ?_) #[I,I,I,I,I,I,I,I,I,I,O,O,O,O,O,O,O,O,O,O,O,O,O,O,O,O,O,O,O,O,O,O,O,O,O,O] rfl rfl (by kernel_rfl) (fun _ _ _ h => h) (Or.inl ⟨by rfl, ?_⟩) ?_ ?_; rotate_left; · intro w'; go_simp; with_reducible rfl
                    rotate_left; · simp only [Act.put, la0, la1, la2, i64_w, i32_w]; rfl
                    refine pure_ (i := 10) (N := some 78) (v := ?_) (a' := ?_) #[I,I,I,I,I,I,I,I,I,I,I,O,O,O,O,O,O,O,O,O,O,O,O,O,O,O,O,O,O,O,O,O,O,O,O,O] rfl rfl (by kernel_rfl) (fun _ _ _ h => h) (Or.inl ⟨by rfl, ?_⟩) ?_ ?_; rotate_left; · intro w'; go_simp; with_reducible rfl
                    rotate_left; · simp only [Act.put, la0, la1, la2, i64_w, i32_w]; rfl
                    refine pure_ (i := 11) (N := some 79) (v := ?_) (a' := ?_) #[I,I,I,I,I,I,I,I,I,I,I,I,O,O,O,O,O,O,O,O,O,O,O,O,O,O,O,O,O,O,O,O,O,O,O,O] rfl rfl (by kernel_rfl) (fun _ _ _ h => h) (Or.inl ⟨by rfl, ?_⟩) ?_ ?_; rotate_left; · intro w'; go_simp; with_reducible rfl
                    rotate_left; · simp only [Act.put, la0, la1, la2, i64_w, i32_w]; rfl
                    refine take_ (i := 12) (N := some 80) (v := ?_) (a' := ?_) #[I,I,I,I,I,I,I,I,I,I,I,I,I,O,O,O,O,O,O,O,O,O,O,O,O,O,O,O,O,O,O,O,O,O,O,O] rfl rfl (by kernel_rfl) (fun _ _ _ h => h) (Or.inl ⟨by rfl, ?_⟩) hHeld ?_ ?_; rotate_left; · rintro w' ⟨s0, s1, s2⟩; go_simp; with_reducible rfl
                    rotate_left; · simp only [Act.put, la0, la1, la2, i64_w, i32_w]; rfl
                    refine pure_ (i := 13) (N := some 81) (v := ?_) (a' := ?_) #[I,I,I,I,I,I,I,I,I,I,I,I,I,I,O,O,O,O,O,O,O,O,O,O,O,O,O,O,O,O,O,O,O,O,O,O] rfl rfl (by kernel_rfl) (fun _ _ _ h => h) (Or.inl ⟨by rfl, ?_⟩) ?_ ?_; rotate_left; · intro w'; go_simp; with_reducible rfl
                    rotate_left; · simp only [Act.put, la0, la1, la2, i64_w, i32_w]; rfl
                    refine pure_ (i := 14) (N := some 82) (v := ?_) (a' := ?_) #[I,I,I,I,I,I,I,I,I,I,I,I,I,I,I,O,O,O,O,O,O,O,O,O,O,O,O,O,O,O,O,O,O,O,O,O] rfl rfl (by kernel_rfl) (fun _ _ _ h => h) (Or.inl ⟨by rfl, ?_⟩) ?_ ?_; rotate_left; · intro w'; go_simp; with_reducible rfl
                    rotate_left; · simp only [Act.put, la0, la1, la2, i64_w, i32_w]; rfl
                    refine pure_ (i := 15) (N := some 83) (v := ?_) (a' := ?_) #[I,I,I,I,I,I,I,I,I,I,I,I,I,I,I,I,O,O,O,O,O,O,O,O,O,O,O,O,O,O,O,O,O,O,O,O] rfl rfl (by kernel_rfl) (fun _ _ _ h => h) (Or.inl ⟨by rfl, ?_⟩) ?_ ?_; rotate_left; · intro w'; go_simp; with_reducible rfl
                    rotate_left; · simp only [Act.put, la0, la1, la2, i64_w, i32_w]; rfl
                    refine pure_ (i := 16) (N := some 84) (v := undef) (a' := ?_) #[I,I,I,I,I,I,I,I,I,I,I,I,I,I,I,I,I,O,O,O,O,O,O,O,O,O,O,O,O,O,O,O,O,O,O,O] rfl rfl (by kernel_rfl) (fun _ _ _ h => h) (Or.inr ⟨by rfl, rfl⟩) ?_ ?_; rotate_left; · simp only [Act.put, la0, la1, la2, i64_w, i32_w]; rfl
                    refine pure_ (i := 17) (N := some 85) (v := undef) (a' := ?_) #[I,I,I,I,I,I,I,I,I,I,I,I,I,I,I,I,I,I,O,O,O,O,O,O,O,O,O,O,O,O,O,O,O,O,O,O] rfl rfl (by kernel_rfl) (fun _ _ _ h => h) (Or.inr ⟨by rfl, rfl⟩) ?_ ?_; rotate_left; · simp only [Act.put, la0, la1, la2, i64_w, i32_w]; rfl
                    refine pure_ (i := 18) (N := some 86) (v := undef) (a' := ?_) #[I,I,I,I,I,I,I,I,I,I,I,I,I,I,I,I,I,I,I,O,O,O,O,O,O,O,O,O,O,O,O,O,O,O,O,O] rfl rfl (by kernel_rfl) (fun _ _ _ h => h) (Or.inr ⟨by rfl, rfl⟩) ?_ ?_; rotate_left; · simp only [Act.put, la0, la1, la2, i64_w, i32_w]; rfl
                    refine pure_ (i := 19) (N := some 87) (v := undef) (a' := ?_) #[I,I,I,I,I,I,I,I,I,I,I,I,I,I,I,I,I,I,I,I,O,O,O,O,O,O,O,O,O,O,O,O,O,O,O,O] rfl rfl (by kernel_rfl) (fun _ _ _ h => h) (Or.inr ⟨by rfl, rfl⟩) ?_ ?_; rotate_left; · simp only [Act.put, la0, la1, la2, i64_w, i32_w]; rfl
                    refine pure_ (i := 20) (N := some 88) (v := undef) (a' := ?_) #[I,I,I,I,I,I,I,I,I,I,I,I,I,I,I,I,I,I,I,I,I,O,O,O,O,O,O,O,O,O,O,O,O,O,O,O] rfl rfl (by kernel_rfl) (fun _ _ _ h => h) (Or.inr ⟨by rfl, rfl⟩) ?_ ?_; rotate_left; · simp only [Act.put, la0, la1, la2, i64_w, i32_w]; rfl
                    refine pure_ (i := 21) (N := some 89) (v := undef) (a' := ?_) #[I,I,I,I,I,I,I,I,I,I,I,I,I,I,I,I,I,I,I,I,I,I,O,O,O,O,O,O,O,O,O,O,O,O,O,O] rfl rfl (by kernel_rfl) (fun _ _ _ h => h) (Or.inr ⟨by rfl, rfl⟩) ?_ ?_; rotate_left; · simp only [Act.put, la0, la1, la2, i64_w, i32_w]; rfl
                    refine pure_ (i := 22) (N := some 90) (v := undef) (a' := ?_) #[I,I,I,I,I,I,I,I,I,I,I,I,I,I,I,I,I,I,I,I,I,I,I,O,O,O,O,O,O,O,O,O,O,O,O,O] rfl rfl (by kernel_rfl) (fun _ _ _ h => h) (Or.inr ⟨by rfl, rfl⟩) ?_ ?_; rotate_left; · simp only [Act.put, la0, la1, la2, i64_w, i32_w]; rfl
                    refine pure_ (i := 23) (N := some 91) (v := undef) (a' := ?_) #[I,I,I,I,I,I,I,I,I,I,I,I,I,I,I,I,I,I,I,I,I,I,I,I,O,O,O,O,O,O,O,O,O,O,O,O] rfl rfl (by kernel_rfl) (fun _ _ _ h => h) (Or.inr ⟨by rfl, rfl⟩) ?_ ?_; rotate_left; · simp only [Act.put, la0, la1, la2, i64_w, i32_w]; rfl
                    refine pure_ (i := 24) (N := some 92) (v := undef) (a' := ?_) #[I,I,I,I,I,I,I,I,I,I,I,I,I,I,I,I,I,I,I,I,I,I,I,I,I,O,O,O,O,O,O,O,O,O,O,O] rfl rfl (by kernel_rfl) (fun _ _ _ h => h) (Or.inr ⟨by rfl, rfl⟩) ?_ ?_; rotate_left; · simp only [Act.put, la0, la1, la2, i64_w, i32_w]; rfl
                    refine pure_ (i := 25) (N := some 93) (v := undef) (a' := ?_) #[I,I,I,I,I,I,I,I,I,I,I,I,I,I,I,I,I,I,I,I,I,I,I,I,I,I,O,O,O,O,O,O,O,O,O,O] rfl rfl (by kernel_rfl) (fun _ _ _ h => h) (Or.inr ⟨by rfl, rfl⟩) ?_ ?_; rotate_left; · simp only [Act.put, la0, la1, la2, i64_w, i32_w]; rfl
                    refine pure_ (i := 26) (N := some 94) (v := undef) (a' := ?_) #[I,I,I,I,I,I,I,I,I,I,I,I,I,I,I,I,I,I,I,I,I,I,I,I,I,I,I,O,O,O,O,O,O,O,O,O] rfl rfl (by kernel_rfl) (fun _ _ _ h => h) (Or.inr ⟨by rfl, rfl⟩) ?_ ?_; rotate_left; · simp only [Act.put, la0, la1, la2, i64_w, i32_w]; rfl
                    refine pure_ (i := 27) (N := some 95) (v := undef) (a' := ?_) #[I,I,I,I,I,I,I,I,I,I,I,I,I,I,I,I,I,I,I,I,I,I,I,I,I,I,I,I,O,O,O,O,O,O,O,O] rfl rfl (by kernel_rfl) (fun _ _ _ h => h) (Or.inr ⟨by rfl, rfl⟩) ?_ ?_; rotate_left; · simp only [Act.put, la0, la1, la2, i64_w, i32_w]; rfl
                    refine pure_ (i := 28) (N := some 96) (v := undef) (a' := ?_) #[I,I,I,I,I,I,I,I,I,I,I,I,I,I,I,I,I,I,I,I,I,I,I,I,I,I,I,I,I,O,O,O,O,O,O,O] rfl rfl (by kernel_rfl) (fun _ _ _ h => h) (Or.inr ⟨by rfl, rfl⟩) ?_ ?_; rotate_left; · simp only [Act.put, la0, la1, la2, i64_w, i32_w]; rfl
                    refine pure_ (i := 29) (N := some 97) (v := undef) (a' := ?_) #[I,I,I,I,I,I,I,I,I,I,I,I,I,I,I,I,I,I,I,I,I,I,I,I,I,I,I,I,I,I,O,O,O,O,O,O] rfl rfl (by kernel_rfl) (fun _ _ _ h => h) (Or.inr ⟨by rfl, rfl⟩) ?_ ?_; rotate_left; · simp only [Act.put, la0, la1, la2, i64_w, i32_w]; rfl
                    refine pure_ (i := 30) (N := some 98) (v := undef) (a' := ?_) #[I,I,I,I,I,I,I,I,I,I,I,I,I,I,I,I,I,I,I,I,I,I,I,I,I,I,I,I,I,I,I,O,O,O,O,O] rfl rfl (by kernel_rfl) (fun _ _ _ h => h) (Or.inr ⟨by rfl, rfl⟩) ?_ ?_; rotate_left; · simp only [Act.put, la0, la1, la2, i64_w, i32_w]; rfl
                    refine pure_ (i := 31) (N := some 99) (v := undef) (a' := ?_) #[I,I,I,I,I,I,I,I,I,I,I,I,I,I,I,I,I,I,I,I,I,I,I,I,I,I,I,I,I,I,I,I,O,O,O,O] rfl rfl (by kernel_rfl) (fun _ _ _ h => h) (Or.inr ⟨by rfl, rfl⟩) ?_ ?_; rotate_left; · simp only [Act.put, la0, la1, la2, i64_w, i32_w]; rfl
                    refine pure_ (i := 32) (N := some 100) (v := undef) (a' := ?_) #[I,I,I,I,I,I,I,I,I,I,I,I,I,I,I,I,I,I,I,I,I,I,I,I,I,I,I,I,I,I,I,I,I,O,O,O] rfl rfl (by kernel_rfl) (fun _ _ _ h => h) (Or.inr ⟨by rfl, rfl⟩) ?_ ?_; rotate_left; · simp only [Act.put, la0, la1, la2, i64_w, i32_w]; rfl
                    refine pure_ (i := 33) (N := some 101) (v := ?_) (a' := ?_) #[I,I,I,I,I,I,I,I,I,I,I,I,I,I,I,I,I,I,I,I,I,I,I,I,I,I,I,I,I,I,I,I,I,I,O,O] rfl rfl (by kernel_rfl) (fun _ _ _ h => h) (Or.inl ⟨by rfl, ?_⟩) ?_ ?_; rotate_left; · intro w'; go_simp; with_reducible rfl
                    rotate_left; · simp only [Act.put, la0, la1, la2, i64_w, i32_w]; rfl
                    refine pure_ (i := 34) (N := some 102) (v := ?_) (a' := ?_) #[I,I,I,I,I,I,I,I,I,I,I,I,I,I,I,I,I,I,I,I,I,I,I,I,I,I,I,I,I,I,I,I,I,I,I,O] rfl rfl (by kernel_rfl) (fun _ _ _ h => h) (Or.inl ⟨by rfl, ?_⟩) ?_ ?_; rotate_left; · intro w'; go_simp; with_reducible rfl
                    rotate_left; · simp only [Act.put, la0, la1, la2, i64_w, i32_w]; rfl
                    refine pure_ (i := 35) (N := some 103) (v := ?_) (a' := ?_) #[I,I,I,I,I,I,I,I,I,I,I,I,I,I,I,I,I,I,I,I,I,I,I,I,I,I,I,I,I,I,I,I,I,I,I,I] rfl rfl (by kernel_rfl) (fun _ _ _ h => h) (Or.inl ⟨by rfl, ?_⟩) ?_ ?_; rotate_left; · intro w'; go_simp; with_reducible rfl
                    rotate_left; · simp only [Act.put, la0, la1, la2, i64_w, i32_w]; rfl
                    refine done_ (by kernel_rfl) ?_
                    go_wp2_with (fail)
                    go_meet; exact ⟨by rw [HB2.out], HI, HB, BKT, BK7, HR⟩
              · have p0 : (e' == 0) = false := beq_eq_false_iff_ne.mpr he
                have hB2 : B = false := by rw [HBB.out, decide_eq_false he]; rfl
                have HB2 := Aside0.mk hB2; clear he hB2; refine start_ (n := 36) (S := fun w' => w'.cell? ⟨g7, 0, none⟩ = some (.int .u32 X.f0.f0) ∧ w'.cell? ⟨g7, 1, none⟩ = some (.int .u8 X.f0.f1) ∧ w'.cell? ⟨gT, 0, none⟩ = some (.slice Ar rows.length cr)) (ds := []) #[O,O,O,O,O,O,O,O,O,O,O,O,O,O,O,O,O,O,O,O,O,O,O,O,O,O,O,O,O,O,O,O,O,O,O,O] (by kernel_rfl) rfl rfl ⟨(blk_cell BK7.out 0).trans rfl, (blk_cell BK7.out 1).trans rfl, (blk_cell BKT.out 0).trans rfl⟩ (fun hHeld => ?_); generalize wc.drew = wz at HI HB BKT BK7 HR hHeld ⊢; refine pure_ (i := 0) (N := some 68) (v := ?_) (a' := ?_) #[I,O,O,O,O,O,O,O,O,O,O,O,O,O,O,O,O,O,O,O,O,O,O,O,O,O,O,O,O,O,O,O,O,O,O,O] rfl rfl (by kernel_rfl) (fun _ _ _ h => h) (Or.inl ⟨by rfl, ?_⟩) ?_ ?_; rotate_left; · intro w'; go_simp; with_reducible rfl
                rotate_left; · simp only [Act.put, la0, la1, la2, i64_w, i32_w]; rfl
                refine one_ (i := 1) (N := some 69) #[I,I,O,O,O,O,O,O,O,O,O,O,O,O,O,O,O,O,O,O,O,O,O,O,O,O,O,O,O,O,O,O,O,O,O,O] rfl rfl (by kernel_rfl) (by decide) (fun K hK => ?_); refine goes_ Try.func31 (by kernel_rfl) rfl #[.pointer (some ⟨gp, 0, none⟩)] (by rfl) rfl rfl (by simp only [List.map_toArray, List.map_cons, List.map_nil]; rfl) ?_
                with_reducible refine (coin_Purse_Fault.calls gp s' e' e' s' e' w _ HI.out HB.out rfl).mono ?_
                rintro e_ wf1 ⟨rfl, hi, hb, hkp⟩; refine ⟨_, rfl, ?_⟩; have n0_ := Aside0.mk (hi); have n1_ := Aside0.mk (hb); have n2_ := Aside0.mk (hkp.blk BKT.out HNE.out (by simp)); have n3_ := Aside0.mk (hkp.blk BK7.out HN7.out (by simp)); have n4_ := Aside0.mk (Kd.R_keep HR.out hkp (fun _ h => h.1)); clear HI HB BKT BK7 HR; have HI := n0_; have HB := n1_; have BKT := n2_; have BK7 := n3_; have HR := n4_; clear n0_ n1_ n2_ n3_ n4_; clear hi hb hkp; refine hK.out _ _ ⟨(blk_cell BK7.out 0).trans rfl, (blk_cell BK7.out 1).trans rfl, (blk_cell BKT.out 0).trans rfl⟩ (fun hHeld => ?_); clear hK K; refine norm_ (a' := ?_) ?_ ?_; rotate_left
                · show Act.put _ (some 69) _ = _
                  simp only [Act.put, la0, la1, la2, i64_w, i32_w]
                  rfl
                refine pure_ (i := 2) (N := some 70) (v := ?_) (a' := ?_) #[I,I,I,O,O,O,O,O,O,O,O,O,O,O,O,O,O,O,O,O,O,O,O,O,O,O,O,O,O,O,O,O,O,O,O,O] rfl rfl (by kernel_rfl) (fun _ _ _ h => h) (Or.inl ⟨by rfl, ?_⟩) ?_ ?_; rotate_left; · intro w'; go_simp; with_reducible rfl
                rotate_left; · simp only [Act.put, la0, la1, la2, i64_w, i32_w]; rfl
                refine pure_ (i := 3) (N := some 71) (v := ?_) (a' := ?_) #[I,I,I,I,O,O,O,O,O,O,O,O,O,O,O,O,O,O,O,O,O,O,O,O,O,O,O,O,O,O,O,O,O,O,O,O] rfl rfl (by kernel_rfl) (fun _ _ _ h => h) (Or.inl ⟨by rfl, ?_⟩) ?_ ?_; rotate_left; · intro w'; go_simp; with_reducible rfl
                rotate_left; · simp only [Act.put, la0, la1, la2, i64_w, i32_w]; rfl
                refine pure_ (i := 4) (N := some 72) (v := undef) (a' := ?_) #[I,I,I,I,I,O,O,O,O,O,O,O,O,O,O,O,O,O,O,O,O,O,O,O,O,O,O,O,O,O,O,O,O,O,O,O] rfl rfl (by kernel_rfl) (fun _ _ _ h => h) (Or.inr ⟨by rfl, rfl⟩) ?_ ?_; rotate_left; · simp only [Act.put, la0, la1, la2, i64_w, i32_w]; rfl
                refine pure_ (i := 5) (N := some 73) (v := undef) (a' := ?_) #[I,I,I,I,I,I,O,O,O,O,O,O,O,O,O,O,O,O,O,O,O,O,O,O,O,O,O,O,O,O,O,O,O,O,O,O] rfl rfl (by kernel_rfl) (fun _ _ _ h => h) (Or.inr ⟨by rfl, rfl⟩) ?_ ?_; rotate_left; · simp only [Act.put, la0, la1, la2, i64_w, i32_w]; rfl
                refine pure_ (i := 6) (N := some 74) (v := undef) (a' := ?_) #[I,I,I,I,I,I,I,O,O,O,O,O,O,O,O,O,O,O,O,O,O,O,O,O,O,O,O,O,O,O,O,O,O,O,O,O] rfl rfl (by kernel_rfl) (fun _ _ _ h => h) (Or.inr ⟨by rfl, rfl⟩) ?_ ?_; rotate_left; · simp only [Act.put, la0, la1, la2, i64_w, i32_w]; rfl
                refine pure_ (i := 7) (N := some 75) (v := undef) (a' := ?_) #[I,I,I,I,I,I,I,I,O,O,O,O,O,O,O,O,O,O,O,O,O,O,O,O,O,O,O,O,O,O,O,O,O,O,O,O] rfl rfl (by kernel_rfl) (fun _ _ _ h => h) (Or.inr ⟨by rfl, rfl⟩) ?_ ?_; rotate_left; · simp only [Act.put, la0, la1, la2, i64_w, i32_w]; rfl
                refine pure_ (i := 8) (N := some 76) (v := undef) (a' := ?_) #[I,I,I,I,I,I,I,I,I,O,O,O,O,O,O,O,O,O,O,O,O,O,O,O,O,O,O,O,O,O,O,O,O,O,O,O] rfl rfl (by kernel_rfl) (fun _ _ _ h => h) (Or.inr ⟨by rfl, rfl⟩) ?_ ?_; rotate_left; · simp only [Act.put, la0, la1, la2, i64_w, i32_w]; rfl
                refine pure_ (i := 9) (N := some 77) (v := undef) (a' := ?_) #[I,I,I,I,I,I,I,I,I,I,O,O,O,O,O,O,O,O,O,O,O,O,O,O,O,O,O,O,O,O,O,O,O,O,O,O] rfl rfl (by kernel_rfl) (fun _ _ _ h => h) (Or.inr ⟨by rfl, rfl⟩) ?_ ?_; rotate_left; · simp only [Act.put, la0, la1, la2, i64_w, i32_w]; rfl
                refine pure_ (i := 10) (N := some 78) (v := undef) (a' := ?_) #[I,I,I,I,I,I,I,I,I,I,I,O,O,O,O,O,O,O,O,O,O,O,O,O,O,O,O,O,O,O,O,O,O,O,O,O] rfl rfl (by kernel_rfl) (fun _ _ _ h => h) (Or.inr ⟨by rfl, rfl⟩) ?_ ?_; rotate_left; · simp only [Act.put, la0, la1, la2, i64_w, i32_w]; rfl
                refine pure_ (i := 11) (N := some 79) (v := undef) (a' := ?_) #[I,I,I,I,I,I,I,I,I,I,I,I,O,O,O,O,O,O,O,O,O,O,O,O,O,O,O,O,O,O,O,O,O,O,O,O] rfl rfl (by kernel_rfl) (fun _ _ _ h => h) (Or.inr ⟨by rfl, rfl⟩) ?_ ?_; rotate_left; · simp only [Act.put, la0, la1, la2, i64_w, i32_w]; rfl
                refine pure_ (i := 12) (N := some 80) (v := undef) (a' := ?_) #[I,I,I,I,I,I,I,I,I,I,I,I,I,O,O,O,O,O,O,O,O,O,O,O,O,O,O,O,O,O,O,O,O,O,O,O] rfl rfl (by kernel_rfl) (fun _ _ _ h => h) (Or.inr ⟨by rfl, rfl⟩) ?_ ?_; rotate_left; · simp only [Act.put, la0, la1, la2, i64_w, i32_w]; rfl
                refine pure_ (i := 13) (N := some 81) (v := undef) (a' := ?_) #[I,I,I,I,I,I,I,I,I,I,I,I,I,I,O,O,O,O,O,O,O,O,O,O,O,O,O,O,O,O,O,O,O,O,O,O] rfl rfl (by kernel_rfl) (fun _ _ _ h => h) (Or.inr ⟨by rfl, rfl⟩) ?_ ?_; rotate_left; · simp only [Act.put, la0, la1, la2, i64_w, i32_w]; rfl
                refine pure_ (i := 14) (N := some 82) (v := undef) (a' := ?_) #[I,I,I,I,I,I,I,I,I,I,I,I,I,I,I,O,O,O,O,O,O,O,O,O,O,O,O,O,O,O,O,O,O,O,O,O] rfl rfl (by kernel_rfl) (fun _ _ _ h => h) (Or.inr ⟨by rfl, rfl⟩) ?_ ?_; rotate_left; · simp only [Act.put, la0, la1, la2, i64_w, i32_w]; rfl
                refine pure_ (i := 15) (N := some 83) (v := undef) (a' := ?_) #[I,I,I,I,I,I,I,I,I,I,I,I,I,I,I,I,O,O,O,O,O,O,O,O,O,O,O,O,O,O,O,O,O,O,O,O] rfl rfl (by kernel_rfl) (fun _ _ _ h => h) (Or.inr ⟨by rfl, rfl⟩) ?_ ?_; rotate_left; · simp only [Act.put, la0, la1, la2, i64_w, i32_w]; rfl
                refine pure_ (i := 16) (N := some 84) (v := undef) (a' := ?_) #[I,I,I,I,I,I,I,I,I,I,I,I,I,I,I,I,I,O,O,O,O,O,O,O,O,O,O,O,O,O,O,O,O,O,O,O] rfl rfl (by kernel_rfl) (fun _ _ _ h => h) (Or.inr ⟨by rfl, rfl⟩) ?_ ?_; rotate_left; · simp only [Act.put, la0, la1, la2, i64_w, i32_w]; rfl
                refine pure_ (i := 17) (N := some 85) (v := undef) (a' := ?_) #[I,I,I,I,I,I,I,I,I,I,I,I,I,I,I,I,I,I,O,O,O,O,O,O,O,O,O,O,O,O,O,O,O,O,O,O] rfl rfl (by kernel_rfl) (fun _ _ _ h => h) (Or.inr ⟨by rfl, rfl⟩) ?_ ?_; rotate_left; · simp only [Act.put, la0, la1, la2, i64_w, i32_w]; rfl
                refine pure_ (i := 18) (N := some 86) (v := undef) (a' := ?_) #[I,I,I,I,I,I,I,I,I,I,I,I,I,I,I,I,I,I,I,O,O,O,O,O,O,O,O,O,O,O,O,O,O,O,O,O] rfl rfl (by kernel_rfl) (fun _ _ _ h => h) (Or.inr ⟨by rfl, rfl⟩) ?_ ?_; rotate_left; · simp only [Act.put, la0, la1, la2, i64_w, i32_w]; rfl
                refine pure_ (i := 19) (N := some 87) (v := undef) (a' := ?_) #[I,I,I,I,I,I,I,I,I,I,I,I,I,I,I,I,I,I,I,I,O,O,O,O,O,O,O,O,O,O,O,O,O,O,O,O] rfl rfl (by kernel_rfl) (fun _ _ _ h => h) (Or.inr ⟨by rfl, rfl⟩) ?_ ?_; rotate_left; · simp only [Act.put, la0, la1, la2, i64_w, i32_w]; rfl
                refine pure_ (i := 20) (N := some 88) (v := undef) (a' := ?_) #[I,I,I,I,I,I,I,I,I,I,I,I,I,I,I,I,I,I,I,I,I,O,O,O,O,O,O,O,O,O,O,O,O,O,O,O] rfl rfl (by kernel_rfl) (fun _ _ _ h => h) (Or.inr ⟨by rfl, rfl⟩) ?_ ?_; rotate_left; · simp only [Act.put, la0, la1, la2, i64_w, i32_w]; rfl
                refine pure_ (i := 21) (N := some 89) (v := undef) (a' := ?_) #[I,I,I,I,I,I,I,I,I,I,I,I,I,I,I,I,I,I,I,I,I,I,O,O,O,O,O,O,O,O,O,O,O,O,O,O] rfl rfl (by kernel_rfl) (fun _ _ _ h => h) (Or.inr ⟨by rfl, rfl⟩) ?_ ?_; rotate_left; · simp only [Act.put, la0, la1, la2, i64_w, i32_w]; rfl
                refine pure_ (i := 22) (N := some 90) (v := undef) (a' := ?_) #[I,I,I,I,I,I,I,I,I,I,I,I,I,I,I,I,I,I,I,I,I,I,I,O,O,O,O,O,O,O,O,O,O,O,O,O] rfl rfl (by kernel_rfl) (fun _ _ _ h => h) (Or.inr ⟨by rfl, rfl⟩) ?_ ?_; rotate_left; · simp only [Act.put, la0, la1, la2, i64_w, i32_w]; rfl
                refine pure_ (i := 23) (N := some 91) (v := undef) (a' := ?_) #[I,I,I,I,I,I,I,I,I,I,I,I,I,I,I,I,I,I,I,I,I,I,I,I,O,O,O,O,O,O,O,O,O,O,O,O] rfl rfl (by kernel_rfl) (fun _ _ _ h => h) (Or.inr ⟨by rfl, rfl⟩) ?_ ?_; rotate_left; · simp only [Act.put, la0, la1, la2, i64_w, i32_w]; rfl
                refine pure_ (i := 24) (N := some 92) (v := undef) (a' := ?_) #[I,I,I,I,I,I,I,I,I,I,I,I,I,I,I,I,I,I,I,I,I,I,I,I,I,O,O,O,O,O,O,O,O,O,O,O] rfl rfl (by kernel_rfl) (fun _ _ _ h => h) (Or.inr ⟨by rfl, rfl⟩) ?_ ?_; rotate_left; · simp only [Act.put, la0, la1, la2, i64_w, i32_w]; rfl
                refine pure_ (i := 25) (N := some 93) (v := undef) (a' := ?_) #[I,I,I,I,I,I,I,I,I,I,I,I,I,I,I,I,I,I,I,I,I,I,I,I,I,I,O,O,O,O,O,O,O,O,O,O] rfl rfl (by kernel_rfl) (fun _ _ _ h => h) (Or.inr ⟨by rfl, rfl⟩) ?_ ?_; rotate_left; · simp only [Act.put, la0, la1, la2, i64_w, i32_w]; rfl
                refine pure_ (i := 26) (N := some 94) (v := undef) (a' := ?_) #[I,I,I,I,I,I,I,I,I,I,I,I,I,I,I,I,I,I,I,I,I,I,I,I,I,I,I,O,O,O,O,O,O,O,O,O] rfl rfl (by kernel_rfl) (fun _ _ _ h => h) (Or.inr ⟨by rfl, rfl⟩) ?_ ?_; rotate_left; · simp only [Act.put, la0, la1, la2, i64_w, i32_w]; rfl
                refine pure_ (i := 27) (N := some 95) (v := undef) (a' := ?_) #[I,I,I,I,I,I,I,I,I,I,I,I,I,I,I,I,I,I,I,I,I,I,I,I,I,I,I,I,O,O,O,O,O,O,O,O] rfl rfl (by kernel_rfl) (fun _ _ _ h => h) (Or.inr ⟨by rfl, rfl⟩) ?_ ?_; rotate_left; · simp only [Act.put, la0, la1, la2, i64_w, i32_w]; rfl
                refine pure_ (i := 28) (N := some 96) (v := undef) (a' := ?_) #[I,I,I,I,I,I,I,I,I,I,I,I,I,I,I,I,I,I,I,I,I,I,I,I,I,I,I,I,I,O,O,O,O,O,O,O] rfl rfl (by kernel_rfl) (fun _ _ _ h => h) (Or.inr ⟨by rfl, rfl⟩) ?_ ?_; rotate_left; · simp only [Act.put, la0, la1, la2, i64_w, i32_w]; rfl
                refine pure_ (i := 29) (N := some 97) (v := undef) (a' := ?_) #[I,I,I,I,I,I,I,I,I,I,I,I,I,I,I,I,I,I,I,I,I,I,I,I,I,I,I,I,I,I,O,O,O,O,O,O] rfl rfl (by kernel_rfl) (fun _ _ _ h => h) (Or.inr ⟨by rfl, rfl⟩) ?_ ?_; rotate_left; · simp only [Act.put, la0, la1, la2, i64_w, i32_w]; rfl
                refine pure_ (i := 30) (N := some 98) (v := undef) (a' := ?_) #[I,I,I,I,I,I,I,I,I,I,I,I,I,I,I,I,I,I,I,I,I,I,I,I,I,I,I,I,I,I,I,O,O,O,O,O] rfl rfl (by kernel_rfl) (fun _ _ _ h => h) (Or.inr ⟨by rfl, rfl⟩) ?_ ?_; rotate_left; · simp only [Act.put, la0, la1, la2, i64_w, i32_w]; rfl
                refine pure_ (i := 31) (N := some 99) (v := undef) (a' := ?_) #[I,I,I,I,I,I,I,I,I,I,I,I,I,I,I,I,I,I,I,I,I,I,I,I,I,I,I,I,I,I,I,I,O,O,O,O] rfl rfl (by kernel_rfl) (fun _ _ _ h => h) (Or.inr ⟨by rfl, rfl⟩) ?_ ?_; rotate_left; · simp only [Act.put, la0, la1, la2, i64_w, i32_w]; rfl
                refine pure_ (i := 32) (N := some 100) (v := undef) (a' := ?_) #[I,I,I,I,I,I,I,I,I,I,I,I,I,I,I,I,I,I,I,I,I,I,I,I,I,I,I,I,I,I,I,I,I,O,O,O] rfl rfl (by kernel_rfl) (fun _ _ _ h => h) (Or.inr ⟨by rfl, rfl⟩) ?_ ?_; rotate_left; · simp only [Act.put, la0, la1, la2, i64_w, i32_w]; rfl
                refine pure_ (i := 33) (N := some 101) (v := undef) (a' := ?_) #[I,I,I,I,I,I,I,I,I,I,I,I,I,I,I,I,I,I,I,I,I,I,I,I,I,I,I,I,I,I,I,I,I,I,O,O] rfl rfl (by kernel_rfl) (fun _ _ _ h => h) (Or.inr ⟨by rfl, rfl⟩) ?_ ?_; rotate_left; · simp only [Act.put, la0, la1, la2, i64_w, i32_w]; rfl
                refine pure_ (i := 34) (N := some 102) (v := undef) (a' := ?_) #[I,I,I,I,I,I,I,I,I,I,I,I,I,I,I,I,I,I,I,I,I,I,I,I,I,I,I,I,I,I,I,I,I,I,I,O] rfl rfl (by kernel_rfl) (fun _ _ _ h => h) (Or.inr ⟨by rfl, rfl⟩) ?_ ?_; rotate_left; · simp only [Act.put, la0, la1, la2, i64_w, i32_w]; rfl
                refine pure_ (i := 35) (N := some 103) (v := ?_) (a' := ?_) #[I,I,I,I,I,I,I,I,I,I,I,I,I,I,I,I,I,I,I,I,I,I,I,I,I,I,I,I,I,I,I,I,I,I,I,I] rfl rfl (by kernel_rfl) (fun _ _ _ h => h) (Or.inl ⟨by rfl, ?_⟩) ?_ ?_; rotate_left; · intro w'; go_simp; with_reducible rfl
                rotate_left; · simp only [Act.put, la0, la1, la2, i64_w, i32_w]; rfl
                refine done_ (by kernel_rfl) ?_
                go_wp2_with (fail)
                go_meet; exact ⟨by rw [HB2.out], HI, HB, BKT, BK7, HR⟩
            case rest =>
              clear HI HB BKT BK7 HR HRI; obtain ⟨rfl, HI, HB, BKT, BK7, HR⟩ := hcut; cases B
              · have HF2 := Aside0.mk (table_Decode.go_on HF.out HBB.out)
                have HS2 := Aside0.mk (show e' = 0 → rowSrt (rows ++ [X]) from fun h => table_Decode.srt_snoc (HS.out (by trivial)) (table_Decode.low_no h HBB.out)); clear HF HBB HS
                go_upto_region 14 with (fail)
                have n0_ := Aside0.mk (IsS96.drew HI.out); have n1_ := Aside0.mk (below_drew1 HB.out); have n2_ := Aside0.mk (blk_drew BKT.out); have n3_ := Aside0.mk (blk_drew BK7.out); have n4_ := Aside0.mk (Kd.R_drew HR.out); clear HI HB BKT BK7 HR; have HI := n0_; have HB := n1_; have BKT := n2_; have BK7 := n3_; have HR := n4_; clear n0_ n1_ n2_ n3_ n4_; refine start_ (n := 11) (S := fun w' => w'.cell? ⟨gT, 0, none⟩ = some (.slice Ar rows.length cr) ∧ w'.cell? ⟨g7, 0, none⟩ = some (.int .u32 X.f0.f0) ∧ w'.cell? ⟨g7, 1, none⟩ = some (.int .u8 X.f0.f1) ∧ w'.cell? ⟨g7, 2, none⟩ = some (.bool X.f1) ∧ w'.cell? ⟨g7, 3, none⟩ = some (.int .u32 X.f2.f0.f0) ∧ w'.cell? ⟨g7, 4, none⟩ = some (.int .u8 X.f2.f0.f1) ∧ w'.cell? ⟨g7, 5, none⟩ = some (.int .i64 X.f2.f1) ∧ w'.cell? ⟨g7, 6, none⟩ = some (.int .u16 X.f2.f2) ∧ w'.cell? ⟨g7, 7, none⟩ = some (.int .u16 X.f2.f3) ∧ w'.cell? ⟨g7, 8, none⟩ = some (.int .u16 X.f3.f0) ∧ w'.cell? ⟨g7, 9, none⟩ = some (.int .u16 X.f3.f1)) (ds := [10]) #[O,O,O,O,O,O,O,O,O,O,O] (by kernel_rfl) rfl rfl ⟨(blk_cell (BKT.out) 0).trans rfl, (blk_cell (BK7.out) 0).trans rfl, (blk_cell (BK7.out) 1).trans rfl, (blk_cell (BK7.out) 2).trans rfl, (blk_cell (BK7.out) 3).trans rfl, (blk_cell (BK7.out) 4).trans rfl, (blk_cell (BK7.out) 5).trans rfl, (blk_cell (BK7.out) 6).trans rfl, (blk_cell (BK7.out) 7).trans rfl, (blk_cell (BK7.out) 8).trans rfl, (blk_cell (BK7.out) 9).trans rfl⟩ (fun hHeld => ?_); generalize wc.drew = wz at HI HB BKT BK7 HR hHeld ⊢; refine pure_ (i := 0) (N := some 104) (v := ?_) (a' := ?_) #[I,O,O,O,O,O,O,O,O,O,O] rfl rfl (by kernel_rfl) (fun _ _ _ h => h) (Or.inl ⟨by rfl, ?_⟩) ?_ ?_; rotate_left; · intro w'; go_simp; with_reducible rfl
                rotate_left; · simp only [Act.put, la0, la1, la2, i64_w, i32_w]; rfl
                refine pure_ (i := 1) (N := some 105) (v := ?_) (a' := ?_) #[I,I,O,O,O,O,O,O,O,O,O] rfl rfl (by kernel_rfl) (fun _ _ _ h => h) (Or.inl ⟨by rfl, ?_⟩) ?_ ?_; rotate_left; · intro w'; go_simp; with_reducible rfl
                rotate_left; · simp only [Act.put, la0, la1, la2, i64_w, i32_w]; rfl
                refine pure_ (i := 2) (N := some 106) (v := ?_) (a' := ?_) #[I,I,I,O,O,O,O,O,O,O,O] rfl rfl (by kernel_rfl) (fun _ _ _ h => h) (Or.inl ⟨by rfl, ?_⟩) ?_ ?_; rotate_left; · intro w'; go_simp; with_reducible rfl
                rotate_left; · simp only [Act.put, la0, la1, la2, i64_w, i32_w]; rfl
                refine pure_ (i := 3) (N := some 107) (v := ?_) (a' := ?_) #[I,I,I,I,O,O,O,O,O,O,O] rfl rfl (by kernel_rfl) (fun _ _ _ h => h) (Or.inl ⟨by rfl, ?_⟩) ?_ ?_; rotate_left; · intro w'; go_simp; with_reducible rfl
                rotate_left; · simp only [Act.put, la0, la1, la2, i64_w, i32_w]; rfl
                refine take_ (i := 4) (N := some 108) (v := ?_) (a' := ?_) #[I,I,I,I,I,O,O,O,O,O,O] rfl rfl (by kernel_rfl) (fun _ _ _ h => h) (Or.inl ⟨by rfl, ?_⟩) hHeld ?_ ?_; rotate_left; · rintro w' ⟨s0, s1, s2, s3, s4, s5, s6, s7, s8, s9, s10⟩; go_simp; with_reducible rfl
                rotate_left; · simp only [Act.put, la0, la1, la2, i64_w, i32_w]; rfl
                refine take_ (i := 5) (N := some 109) (v := ?_) (a' := ?_) #[I,I,I,I,I,I,O,O,O,O,O] rfl rfl (by kernel_rfl) (fun _ _ _ h => h) (Or.inl ⟨by rfl, ?_⟩) hHeld ?_ ?_; rotate_left; · rintro w' ⟨s0, s1, s2, s3, s4, s5, s6, s7, s8, s9, s10⟩; go_simp; with_reducible rfl
                rotate_left; · simp only [Act.put, la0, la1, la2, i64_w, i32_w]; rfl
                refine one_ (i := 6) (N := some 110) #[I,I,I,I,I,I,I,O,O,O,O] rfl rfl (by kernel_rfl) (by decide) (fun K hK => ?_); refine value_ (w1 := ?_) (v := ?_) (by rfl) rfl ?_ ?_; rotate_left 2
                · go_simp
                  constructor
                  · rfl
                  · rfl
                refine hK.out _ _ ⟨(blk_cell (blk_alloc BKT.out _) 0).trans rfl, (blk_cell (blk_alloc BK7.out _) 0).trans rfl, (blk_cell (blk_alloc BK7.out _) 1).trans rfl, (blk_cell (blk_alloc BK7.out _) 2).trans rfl, (blk_cell (blk_alloc BK7.out _) 3).trans rfl, (blk_cell (blk_alloc BK7.out _) 4).trans rfl, (blk_cell (blk_alloc BK7.out _) 5).trans rfl, (blk_cell (blk_alloc BK7.out _) 6).trans rfl, (blk_cell (blk_alloc BK7.out _) 7).trans rfl, (blk_cell (blk_alloc BK7.out _) 8).trans rfl, (blk_cell (blk_alloc BK7.out _) 9).trans rfl⟩ (fun hHeld => ?_); clear hK K; refine norm_ (a' := ?_) ?_ ?_; rotate_left
                · show Act.put _ (some 110) _ = _
                  simp only [Act.put, la0, la1, la2, i64_w, i32_w]
                  rfl
                refine one_ (i := 7) (N := some 111) #[I,I,I,I,I,I,I,I,O,O,O] rfl rfl (by kernel_rfl) (by decide) (fun K hK => ?_); refine Kd.R_append_step k43 (w0 := w) w.heap.size (by rfl) (.tmp 108) (.tmp 110) 48 43 (.agg #[.int .u32 0, .int .u8 0, .bool false, .int .u32 0, .int .u8 0, .int .i64 0, .int .u16 0, .int .u16 0, .int .u16 0, .int .u16 0]) 48 rfl Try.underlying48 (by kernel_rfl) rfl (by decide) (by omega) (.slice Ar rows.length cr) rows X [.int .u32 X.f0.f0, .int .u8 X.f0.f1, .bool X.f1, .int .u32 X.f2.f0.f0, .int .u8 X.f2.f0.f1, .int .i64 X.f2.f1, .int .u16 X.f2.f2, .int .u16 X.f2.f3, .int .u16 X.f3.f0, .int .u16 X.f3.f1] (fun k_ => k_ ≠ gp) (fun _ => False) rfl rfl (k43_mkM _ _ _ X) (fun _ h => h.elim) (fun k_ hk => by have := HI.out.lt; omega) (Kd.R_mono HR.out (fun _ h => h.1)) HB.out HB.out.size (by omega) ?_; intro v1_ w1 hR1 hb1 hg1 _
                obtain ⟨A1, n1, c1, rfl⟩ : ∃ A1 n1 c1, v1_ = .slice A1 n1 c1 := by obtain ⟨A1, c1, e1, _, _⟩ := Kd.R_reads hR1; exact ⟨A1, _, c1, e1⟩
                have ok_ := HR.out.1; have n0_ := Aside0.mk (IsS96.grown HI.out hg1 (fun h => (ok_ gp h.symm).1 rfl)); have n1_ := Aside0.mk (blk_grown BKT.out hg1 (Kd.R_ne HR.out BKT.out (by decide))); have n2_ := Aside0.mk (blk_grown BK7.out hg1 (fun h => (ok_ g7 h.symm).2 rfl)); have n3_ := Aside0.mk (hb1); clear HI BKT BK7 HB; have HI := n0_; have BKT := n1_; have BK7 := n2_; have HB := n3_; clear n0_ n1_ n2_ n3_; clear HR ok_ hg1 hb1
                have HR := Aside0.mk (show Kd.R k43 43 w1 w.heap.size (fun k_ => k_ ≠ gp ∧ k_ ≠ gT) (.slice A1 n1 c1) (rows ++ [X]) from Kd.R_types hR1 BKT.out (fun q hq => by
                  have hq2 : q = 43 := List.mem_singleton.1 (show q ∈ [43] from hq); subst hq2
                  decide))
                clear hR1; refine hK.out _ _ ⟨(blk_cell (BKT.out) 0).trans rfl, (blk_cell (BK7.out) 0).trans rfl, (blk_cell (BK7.out) 1).trans rfl, (blk_cell (BK7.out) 2).trans rfl, (blk_cell (BK7.out) 3).trans rfl, (blk_cell (BK7.out) 4).trans rfl, (blk_cell (BK7.out) 5).trans rfl, (blk_cell (BK7.out) 6).trans rfl, (blk_cell (BK7.out) 7).trans rfl, (blk_cell (BK7.out) 8).trans rfl, (blk_cell (BK7.out) 9).trans rfl⟩ (fun hHeld => ?_); clear hK K; refine norm_ (a' := ?_) ?_ ?_; rotate_left
                · show Act.put _ (some 111) _ = _
                  simp only [Act.put, la0, la1, la2, i64_w, i32_w]
                  rfl
                refine pure_ (i := 8) (N := some 112) (v := ?_) (a' := ?_) #[I,I,I,I,I,I,I,I,I,O,O] rfl rfl (by kernel_rfl) (fun _ _ _ h => h) (Or.inl ⟨by rfl, ?_⟩) ?_ ?_; rotate_left; · intro w'; go_simp; with_reducible rfl
                rotate_left; · simp only [Act.put, la0, la1, la2, i64_w, i32_w]; rfl
                refine pure_ (i := 9) (N := some 113) (v := ?_) (a' := ?_) #[I,I,I,I,I,I,I,I,I,I,O] rfl rfl (by kernel_rfl) (fun _ _ _ h => h) (Or.inl ⟨by rfl, ?_⟩) ?_ ?_; rotate_left; · intro w'; go_simp; with_reducible rfl
                rotate_left; · simp only [Act.put, la0, la1, la2, i64_w, i32_w]; rfl
                refine last_ (i := 10) (N := none) #[I,I,I,I,I,I,I,I,I,I,I] rfl rfl (by kernel_rfl) (by decide) (fun K hK => ?_); have y0 := blk_frozen BKT.out 0; have hg0 : w1.cell? ⟨gT, 0, none⟩ = some (.slice Ar rows.length cr) := (blk_cell BKT.out 0).trans rfl; refine skip_ (w1 := ?_) (by rfl) rfl ?_ ?_; rotate_left; · go_simp; rfl
                clear y0 hg0; have n0_ := Aside0.mk (HI.out.far (p := ⟨gT, 0, none⟩) (fun h => HNE.out h.symm) (.slice A1 n1 c1)); have n1_ := Aside0.mk (below_set (j := 0) (v := .slice A1 n1 c1) HB.out GET.out); have n2_ := Aside0.mk (blk_put (cs' := #[.slice A1 n1 c1, .int .u64 no, .int .u64 tm]) BKT.out 0 (.slice A1 n1 c1) rfl); have n3_ := Aside0.mk (Kd.R_mono (Kd.R_keep HR.out (KeepBut.set_ (KeepBut.refl w1 gT none) 0 (.slice A1 n1 c1)) (fun _ h => h.2)) (fun _ h => h.1)); clear HI HB BKT HR; have HI := n0_; have HB := n1_; have BKT := n2_; have HR := n3_; clear n0_ n1_ n2_ n3_; refine hK.out _ _ ?_; clear hK K; refine done_ (by kernel_rfl) ?_; clear hHeld
                go_wp2_with (fail)
                go_roundg k1
                case measure => omega
                case rel => exact ⟨n - 1, s', e', rows ++ [X], .slice A1 n1 c1, rfl, by omega, by rw [List.length_append]; simp only [List.length_cons, List.length_nil]; omega, HI, HB, BKT, HR, HS2, HF2⟩
              · obtain ⟨rfl, rfl⟩ := table_Decode.stop HF.out HBB.out
                go_wp2_with (fail)
                go_ret2
                exact ⟨rfl, HB.out⟩
        · rw [if_neg (fun q => he q.2)] at hf
          have p1 : (e == 0) = false := beq_eq_false_iff_ne.mpr he; clear HF he; obtain ⟨⟨z, z2, z3⟩, hz, hf1⟩ := Option.bind_eq_some_iff.mp hf; have HZ := Aside0.mk hz; have HF1 := Aside0.mk (show (if z = 0 then some (some rows, 0) else some (none, z)) = some (ro, rr) from hf1); clear hf hf1 hz
          go_wp2_with (fail)
          refine (coin_Purse_End.calls gp s e z z2 z3 w _ HI.out HB.out HZ.out).mono ?_; rintro e_ wy ⟨rfl, hi, hb, hkp⟩; have n0_ := Aside0.mk (hi); have n1_ := Aside0.mk (hb); have n2_ := Aside0.mk (hkp.blk BKT.out HNE.out (by simp)); have n3_ := Aside0.mk (Kd.R_keep HR.out hkp (fun _ h => h)); clear HI HB BKT HR; have HI := n0_; have HB := n1_; have BKT := n2_; have HR := n3_; clear n0_ n1_ n2_ n3_; clear hi hb hkp
          by_cases hz0 : z = 0
          · have hf1 := HF1.out
            rw [if_pos hz0] at hf1; have hx := Option.some.inj hf1
            simp only [Prod.mk.injEq] at hx
            obtain ⟨rfl, rfl⟩ := hx; have he0 := table_Decode.end_0 (by rw [hz0] at HZ; exact HZ.out); have HS3 := Aside0.mk (HS.out he0); have p2 : (z != 0) = false := bne_eq_false_iff_eq.mpr hz0; clear hz0 hf1 HF1 HZ HS he0
            go_wp2_with (fail)
            go_ret2
            exact ⟨⟨gT, rfl, v, BKT.out, GET.out, Kd.R_mono HR.out (fun _ _ => trivial), HS3.out, (show rows.length ≤ 256 from by omega)⟩, HB.out⟩
          · have hf1 := HF1.out
            rw [if_neg hz0] at hf1; have hx := Option.some.inj hf1
            simp only [Prod.mk.injEq] at hx
            obtain ⟨rfl, rfl⟩ := hx; have p2 : (z != 0) = true := bne_iff_ne.mpr hz0; clear hz0 hf1 HF1 HZ
            go_wp2_with (fail)
            go_ret2
            exact ⟨rfl, HB.out⟩
      · have q1 : decide (n > 0) = false := decide_eq_false hn
        have q2 : decide (0 < n) = false := decide_eq_false hn; rw [if_neg (fun q => hn q.1)] at hf; clear HF; obtain ⟨⟨z, z2, z3⟩, hz, hf1⟩ := Option.bind_eq_some_iff.mp hf; have HZ := Aside0.mk hz; have HF1 := Aside0.mk (show (if z = 0 then some (some rows, 0) else some (none, z)) = some (ro, rr) from hf1); clear hf hf1 hz
        go_wp2_with (fail)
        refine (coin_Purse_End.calls gp s e z z2 z3 w _ HI.out HB.out HZ.out).mono ?_; rintro e_ wy ⟨rfl, hi, hb, hkp⟩; have n0_ := Aside0.mk (hi); have n1_ := Aside0.mk (hb); have n2_ := Aside0.mk (hkp.blk BKT.out HNE.out (by simp)); have n3_ := Aside0.mk (Kd.R_keep HR.out hkp (fun _ h => h)); clear HI HB BKT HR; have HI := n0_; have HB := n1_; have BKT := n2_; have HR := n3_; clear n0_ n1_ n2_ n3_; clear hi hb hkp
        by_cases hz0 : z = 0
        · have hf1 := HF1.out
          rw [if_pos hz0] at hf1; have hx := Option.some.inj hf1
          simp only [Prod.mk.injEq] at hx
          obtain ⟨rfl, rfl⟩ := hx; have he0 := table_Decode.end_0 (by rw [hz0] at HZ; exact HZ.out); have HS3 := Aside0.mk (HS.out he0); have p2 : (z != 0) = false := bne_eq_false_iff_eq.mpr hz0; clear hz0 hf1 HF1 HZ HS he0
          go_wp2_with (fail)
          go_ret2
          exact ⟨⟨gT, rfl, v, BKT.out, GET.out, Kd.R_mono HR.out (fun _ _ => trivial), HS3.out, (show rows.length ≤ 256 from by omega)⟩, HB.out⟩
        · have hf1 := HF1.out
          rw [if_neg hz0] at hf1; have hx := Option.some.inj hf1
          simp only [Prod.mk.injEq] at hx
          obtain ⟨rfl, rfl⟩ := hx; have p2 : (z != 0) = true := bne_iff_ne.mpr hz0; clear hz0 hf1 HF1 HZ
          go_wp2_with (fail)
          go_ret2
          exact ⟨rfl, HB.out⟩

end Go.Proofs.Ytmkjgiejnlmncaa.QTableParts
