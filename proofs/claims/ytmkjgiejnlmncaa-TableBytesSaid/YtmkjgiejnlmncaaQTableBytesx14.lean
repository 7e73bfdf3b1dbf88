-- Lines by a program of this session, for this claim.
import Derived.Test.YtmkjgiejnlmncaaQTableBytesx0
import Derived.Test.YtmkjgiejnlmncaaQTableBytesx4
import Derived.Test.YtmkjgiejnlmncaaQTableBytesx5
import Derived.Test.YtmkjgiejnlmncaaQTableBytesx12
import Derived.Test.YtmkjgiejnlmncaaQTableBytesx13
namespace Go.Proofs.Ytmkjgiejnlmncaa.QTableBytes
open Go.RowKit Go.Proofs.YtmkjgiejnlmncaaW.PrintWords Go.Proofs.YtmkjgiejnlmncaaW.PrintLast Go.Proofs.YtmkjgiejnlmncaaW.PrintMore
attribute [local go_sem] max2_int min2_int max_two min_two max_three min_three max_four min_four   -- for this text's walks alone
set_option linter.unusedVariables false
set_option linter.unusedSimpArgs false

/-! ### table_Decode: function 19 -/
def table_Decode.tk (k : Nat) (s : List Int) (e a : Int) : Option (Int × List Int × Int) := (coin_Purse_Take.f k s e a).bind fun x => if 0 ≤ x.1 ∧ x.1 ≤ a then some x else none
theorem table_Decode.tk_is {k : Nat} {s : List Int} {e a : Int} {n : Int} {s' : List Int} {e' : Int} (h : table_Decode.tk k s e a = some (n, s', e')) : coin_Purse_Take.f k s e a = some (n, s', e') ∧ 0 ≤ n ∧ n ≤ a := by
 obtain ⟨y, h1, h2⟩ := Option.bind_eq_some_iff.mp h
 by_cases c : 0 ≤ y.1 ∧ y.1 ≤ a
 · rw [if_pos c] at h2; obtain rfl := Option.some.inj h2; exact ⟨h1, c⟩
 · rw [if_neg c] at h2; cases h2
def table_Decode.rest (k : Nat) (a b c d v : Int) (s : List Int) (e : Int) : Option (S43 × List Int × Int) :=
 if 0 < v then (table_Decode.tk k s e 65534).bind fun m => (table_Decode.tk k m.2.1 m.2.2 65535).bind fun q => some (⟨⟨a, b⟩, true, ⟨⟨a, b⟩, v - 1, m.1, q.1⟩, ⟨c, d⟩⟩, q.2.1, q.2.2)
 else some (⟨⟨a, b⟩, false, ⟨⟨a, b⟩, 0, 0, 0⟩, ⟨c, d⟩⟩, s, e)
def table_Decode.row (k : Nat) (s : List Int) (e : Int) : Option (S43 × List Int × Int) :=
 (table_Decode.tk k s e 4294967295).bind fun a => (table_Decode.tk k a.2.1 a.2.2 32).bind fun b => (table_Decode.tk k b.2.1 b.2.2 65535).bind fun c => (table_Decode.tk k c.2.1 c.2.2 65534).bind fun d => (table_Decode.tk k d.2.1 d.2.2 16).bind fun v => table_Decode.rest k a.1 b.1 c.1 d.1 v.1 v.2.1 v.2.2
/-- doesn't a row stand behind the last one -/
def table_Decode.low (rows : List S43) (X : S43) : Bool := decide (0 < rows.length) && decide (0 ≤ cmpI (rd_T43 rows ((rows.length - 1 : Nat) : Int)).f0.f0 (rd_T43 rows ((rows.length - 1 : Nat) : Int)).f0.f1 X.f0.f0 X.f0.f1)
def table_Decode.loop (k : Nat) : Nat → Int → List Int → Int → List S43 → Option (Option (List S43) × Int)
 | 0, _, _, _, _ => none
 | j + 1, n, s, e, rows => if 0 < n ∧ e = 0 then (table_Decode.row k s e).bind fun x => (prefix_Right.f x.1.f0.f0 x.1.f0.f1).bind fun rt =>
  if x.2.2 = 0 ∧ (rt = false ∨ table_Decode.low rows x.1 = true) then some (none, 4) else table_Decode.loop k j (n - 1) x.2.1 x.2.2 (rows ++ [x.1])
  else (coin_Purse_End.f s e).bind fun z => if z.1 = 0 then some (some rows, 0) else some (none, z.1)
def table_Decode.f (k : Nat) (l : List Int) : Option (Option (List S43 × Int × Int) × Int) :=
 (table_Decode.tk k l 0 18446744073709551615).bind fun a => (table_Decode.tk k a.2.1 a.2.2 18446744073709551615).bind fun b => (table_Decode.tk k b.2.1 b.2.2 256).bind fun c => (table_Decode.loop k 300 c.1 c.2.1 c.2.2 []).bind fun z => some (z.1.map (fun r => (r, a.1, b.1)), z.2)
theorem table_Decode.go_on {k k1 : Nat} {n : Int} {s' : List Int} {e' : Int} {rows : List S43} {X : S43} {rt : Bool} {z : Option (List S43) × Int} (h : (if e' = 0 ∧ (rt = false ∨ table_Decode.low rows X = true) then some (none, 4) else table_Decode.loop k k1 (n - 1) s' e' (rows ++ [X])) = some z) (hB : false = (decide (e' = 0) && (!rt || table_Decode.low rows X))) : table_Decode.loop k k1 (n - 1) s' e' (rows ++ [X]) = some z := by
 rw [if_neg (fun q => by
  rw [decide_eq_true q.1, Bool.true_and] at hB
  rcases q.2 with q | q <;> rw [q] at hB <;> simp at hB)] at h
 exact h
theorem table_Decode.low_no {e' : Int} {rows : List S43} {X : S43} {rt : Bool} (h : e' = 0) (hB : false = (decide (e' = 0) && (!rt || table_Decode.low rows X))) : table_Decode.low rows X = false := by
 rw [decide_eq_true h, Bool.true_and] at hB; exact (Bool.or_eq_false_iff.1 hB.symm).2
theorem table_Decode.stop {k k1 : Nat} {n : Int} {s' : List Int} {e' : Int} {rows : List S43} {X : S43} {rt : Bool} {ro : Option (List S43)} {rr : Int} (h : (if e' = 0 ∧ (rt = false ∨ table_Decode.low rows X = true) then some (none, 4) else table_Decode.loop k k1 (n - 1) s' e' (rows ++ [X])) = some (ro, rr)) (hB : true = (decide (e' = 0) && (!rt || table_Decode.low rows X))) : ro = none ∧ rr = 4 := by
 have hb := hB.symm; rw [Bool.and_eq_true, Bool.or_eq_true] at hb
 rw [if_pos ⟨of_decide_eq_true hb.1, by
  rcases hb.2 with q | q
  · left; simpa using q
  · exact .inr q⟩] at h
 have := Option.some.inj h
 simp only [Prod.mk.injEq] at this
 exact ⟨this.1.symm, this.2.symm⟩
theorem table_Decode.end_0 {s : List Int} {e : Int} {z2 : List Int} {z3 : Int} (h : coin_Purse_End.f s e = some (0, z2, z3)) : e = 0 := by
 unfold coin_Purse_End.f at h
 by_cases c : e = 0
 · exact c
 · rw [if_neg c] at h; have := Option.some.inj h; simp only [Prod.mk.injEq] at this; exact this.1
theorem table_Decode.some_ad {W : World} {base : Nat} {ok : Nat → Prop} {Ar : Option Addr} {cr : Nat} {rows : List S43} (h : Kd.R k43 43 W base ok (.slice Ar rows.length cr) rows) (hr : 0 < rows.length) : ∃ ad, Ar = some ad := by
 obtain ⟨g2, cp, e2, _⟩ := Kd.R_form h hr
 injection e2 with e _ _
 exact ⟨_, e⟩
theorem table_Decode.last_is {W : World} {base : Nat} {ok : Nat → Prop} {ad : Addr} {cr : Nat} {rows : List S43} (h : Kd.R k43 43 W base ok (.slice (some ad) rows.length cr) rows) (hr : 0 < rows.length) :
 W.cell? (ad.add ((rows.length - 1) * 10)) = some (.int .u32 (rd_T43 rows ((rows.length - 1 : Nat) : Int)).f0.f0) ∧ W.cell? ⟨(ad.add ((rows.length - 1) * 10)).block, (ad.add ((rows.length - 1) * 10)).off + 1, none⟩ = some (.int .u8 (rd_T43 rows ((rows.length - 1 : Nat) : Int)).f0.f1) := by
 obtain ⟨A', c', e2, _, hC⟩ := Kd.R_reads h
 injection e2 with e2 _ _
 subst e2; obtain ⟨ad', e0, h0, h1, _⟩ := at_T43 hC ((rows.length - 1 : Nat) : Int) (by omega) (by omega); cases e0; rw [Int.toNat_natCast] at h0 h1; exact ⟨h0, h1⟩
def table_Decode.post (w : World) (o : Option (List S43 × Int × Int)) (r : Int) (e : Ending) (w' : World) : Prop := match o with
 | some T => ∃ g : Nat, e = .returned (.tuple #[.pointer (some ⟨g, 0, none⟩), .int .i64 r]) ∧ IsS70 w w' g T
 | none => e = .returned (.tuple #[.pointer none, .int .i64 r])
theorem table_Decode.srt_snoc {rows : List S43} {X : S43} (h : rowSrt rows) (hl : table_Decode.low rows X = false) : rowSrt (rows ++ [X]) := by
 unfold rowSrt at *
 rw [List.pairwise_append]; refine ⟨h, List.pairwise_singleton _ _, fun y hy x hx => ?_⟩; obtain rfl : x = X := List.mem_singleton.1 hx; have hp : 0 < rows.length := List.length_pos_of_mem hy
 unfold table_Decode.low at hl
 rw [decide_eq_true hp, Bool.true_and, decide_eq_false_iff_not, rd_cast rows _ (by omega)] at hl; obtain ⟨i, hi, rfl⟩ := List.getElem_of_mem hy
 by_cases e : i = rows.length - 1
 · subst e; omega
 · have h1 := (List.pairwise_iff_getElem.1 h) i (rows.length - 1) hi (by omega) (by omega); exact cmpI_trans h1 (by omega)
set_option maxHeartbeats 8000000 in
set_option maxRecDepth 100000 in
theorem table_Decode.calls (k : Nat) (A : Option Addr) (c0 : Nat) (l : List Int) (o : Option (List S43 × Int × Int)) (r : Int) (w : World) (hC : Kd.C (Kd.int .u8) w A l.length l) (hc0 : l.length ≤ c0) (h : table_Decode.f k l = some (o, r)) :
 Calls Try.prog 19 #[.slice A l.length c0] w fun e w' => table_Decode.post w o r e w' ∧ Below w.heap.size w w' := by
 have hu43 := Try.underlying43; have hu70 := Try.underlying70; obtain ⟨⟨no, s1, e1⟩, h1, h⟩ := Option.bind_eq_some_iff.mp h; obtain ⟨⟨tm, s2, e2⟩, h2, h⟩ := Option.bind_eq_some_iff.mp h; obtain ⟨⟨n3, s3, e3⟩, h3, h⟩ := Option.bind_eq_some_iff.mp h; obtain ⟨⟨ro, rr⟩, h4, h⟩ := Option.bind_eq_some_iff.mp h
 obtain ⟨rfl, rfl⟩ : ro.map (fun r => (r, no, tm)) = o ∧ rr = r := by
  have := Option.some.inj h; exact ⟨congrArg Prod.fst this, congrArg Prod.snd this⟩
 have H1 := Ad (table_Decode.tk_is h1).1; have H2 := Ad (table_Decode.tk_is h2).1; have H3 := Ad (table_Decode.tk_is h3).1; have b3 := (table_Decode.tk_is h3).2.1; have b3' := (table_Decode.tk_is h3).2.2; have HF := Ad (show table_Decode.loop k 300 n3 s3 e3 [] = some (ro, rr) from h4); clear h h1 h2 h3 h4
 go_enter Try.func19, Try.ntmps19
 go_wp2_with (fail)
 refine (coin_NewPurse.calls A c0 l l 0 w w (Below.refl _ _) hC hc0 rfl).mono ?_; rintro e_ w1 ⟨gp, rfl, hi, hb, _⟩; have HI := Ad hi; have HB := Ad hb; clear hi hb hC hc0
 go_wp2_with (fail)
 refine (coin_Purse_Take.calls k gp (l) 0 18446744073709551615 no (s1) e1 w _ HI.out HB.out H1.out).mono ?_; rintro e_ w2 ⟨rfl, hi, hb, hkp⟩; replace HI := Ad (hi); replace HB := Ad (hb); clear hi hb hkp
 go_wp2_with (fail)
 refine (coin_Purse_Take.calls k gp (s1) e1 18446744073709551615 tm (s2) e2 w _ HI.out HB.out H2.out).mono ?_; rintro e_ w3 ⟨rfl, hi, hb, hkp⟩; replace HI := Ad (hi); replace HB := Ad (hb); clear hi hb hkp
 go_upto_region 3 with (fail)
 obtain ⟨gT, hgT⟩ : ∃ x : Nat, x = w3.heap.size := ⟨_, rfl⟩
 obtain ⟨W, hW⟩ : ∃ x : World, x = w3.alloc (.cells #[.slice none 0 0, .int .u64 no, .int .u64 tm] 70 (0, 0)) := ⟨_, rfl⟩
 rw [← hW, ← hgT]; have BKT := Ad (show W.heap[gT]? = some (.cells #[.slice none 0 0, .int .u64 no, .int .u64 tm] 70 (0, 0)) from by rw [hW, hgT]; exact heap_alloc_new _ _)
 have hbW : Below w3.heap.size w3 W := by rw [hW]; exact below_alloc (Below.refl _ _) _
 have GET := Ad (show w.heap.size ≤ gT from by rw [hgT]; exact HB.out.size); replace HI := Ad (IsS96.below HI.out hbW); replace HB := Ad (below_step HB.out hbW); have HNE := Ad (fun h : gT = gp => HI.out.ne_blk BKT.out (by decide) h.symm); clear hW hgT hbW
 go_wp2_with (fail)
 refine (coin_Purse_Take.calls k gp (s2) e2 256 n3 (s3) e3 w _ HI.out HB.out H3.out).mono ?_; rintro e_ w4 ⟨rfl, hi, hb, hkp⟩; replace HI := Ad (hi); replace HB := Ad (hb); replace BKT := Ad (hkp.blk BKT.out HNE.out (by simp)); clear hi hb hkp
 go_wp2_with (fail)
 go_loopg [6] 300 (fun kx s6 wr => ∃ (n : Int) (s : List Int) (e : Int) (rows : List S43) (v : Value), s6 = .int .u64 n ∧ 0 ≤ n ∧ n + rows.length ≤ 256 ∧ Aside0 (IsS96 w wr gp s e) ∧ Aside0 (Below w.heap.size w wr) ∧ Aside0 (wr.heap[gT]? = some (.cells #[v, .int .u64 no, .int .u64 tm] 70 (0, 0))) ∧ Aside0 (Kd.R k43 43 wr w.heap.size (fun k_ => k_ ≠ gp) v rows) ∧ Aside0 (e = 0 → rowSrt rows) ∧ Aside0 (table_Decode.loop k kx n s e rows = some (ro, rr)))
 case atStart => exact ⟨n3, s3, e3, [], _, rfl, b3, by simpa using b3', HI, HB, BKT, ⟨Kd.R_nil _ _ _ _ _⟩, ⟨fun _ => List.Pairwise.nil⟩, HF⟩
 case round =>
  clear HF HI HB BKT; obtain ⟨n, s, e, rows, v, rfl, hn0, hn1, HI, HB, BKT, HR, HS, HF⟩ := hrel
  cases gk with
  | zero => exact absurd HF.out (by simp [table_Decode.loop])
  | succ k1 =>
   have hf := HF.out; rw [table_Decode.loop] at hf
   by_cases hn : 0 < n
   · have q1 : decide (n > 0) = true := decide_eq_true hn
     have q2 : decide (0 < n) = true := decide_eq_true hn
     go_wp2_with (fail)
     refine (coin_Purse_Fault.calls gp s e e s e w _ HI.out HB.out rfl).mono ?_; rintro e_ wf ⟨rfl, hi, hb, hkp⟩; replace HI := Ad (hi); replace HB := Ad (hb); replace BKT := Ad (hkp.blk BKT.out HNE.out (by simp)); replace HR := Ad (Kd.R_keep HR.out hkp (fun _ h => h)); clear hi hb hkp
     by_cases he : e = 0
     · rw [if_pos ⟨hn, he⟩] at hf
       subst he; clear HF; obtain ⟨⟨X, s', e'⟩, hrow, hf1⟩ := Option.bind_eq_some_iff.mp hf; obtain ⟨rt, hrt, hf2⟩ := Option.bind_eq_some_iff.mp hf1; have HRT := Ad (show prefix_Right.f X.f0.f0 X.f0.f1 = some rt from hrt); have HF := Ad (show (if e' = 0 ∧ (rt = false ∨ table_Decode.low rows X = true) then some (none, 4) else table_Decode.loop k k1 (n - 1) s' e' (rows ++ [X])) = some (ro, rr) from hf2); clear hrt hf hf1 hf2; obtain ⟨⟨a, sa, ea⟩, ha, hrow1⟩ := Option.bind_eq_some_iff.mp hrow; obtain ⟨⟨b, sb, eb⟩, hb1, hrow2⟩ := Option.bind_eq_some_iff.mp hrow1; obtain ⟨⟨c, sc, ec⟩, hc1, hrow3⟩ := Option.bind_eq_some_iff.mp hrow2; obtain ⟨⟨d, sd, ed⟩, hd1, hrow4⟩ := Option.bind_eq_some_iff.mp hrow3; obtain ⟨⟨vv, sv, ev⟩, hv1, hrow5⟩ := Option.bind_eq_some_iff.mp hrow4; obtain ⟨ha', ba, ba'⟩ := table_Decode.tk_is ha; obtain ⟨hb1', bb, bb'⟩ := table_Decode.tk_is hb1; obtain ⟨hc1', bc, bc'⟩ := table_Decode.tk_is hc1; obtain ⟨hd1', bd, bd'⟩ := table_Decode.tk_is hd1; obtain ⟨hv1', bv, bv'⟩ := table_Decode.tk_is hv1; have HA := Ad ha'; have HB1 := Ad hb1'; have HC1 := Ad hc1'; have HD1 := Ad hd1'; have HV1 := Ad hv1'; have HROW := Ad (show table_Decode.rest k a b c d vv sv ev = some (X, s', e') from hrow5); clear ha hb1 hc1 hd1 hv1 ha' hb1' hc1' hd1' hv1' hrow hrow1 hrow2 hrow3 hrow4 hrow5 q1 q2
       go_wp2_with (fail)
       refine (coin_Purse_Take.calls k gp (s) 0 4294967295 a (sa) ea w _ HI.out HB.out HA.out).mono ?_; rintro e_ wa ⟨rfl, hi, hb, hkp⟩; replace HI := Ad (hi); replace HB := Ad (hb); replace BKT := Ad (hkp.blk BKT.out HNE.out (by simp)); replace HR := Ad (Kd.R_keep HR.out hkp (fun _ h => h)); clear hi hb hkp
       go_wp2_with (fail)
       refine (coin_Purse_Take.calls k gp (sa) ea 32 b (sb) eb w _ HI.out HB.out HB1.out).mono ?_; rintro e_ wb ⟨rfl, hi, hb, hkp⟩; replace HI := Ad (hi); replace HB := Ad (hb); replace BKT := Ad (hkp.blk BKT.out HNE.out (by simp)); replace HR := Ad (Kd.R_keep HR.out hkp (fun _ h => h)); clear hi hb hkp
       go_wp2_with (fail)
       refine (coin_Purse_Take.calls k gp (sb) eb 65535 c (sc) ec w _ HI.out HB.out HC1.out).mono ?_; rintro e_ wc ⟨rfl, hi, hb, hkp⟩; replace HI := Ad (hi); replace HB := Ad (hb); replace BKT := Ad (hkp.blk BKT.out HNE.out (by simp)); replace HR := Ad (Kd.R_keep HR.out hkp (fun _ h => h)); clear hi hb hkp
       go_wp2_with (fail)
       refine (coin_Purse_Take.calls k gp (sc) ec 65534 d (sd) ed w _ HI.out HB.out HD1.out).mono ?_; rintro e_ wd ⟨rfl, hi, hb, hkp⟩; replace HI := Ad (hi); replace HB := Ad (hb); replace BKT := Ad (hkp.blk BKT.out HNE.out (by simp)); replace HR := Ad (Kd.R_keep HR.out hkp (fun _ h => h)); clear hi hb hkp
       go_upto_region 8 with (fail)
       obtain ⟨g7, hg7⟩ : ∃ x : Nat, x = wd.heap.size := ⟨_, rfl⟩
       obtain ⟨V, hV⟩ : ∃ x : World, x = wd.alloc (.cells #[.int .u32 a, .int .u8 b, .bool false, .int .u32 a, .int .u8 b, .int .i64 0, .int .u16 0, .int .u16 0, .int .u16 c, .int .u16 d] 43 (0, 0)) := ⟨_, rfl⟩
       rw [← hV, ← hg7]; have BK7 := Ad (show V.heap[g7]? = some (.cells #[.int .u32 a, .int .u8 b, .bool false, .int .u32 a, .int .u8 b, .int .i64 0, .int .u16 0, .int .u16 0, .int .u16 c, .int .u16 d] 43 (0, 0)) from by rw [hV, hg7]; exact heap_alloc_new _ _)
       have hb : Below wd.heap.size wd V := by rw [hV]; exact below_alloc (Below.refl _ _) _
       have GE7 := Ad (show w.heap.size ≤ g7 from by rw [hg7]; exact HB.out.size); have N7T := Ad (show g7 ≠ gT from by have := blk_lt BKT.out; omega); have NR7 := Ad (show Kd.R k43 43 wd w.heap.size (fun k_ => k_ ≠ gp ∧ k_ ≠ g7) v rows from Kd.R_mono (Kd.R_bound HR.out) (fun _ h => ⟨h.1, by have := h.2.2.1; omega⟩)); clear HR; have HR := NR7; clear NR7; replace HI := Ad (IsS96.below HI.out hb); replace HB := Ad (below_step HB.out hb); replace BKT := Ad (blk_below BKT.out hb); replace HR := Ad (Kd.R_below HR.out hb); have HN7 := Ad (fun h : g7 = gp => HI.out.ne_blk BK7.out (by decide) h.symm); clear hV hg7 hb
       go_wp2_with (fail)
       refine (coin_Purse_Take.calls k gp (sd) ed 16 vv (sv) ev w _ HI.out HB.out HV1.out).mono ?_; rintro e_ we ⟨rfl, hi, hb, hkp⟩; replace HI := Ad (hi); replace HB := Ad (hb); replace BKT := Ad (hkp.blk BKT.out HNE.out (by simp)); replace HR := Ad (Kd.R_keep HR.out hkp (fun _ h => h.1)); replace BK7 := Ad (hkp.blk BK7.out HN7.out (by simp)); clear hi hb hkp
       go_upto_if 51 with (fail)
       go_cut [] (fun wx => Aside0 (IsS96 w wx gp s' e') ∧ Aside0 (Below w.heap.size w wx) ∧ Aside0 (wx.heap[gT]? = some (.cells #[v, .int .u64 no, .int .u64 tm] 70 (0, 0))) ∧ Aside0 (wx.heap[g7]? = some (.cells #[.int .u32 X.f0.f0, .int .u8 X.f0.f1, .bool X.f1, .int .u32 X.f2.f0.f0, .int .u8 X.f2.f0.f1, .int .i64 X.f2.f1, .int .u16 X.f2.f2, .int .u16 X.f2.f3, .int .u16 X.f3.f0, .int .u16 X.f3.f1] 43 (0, 0))) ∧ Aside0 (Kd.R k43 43 wx w.heap.size (fun k_ => k_ ≠ gp ∧ k_ ≠ g7) v rows))
       case first =>
        have hrow := HROW.out
        unfold table_Decode.rest at hrow
        by_cases hv : 0 < vv
        · rw [if_pos hv] at hrow
          obtain ⟨⟨mm, sm, em⟩, hm1, hrow1⟩ := Option.bind_eq_some_iff.mp hrow; obtain ⟨⟨qq, sq, eq⟩, hq1, hrow2⟩ := Option.bind_eq_some_iff.mp hrow1; have HM1 := Ad (table_Decode.tk_is hm1).1; have HQ1 := Ad (show coin_Purse_Take.f k sm em 65535 = some (qq, sq, eq) from (table_Decode.tk_is hq1).1); have bm := (table_Decode.tk_is hm1).2; have bq := (table_Decode.tk_is hq1).2; have hx := Option.some.inj hrow2
          simp only [Prod.mk.injEq] at hx
          obtain ⟨hX, e2, e3⟩ := hx; have HX := Ad hX; have HE2 := Ad e2; have HE3 := Ad e3; clear hX hrow hrow1 hrow2 hm1 hq1 HROW e2 e3; have q1 : decide (vv > 0) = true := decide_eq_true hv; have z2 : we.cell? ⟨g7, 2, none⟩ = some (.bool false) := (blk_cell BK7.out 2).trans rfl; have y2 := blk_frozen BK7.out 2
          go_wp2_with (fail)
          have hkp := KeepBut.set_ (KeepBut.refl we g7 none) 2 (.bool true); replace HI := Ad (HI.out.far (p := ⟨g7, 2, none⟩) (fun h => HN7.out h.symm) (.bool true)); replace HB := Ad (below_set (j := 2) (v := .bool true) HB.out GE7.out); replace BKT := Ad (hkp.blk BKT.out (fun h => N7T.out h.symm) (by simp)); replace HR := Ad (Kd.R_mono (Kd.R_keep HR.out hkp (fun _ h => h.2)) (fun _ h => h)); replace BK7 := Ad (blk_put BK7.out 2 (.bool true) rfl); clear hkp z2 y2
          go_wp2_with (fail)
          refine (coin_Purse_Take.calls k gp (sv) ev 65534 mm (sm) em w _ HI.out HB.out HM1.out).mono ?_; rintro e_ wm ⟨rfl, hi, hb, hkp⟩; replace HI := Ad (hi); replace HB := Ad (hb); replace BKT := Ad (hkp.blk BKT.out HNE.out (by simp)); replace HR := Ad (Kd.R_keep HR.out hkp (fun _ h => h.1)); replace BK7 := Ad (hkp.blk BK7.out HN7.out (by simp)); clear hi hb hkp
          go_wp2_with (fail)
          refine (coin_Purse_Take.calls k gp (sm) em 65535 qq (sq) eq w _ HI.out HB.out HQ1.out).mono ?_; rintro e_ wq ⟨rfl, hi, hb, hkp⟩; replace HI := Ad (hi); replace HB := Ad (hb); replace BKT := Ad (hkp.blk BKT.out HNE.out (by simp)); replace HR := Ad (Kd.R_keep HR.out hkp (fun _ h => h.1)); replace BK7 := Ad (hkp.blk BK7.out HN7.out (by simp)); clear hi hb hkp; have z5 : wq.cell? ⟨g7, 5, none⟩ = some (.int .i64 0) := (blk_cell BK7.out 5).trans rfl; have z6 : wq.cell? ⟨g7, 6, none⟩ = some (.int .u16 0) := (blk_cell BK7.out 6).trans rfl; have z7 : wq.cell? ⟨g7, 7, none⟩ = some (.int .u16 0) := (blk_cell BK7.out 7).trans rfl; have y5 := blk_frozen BK7.out 5; have y6 := blk_frozen BK7.out 6; have y7 := blk_frozen BK7.out 7
          go_wp2_with (fail)
          have hkp := KeepBut.set_ (KeepBut.set_ (KeepBut.set_ (KeepBut.refl wq g7 none) 5 (.int .i64 (vv - 1))) 6 (.int .u16 mm)) 7 (.int .u16 qq); go_meet; have hX := HX.out; subst hX; have e2 := HE2.out; subst e2; have e3 := HE3.out; subst e3; refine ⟨⟨((HI.out.far (p := ⟨g7, 5, none⟩) (fun h => HN7.out h.symm) _).far (p := ⟨g7, 6, none⟩) (fun h => HN7.out h.symm) _).far (p := ⟨g7, 7, none⟩) (fun h => HN7.out h.symm) _⟩, ⟨below_set (below_set (below_set HB.out GE7.out) GE7.out) GE7.out⟩, ⟨hkp.blk BKT.out (fun h => N7T.out h.symm) (by simp)⟩, ⟨?_⟩, ⟨Kd.R_keep HR.out hkp (fun _ h => h.2)⟩⟩; refine blk_put (cs := #[.int .u32 a, .int .u8 b, .bool true, .int .u32 a, .int .u8 b, .int .i64 (vv - 1), .int .u16 mm, .int .u16 0, .int .u16 c, .int .u16 d]) ?_ 7 _ rfl; refine blk_put (cs := #[.int .u32 a, .int .u8 b, .bool true, .int .u32 a, .int .u8 b, .int .i64 (vv - 1), .int .u16 0, .int .u16 0, .int .u16 c, .int .u16 d]) ?_ 6 _ rfl; exact blk_put BK7.out 5 _ rfl
        · rw [if_neg hv] at hrow
          have hx := Option.some.inj hrow
          simp only [Prod.mk.injEq] at hx
          obtain ⟨hX, e2, e3⟩ := hx; have HX := Ad hX; have HE2 := Ad e2; have HE3 := Ad e3; clear hX hrow HROW e2 e3; have q1 : decide (vv > 0) = false := decide_eq_false hv
          go_wp2_with (fail)
          go_meet; have hX := HX.out; subst hX; have e2 := HE2.out; subst e2; have e3 := HE3.out; subst e3; exact ⟨HI, HB, BKT, BK7, HR⟩
       case rest =>
        clear HI HB BKT BK7 HR HA HB1 HC1 HD1 HV1 HROW; obtain ⟨HI, HB, BKT, BK7, HR⟩ := hcut; obtain ⟨Ar, cr, e5, hlr, hCr⟩ := Kd.R_reads HR.out; subst e5; clear hCr; have HRI := Ad (show prefix_Right.f X.f0.f0 X.f0.f1 = some rt from HRT.out)
        obtain ⟨B, hB⟩ : ∃ B : Bool, B = (decide (e' = 0) && (!rt || table_Decode.low rows X)) := ⟨_, rfl⟩
        have HBB := Ad hB; clear hB HRT
        go_upto_region 12 with (fail)
        go_cut [103] (fun s103 wx => s103 = .bool B ∧ Aside0 (IsS96 w wx gp s' e') ∧ Aside0 (Below w.heap.size w wx) ∧ Aside0 (wx.heap[gT]? = some (.cells #[.slice Ar rows.length cr, .int .u64 no, .int .u64 tm] 70 (0, 0))) ∧ Aside0 (wx.heap[g7]? = some (.cells #[.int .u32 X.f0.f0, .int .u8 X.f0.f1, .bool X.f1, .int .u32 X.f2.f0.f0, .int .u8 X.f2.f0.f1, .int .i64 X.f2.f1, .int .u16 X.f2.f2, .int .u16 X.f2.f3, .int .u16 X.f3.f0, .int .u16 X.f3.f1] 43 (0, 0))) ∧ Aside0 (Kd.R k43 43 wx w.heap.size (fun k_ => k_ ≠ gp ∧ k_ ≠ g7) (.slice Ar rows.length cr) rows))
        case first =>
         replace HI := Ad (IsS96.drew HI.out); replace HB := Ad (below_drew1 HB.out); replace BKT := Ad (blk_drew BKT.out); replace BK7 := Ad (blk_drew BK7.out); replace HR := Ad (Kd.R_drew HR.out)
         by_cases he : e' = 0
         · have p0 : (e' == 0) = true := beq_iff_eq.mpr he
           cases rt
           · have hB2 : B = true := by rw [HBB.out, decide_eq_true he]; rfl
             have HB2 := Ad hB2; clear he hB2; refine start_ (n := 36) (S := fun w' => w'.cell? ⟨g7, 0, none⟩ = some (.int .u32 X.f0.f0) ∧ w'.cell? ⟨g7, 1, none⟩ = some (.int .u8 X.f0.f1) ∧ w'.cell? ⟨gT, 0, none⟩ = some (.slice Ar rows.length cr)) (ds := []) (tf 36 0) (by kernel_rfl) rfl rfl ⟨(blk_cell BK7.out 0).trans rfl, (blk_cell BK7.out 1).trans rfl, (blk_cell BKT.out 0).trans rfl⟩ (fun hHeld => ?_); generalize wc.drew = wz at HI HB BKT BK7 HR hHeld ⊢; refine pu 0 68 ?_ (tf 36 1) rfl rfl (by kernel_rfl) (fun _ _ _ h => h) (by rfl) ?_ ?_ ?_ ?_; rotate_left; · intro w'; go_simp; with_reducible rfl
             rotate_left; · simp only [Act.put, lz]; rfl
             refine one_ (i := 1) (N := some 69) (tf 36 2) rfl rfl (by kernel_rfl) (by decide) (fun K hK => ?_); refine goes_ Try.func31 (by kernel_rfl) rfl #[.pointer (some ⟨gp, 0, none⟩)] (by rfl) rfl rfl (by simp only [List.map_toArray, List.map_cons, List.map_nil]; rfl) ?_
             with_reducible refine (coin_Purse_Fault.calls gp s' e' e' s' e' w _ HI.out HB.out rfl).mono ?_
             rintro e_ wf1 ⟨rfl, hi, hb, hkp⟩; refine ⟨_, rfl, ?_⟩; replace HI := Ad (hi); replace HB := Ad (hb); replace BKT := Ad (hkp.blk BKT.out HNE.out (by simp)); replace BK7 := Ad (hkp.blk BK7.out HN7.out (by simp)); replace HR := Ad (Kd.R_keep HR.out hkp (fun _ h => h.1)); clear hi hb hkp; refine hK.out _ _ ⟨(blk_cell BK7.out 0).trans rfl, (blk_cell BK7.out 1).trans rfl, (blk_cell BKT.out 0).trans rfl⟩ (fun hHeld => ?_); clear hK K; refine norm_ (a' := ?_) ?_ ?_; rotate_left
             · show Act.put _ (some 69) _ = _; simp only [Act.put, lz]; rfl
             refine pu 2 70 ?_ (tf 36 3) rfl rfl (by kernel_rfl) (fun _ _ _ h => h) (by rfl) ?_ ?_ ?_ ?_; rotate_left; · intro w'; go_simp; with_reducible rfl
             rotate_left; · simp only [Act.put, lz]; rfl
             refine pu 3 71 ?_ (tf 36 4) rfl rfl (by kernel_rfl) (fun _ _ _ h => h) (by rfl) ?_ ?_ ?_ ?_; rotate_left; · intro w'; go_simp; with_reducible rfl
             rotate_left; · simp only [Act.put, lz]; rfl
             refine pu 4 72 ?_ (tf 36 5) rfl rfl (by kernel_rfl) (fun _ _ _ h => h) (by rfl) ?_ ?_ ?_ ?_; rotate_left; · intro w'; go_simp; with_reducible rfl
             rotate_left; · simp only [Act.put, lz]; rfl
             refine tu 5 73 ?_ (tf 36 6) rfl rfl (by kernel_rfl) (fun _ _ _ h => h) (by rfl) ?_ hHeld ?_ ?_ ?_; rotate_left; · rintro w' ⟨s0, s1, s2⟩; go_simp; with_reducible rfl
             rotate_left; · simp only [Act.put, lz]; rfl
             refine one_ (i := 6) (N := some 74) (tf 36 7) rfl rfl (by kernel_rfl) (by decide) (fun K hK => ?_); refine goes_ Try.func32 (by kernel_rfl) rfl #[.agg #[.int .u32 X.f0.f0, .int .u8 X.f0.f1]] (by rfl) rfl rfl (by simp only [List.map_toArray, List.map_cons, List.map_nil]; rfl) ?_
             with_reducible refine (prefix_Right.calls X.f0.f0 X.f0.f1 false _ HRI.out).mono ?_
             rintro e_ wf2 ⟨rfl, hb⟩; refine ⟨_, rfl, ?_⟩; replace HI := Ad (IsS96.below HI.out hb); replace HB := Ad (below_step HB.out hb); replace BKT := Ad (blk_below BKT.out hb); replace BK7 := Ad (blk_below BK7.out hb); replace HR := Ad (Kd.R_below HR.out hb); clear hb; refine hK.out _ _ ⟨(blk_cell BK7.out 0).trans rfl, (blk_cell BK7.out 1).trans rfl, (blk_cell BKT.out 0).trans rfl⟩ (fun hHeld => ?_); clear hK K; refine norm_ (a' := ?_) ?_ ?_; rotate_left
             · show Act.put _ (some 74) _ = _; simp only [Act.put, lz]; rfl
             refine pu 7 75 ?_ (tf 36 8) rfl rfl (by kernel_rfl) (fun _ _ _ h => h) (by rfl) ?_ ?_ ?_ ?_; rotate_left; · intro w'; go_simp; with_reducible rfl
             rotate_left; · simp only [Act.put, lz]; rfl
             refine pu 8 76 ?_ (tf 36 9) rfl rfl (by kernel_rfl) (fun _ _ _ h => h) (by rfl) ?_ ?_ ?_ ?_; rotate_left; · intro w'; go_simp; with_reducible rfl
             rotate_left; · simp only [Act.put, lz]; rfl
             refine un 9 77 (tf 36 10) rfl rfl (by kernel_rfl) (fun _ _ _ h => h) (by rfl) ?_ ?_ ?_; rotate_left; · simp only [Act.put, lz]; rfl
             refine un 10 78 (tf 36 11) rfl rfl (by kernel_rfl) (fun _ _ _ h => h) (by rfl) ?_ ?_ ?_; rotate_left; · simp only [Act.put, lz]; rfl
             refine un 11 79 (tf 36 12) rfl rfl (by kernel_rfl) (fun _ _ _ h => h) (by rfl) ?_ ?_ ?_; rotate_left; · simp only [Act.put, lz]; rfl
             refine un 12 80 (tf 36 13) rfl rfl (by kernel_rfl) (fun _ _ _ h => h) (by rfl) ?_ ?_ ?_; rotate_left; · simp only [Act.put, lz]; rfl
             refine un 13 81 (tf 36 14) rfl rfl (by kernel_rfl) (fun _ _ _ h => h) (by rfl) ?_ ?_ ?_; rotate_left; · simp only [Act.put, lz]; rfl
             refine un 14 82 (tf 36 15) rfl rfl (by kernel_rfl) (fun _ _ _ h => h) (by rfl) ?_ ?_ ?_; rotate_left; · simp only [Act.put, lz]; rfl
             refine un 15 83 (tf 36 16) rfl rfl (by kernel_rfl) (fun _ _ _ h => h) (by rfl) ?_ ?_ ?_; rotate_left; · simp only [Act.put, lz]; rfl
             refine un 16 84 (tf 36 17) rfl rfl (by kernel_rfl) (fun _ _ _ h => h) (by rfl) ?_ ?_ ?_; rotate_left; · simp only [Act.put, lz]; rfl
             refine un 17 85 (tf 36 18) rfl rfl (by kernel_rfl) (fun _ _ _ h => h) (by rfl) ?_ ?_ ?_; rotate_left; · simp only [Act.put, lz]; rfl
             refine un 18 86 (tf 36 19) rfl rfl (by kernel_rfl) (fun _ _ _ h => h) (by rfl) ?_ ?_ ?_; rotate_left; · simp only [Act.put, lz]; rfl
             refine un 19 87 (tf 36 20) rfl rfl (by kernel_rfl) (fun _ _ _ h => h) (by rfl) ?_ ?_ ?_; rotate_left; · simp only [Act.put, lz]; rfl
             refine un 20 88 (tf 36 21) rfl rfl (by kernel_rfl) (fun _ _ _ h => h) (by rfl) ?_ ?_ ?_; rotate_left; · simp only [Act.put, lz]; rfl
             refine un 21 89 (tf 36 22) rfl rfl (by kernel_rfl) (fun _ _ _ h => h) (by rfl) ?_ ?_ ?_; rotate_left; · simp only [Act.put, lz]; rfl
             refine un 22 90 (tf 36 23) rfl rfl (by kernel_rfl) (fun _ _ _ h => h) (by rfl) ?_ ?_ ?_; rotate_left; · simp only [Act.put, lz]; rfl
             refine un 23 91 (tf 36 24) rfl rfl (by kernel_rfl) (fun _ _ _ h => h) (by rfl) ?_ ?_ ?_; rotate_left; · simp only [Act.put, lz]; rfl
             refine un 24 92 (tf 36 25) rfl rfl (by kernel_rfl) (fun _ _ _ h => h) (by rfl) ?_ ?_ ?_; rotate_left; · simp only [Act.put, lz]; rfl
             refine un 25 93 (tf 36 26) rfl rfl (by kernel_rfl) (fun _ _ _ h => h) (by rfl) ?_ ?_ ?_; rotate_left; · simp only [Act.put, lz]; rfl
             refine un 26 94 (tf 36 27) rfl rfl (by kernel_rfl) (fun _ _ _ h => h) (by rfl) ?_ ?_ ?_; rotate_left; · simp only [Act.put, lz]; rfl
             refine un 27 95 (tf 36 28) rfl rfl (by kernel_rfl) (fun _ _ _ h => h) (by rfl) ?_ ?_ ?_; rotate_left; · simp only [Act.put, lz]; rfl
             refine un 28 96 (tf 36 29) rfl rfl (by kernel_rfl) (fun _ _ _ h => h) (by rfl) ?_ ?_ ?_; rotate_left; · simp only [Act.put, lz]; rfl
             refine un 29 97 (tf 36 30) rfl rfl (by kernel_rfl) (fun _ _ _ h => h) (by rfl) ?_ ?_ ?_; rotate_left; · simp only [Act.put, lz]; rfl
             refine un 30 98 (tf 36 31) rfl rfl (by kernel_rfl) (fun _ _ _ h => h) (by rfl) ?_ ?_ ?_; rotate_left; · simp only [Act.put, lz]; rfl
             refine un 31 99 (tf 36 32) rfl rfl (by kernel_rfl) (fun _ _ _ h => h) (by rfl) ?_ ?_ ?_; rotate_left; · simp only [Act.put, lz]; rfl
             refine un 32 100 (tf 36 33) rfl rfl (by kernel_rfl) (fun _ _ _ h => h) (by rfl) ?_ ?_ ?_; rotate_left; · simp only [Act.put, lz]; rfl
             refine un 33 101 (tf 36 34) rfl rfl (by kernel_rfl) (fun _ _ _ h => h) (by rfl) ?_ ?_ ?_; rotate_left; · simp only [Act.put, lz]; rfl
             refine pu 34 102 ?_ (tf 36 35) rfl rfl (by kernel_rfl) (fun _ _ _ h => h) (by rfl) ?_ ?_ ?_ ?_; rotate_left; · intro w'; go_simp; with_reducible rfl
             rotate_left; · simp only [Act.put, lz]; rfl
             refine pu 35 103 ?_ (tf 36 36) rfl rfl (by kernel_rfl) (fun _ _ _ h => h) (by rfl) ?_ ?_ ?_ ?_; rotate_left; · intro w'; go_simp; with_reducible rfl
             rotate_left; · simp only [Act.put, lz]; rfl
             refine done_ (by kernel_rfl) ?_
             go_wp2_with (fail)
             go_meet; exact ⟨by rw [HB2.out], HI, HB, BKT, BK7, HR⟩
           · by_cases hr0 : 0 < rows.length
             · have i1 : decide (0 < rows.length) = true := decide_eq_true hr0
               have i1' : decide ((rows.length : Int) > 0) = true := decide_eq_true (by omega)
               have wl : IntKind.i64.wrap ((rows.length : Int) - 1) = ((rows.length - 1 : Nat) : Int) := by rw [show (rows.length : Int) - 1 = ((rows.length - 1 : Nat) : Int) by omega]; exact IntWalk.i64_in _ (by omega)
               have i2 : decide (0 ≤ ((rows.length - 1 : Nat) : Int)) = true := decide_eq_true (by omega); have i3 : decide (((rows.length - 1 : Nat) : Int) < (rows.length : Int)) = true := decide_eq_true (by omega); have i4 : decide (rows.length - 1 < rows.length) = true := decide_eq_true (by omega); have i5 : (rows.length - 1 < rows.length) = True := eq_true (by omega); obtain ⟨ad, rfl⟩ := table_Decode.some_ad HR.out hr0
               obtain ⟨cv, hcv⟩ : ∃ x : Int, x = cmpI (rd_T43 rows ((rows.length - 1 : Nat) : Int)).f0.f0 (rd_T43 rows ((rows.length - 1 : Nat) : Int)).f0.f1 X.f0.f0 X.f0.f1 := ⟨_, rfl⟩
               have hB2 : B = decide (0 ≤ cv) := by rw [HBB.out, decide_eq_true he, hcv]; unfold table_Decode.low; rw [decide_eq_true hr0]; rfl
               have HB2 := Ad hB2; have HCV := Ad (show prefix_Compare.f 3 (rd_T43 rows ((rows.length - 1 : Nat) : Int)).f0.f0 (rd_T43 rows ((rows.length - 1 : Nat) : Int)).f0.f1 X.f0.f0 X.f0.f1 = some cv from by rw [hcv]; exact table_Table_find.cmp_is _ _ _ _); have hbv : decide (cv ≥ 0) = B := hB2.symm; have HR0 := Ad hr0; clear he hB2 hcv hr0; refine start_ (n := 36) (S := fun w' => w'.cell? ⟨g7, 0, none⟩ = some (.int .u32 X.f0.f0) ∧ w'.cell? ⟨g7, 1, none⟩ = some (.int .u8 X.f0.f1) ∧ w'.cell? ⟨gT, 0, none⟩ = some (.slice (some ad) rows.length cr) ∧ w'.cell? (ad.add ((rows.length - 1) * 10)) = some (.int .u32 (rd_T43 rows ((rows.length - 1 : Nat) : Int)).f0.f0) ∧ w'.cell? ⟨(ad.add ((rows.length - 1) * 10)).block, (ad.add ((rows.length - 1) * 10)).off + 1, none⟩ = some (.int .u8 (rd_T43 rows ((rows.length - 1 : Nat) : Int)).f0.f1)) (ds := []) (tf 36 0) (by kernel_rfl) rfl rfl ⟨(blk_cell BK7.out 0).trans rfl, (blk_cell BK7.out 1).trans rfl, (blk_cell BKT.out 0).trans rfl, (table_Decode.last_is HR.out HR0.out).1, (table_Decode.last_is HR.out HR0.out).2⟩ (fun hHeld => ?_); generalize wc.drew = wz at HI HB BKT BK7 HR hHeld ⊢; refine pu 0 68 ?_ (tf 36 1) rfl rfl (by kernel_rfl) (fun _ _ _ h => h) (by rfl) ?_ ?_ ?_ ?_; rotate_left; · intro w'; go_simp; with_reducible rfl
               rotate_left; · simp only [Act.put, lz]; rfl
               refine one_ (i := 1) (N := some 69) (tf 36 2) rfl rfl (by kernel_rfl) (by decide) (fun K hK => ?_); refine goes_ Try.func31 (by kernel_rfl) rfl #[.pointer (some ⟨gp, 0, none⟩)] (by rfl) rfl rfl (by simp only [List.map_toArray, List.map_cons, List.map_nil]; rfl) ?_
               with_reducible refine (coin_Purse_Fault.calls gp s' e' e' s' e' w _ HI.out HB.out rfl).mono ?_
               rintro e_ wf1 ⟨rfl, hi, hb, hkp⟩; refine ⟨_, rfl, ?_⟩; replace HI := Ad (hi); replace HB := Ad (hb); replace BKT := Ad (hkp.blk BKT.out HNE.out (by simp)); replace BK7 := Ad (hkp.blk BK7.out HN7.out (by simp)); replace HR := Ad (Kd.R_keep HR.out hkp (fun _ h => h.1)); clear hi hb hkp; refine hK.out _ _ ⟨(blk_cell BK7.out 0).trans rfl, (blk_cell BK7.out 1).trans rfl, (blk_cell BKT.out 0).trans rfl, (table_Decode.last_is HR.out HR0.out).1, (table_Decode.last_is HR.out HR0.out).2⟩ (fun hHeld => ?_); clear hK K; refine norm_ (a' := ?_) ?_ ?_; rotate_left
               · show Act.put _ (some 69) _ = _; simp only [Act.put, lz]; rfl
               refine pu 2 70 ?_ (tf 36 3) rfl rfl (by kernel_rfl) (fun _ _ _ h => h) (by rfl) ?_ ?_ ?_ ?_; rotate_left; · intro w'; go_simp; with_reducible rfl
               rotate_left; · simp only [Act.put, lz]; rfl
               refine pu 3 71 ?_ (tf 36 4) rfl rfl (by kernel_rfl) (fun _ _ _ h => h) (by rfl) ?_ ?_ ?_ ?_; rotate_left; · intro w'; go_simp; with_reducible rfl
               rotate_left; · simp only [Act.put, lz]; rfl
               refine pu 4 72 ?_ (tf 36 5) rfl rfl (by kernel_rfl) (fun _ _ _ h => h) (by rfl) ?_ ?_ ?_ ?_; rotate_left; · intro w'; go_simp; with_reducible rfl
               rotate_left; · simp only [Act.put, lz]; rfl
               refine tu 5 73 ?_ (tf 36 6) rfl rfl (by kernel_rfl) (fun _ _ _ h => h) (by rfl) ?_ hHeld ?_ ?_ ?_; rotate_left; · rintro w' ⟨s0, s1, s2, s3, s4⟩; go_simp; with_reducible rfl
               rotate_left; · simp only [Act.put, lz]; rfl
               refine one_ (i := 6) (N := some 74) (tf 36 7) rfl rfl (by kernel_rfl) (by decide) (fun K hK => ?_); refine goes_ Try.func32 (by kernel_rfl) rfl #[.agg #[.int .u32 X.f0.f0, .int .u8 X.f0.f1]] (by rfl) rfl rfl (by simp only [List.map_toArray, List.map_cons, List.map_nil]; rfl) ?_
               with_reducible refine (prefix_Right.calls X.f0.f0 X.f0.f1 true _ HRI.out).mono ?_
               rintro e_ wf2 ⟨rfl, hb⟩; refine ⟨_, rfl, ?_⟩; replace HI := Ad (IsS96.below HI.out hb); replace HB := Ad (below_step HB.out hb); replace BKT := Ad (blk_below BKT.out hb); replace BK7 := Ad (blk_below BK7.out hb); replace HR := Ad (Kd.R_below HR.out hb); clear hb; refine hK.out _ _ ⟨(blk_cell BK7.out 0).trans rfl, (blk_cell BK7.out 1).trans rfl, (blk_cell BKT.out 0).trans rfl, (table_Decode.last_is HR.out HR0.out).1, (table_Decode.last_is HR.out HR0.out).2⟩ (fun hHeld => ?_); clear hK K; refine norm_ (a' := ?_) ?_ ?_; rotate_left
               · show Act.put _ (some 74) _ = _; simp only [Act.put, lz]; rfl
               refine pu 7 75 ?_ (tf 36 8) rfl rfl (by kernel_rfl) (fun _ _ _ h => h) (by rfl) ?_ ?_ ?_ ?_; rotate_left; · intro w'; go_simp; with_reducible rfl
               rotate_left; · simp only [Act.put, lz]; rfl
               refine pu 8 76 ?_ (tf 36 9) rfl rfl (by kernel_rfl) (fun _ _ _ h => h) (by rfl) ?_ ?_ ?_ ?_; rotate_left; · intro w'; go_simp; with_reducible rfl
               rotate_left; · simp only [Act.put, lz]; rfl
               refine pu 9 77 ?_ (tf 36 10) rfl rfl (by kernel_rfl) (fun _ _ _ h => h) (by rfl) ?_ ?_ ?_ ?_; rotate_left; · intro w'; go_simp; with_reducible rfl
               rotate_left; · simp only [Act.put, lz]; rfl
               refine pu 10 78 ?_ (tf 36 11) rfl rfl (by kernel_rfl) (fun _ _ _ h => h) (by rfl) ?_ ?_ ?_ ?_; rotate_left; · intro w'; go_simp; with_reducible rfl
               rotate_left; · simp only [Act.put, lz]; rfl
               refine pu 11 79 ?_ (tf 36 12) rfl rfl (by kernel_rfl) (fun _ _ _ h => h) (by rfl) ?_ ?_ ?_ ?_; rotate_left; · intro w'; go_simp; with_reducible rfl
               rotate_left; · simp only [Act.put, lz]; rfl
               refine tu 12 80 ?_ (tf 36 13) rfl rfl (by kernel_rfl) (fun _ _ _ h => h) (by rfl) ?_ hHeld ?_ ?_ ?_; rotate_left; · rintro w' ⟨s0, s1, s2, s3, s4⟩; go_simp; with_reducible rfl
               rotate_left; · simp only [Act.put, lz]; rfl
               refine pu 13 81 ?_ (tf 36 14) rfl rfl (by kernel_rfl) (fun _ _ _ h => h) (by rfl) ?_ ?_ ?_ ?_; rotate_left; · intro w'; go_simp; with_reducible rfl
               rotate_left; · simp only [Act.put, lz]; rfl
               refine pu 14 82 ?_ (tf 36 15) rfl rfl (by kernel_rfl) (fun _ _ _ h => h) (by rfl) ?_ ?_ ?_ ?_; rotate_left; · intro w'; go_simp; with_reducible rfl
               rotate_left; · simp only [Act.put, lz]; rfl
               refine pu 15 83 ?_ (tf 36 16) rfl rfl (by kernel_rfl) (fun _ _ _ h => h) (by rfl) ?_ ?_ ?_ ?_; rotate_left; · intro w'; go_simp; with_reducible rfl
               rotate_left; · simp only [Act.put, lz]; rfl
               refine pu 16 84 ?_ (tf 36 17) rfl rfl (by kernel_rfl) (fun _ _ _ h => h) (by rfl) ?_ ?_ ?_ ?_; rotate_left; · intro w'; go_simp; with_reducible rfl
               rotate_left; · simp only [Act.put, lz]; rfl
               refine pu 17 85 ?_ (tf 36 18) rfl rfl (by kernel_rfl) (fun _ _ _ h => h) (by rfl) ?_ ?_ ?_ ?_; rotate_left; · intro w'; go_simp; with_reducible rfl
               rotate_left; · simp only [Act.put, lz]; rfl
               refine pu 18 86 ?_ (tf 36 19) rfl rfl (by kernel_rfl) (fun _ _ _ h => h) (by rfl) ?_ ?_ ?_ ?_; rotate_left; · intro w'; go_simp; with_reducible rfl
               rotate_left; · simp only [Act.put, lz]; rfl
               refine pu 20 88 ?_ #[I,I,I,I,I,I,I,I,I,I,I,I,I,I,I,I,I,I,I,O,I,O,O,O,O,O,O,O,O,O,O,O,O,O,O,O] rfl rfl (by kernel_rfl) (fun _ _ _ h => h) (by rfl) ?_ ?_ ?_ ?_; rotate_left; · intro w'; go_simp; with_reducible rfl
               rotate_left; · simp only [Act.put, lz]; rfl
               refine pu 21 89 ?_ #[I,I,I,I,I,I,I,I,I,I,I,I,I,I,I,I,I,I,I,O,I,I,O,O,O,O,O,O,O,O,O,O,O,O,O,O] rfl rfl (by kernel_rfl) (fun _ _ _ h => h) (by rfl) ?_ ?_ ?_ ?_; rotate_left; · intro w'; go_simp; with_reducible rfl
               rotate_left; · simp only [Act.put, lz]; rfl
               refine pu 22 90 ?_ #[I,I,I,I,I,I,I,I,I,I,I,I,I,I,I,I,I,I,I,O,I,I,I,O,O,O,O,O,O,O,O,O,O,O,O,O] rfl rfl (by kernel_rfl) (fun _ _ _ h => h) (by rfl) ?_ ?_ ?_ ?_; rotate_left; · intro w'; go_simp; with_reducible rfl
               rotate_left; · simp only [Act.put, lz]; rfl
               refine pu 29 97 ?_ #[I,I,I,I,I,I,I,I,I,I,I,I,I,I,I,I,I,I,I,O,I,I,I,O,O,O,O,O,O,I,O,O,O,O,O,O] rfl rfl (by kernel_rfl) (fun _ _ _ h => h) (by rfl) ?_ ?_ ?_ ?_; rotate_left; · intro w'; go_simp; with_reducible rfl
               rotate_left; · simp only [Act.put, lz]; rfl
               refine tu 19 87 ?_ #[I,I,I,I,I,I,I,I,I,I,I,I,I,I,I,I,I,I,I,I,I,I,I,O,O,O,O,O,O,I,O,O,O,O,O,O] rfl rfl (by kernel_rfl) (fun _ _ _ h => h) (by rfl) ?_ hHeld ?_ ?_ ?_; rotate_left; · rintro w' ⟨s0, s1, s2, s3, s4⟩; go_simp; with_reducible rfl
               rotate_left; · simp only [Act.put, lz]; rfl
               refine tu 23 91 ?_ #[I,I,I,I,I,I,I,I,I,I,I,I,I,I,I,I,I,I,I,I,I,I,I,I,O,O,O,O,O,I,O,O,O,O,O,O] rfl rfl (by kernel_rfl) (fun _ _ _ h => h) (by rfl) ?_ hHeld ?_ ?_ ?_; rotate_left; · rintro w' ⟨s0, s1, s2, s3, s4⟩; go_simp; with_reducible rfl
               rotate_left; · simp only [Act.put, lz]; rfl
               refine pu 24 92 ?_ #[I,I,I,I,I,I,I,I,I,I,I,I,I,I,I,I,I,I,I,I,I,I,I,I,I,O,O,O,O,I,O,O,O,O,O,O] rfl rfl (by kernel_rfl) (fun _ _ _ h => h) (by rfl) ?_ ?_ ?_ ?_; rotate_left; · intro w'; go_simp; with_reducible rfl
               rotate_left; · simp only [Act.put, lz]; rfl
               refine pu 25 93 ?_ #[I,I,I,I,I,I,I,I,I,I,I,I,I,I,I,I,I,I,I,I,I,I,I,I,I,I,O,O,O,I,O,O,O,O,O,O] rfl rfl (by kernel_rfl) (fun _ _ _ h => h) (by rfl) ?_ ?_ ?_ ?_; rotate_left; · intro w'; go_simp; with_reducible rfl
               rotate_left; · simp only [Act.put, lz]; rfl
               refine pu 26 94 ?_ #[I,I,I,I,I,I,I,I,I,I,I,I,I,I,I,I,I,I,I,I,I,I,I,I,I,I,I,O,O,I,O,O,O,O,O,O] rfl rfl (by kernel_rfl) (fun _ _ _ h => h) (by rfl) ?_ ?_ ?_ ?_; rotate_left; · intro w'; go_simp; with_reducible rfl
               rotate_left; · simp only [Act.put, lz]; rfl
               refine pu 27 95 ?_ #[I,I,I,I,I,I,I,I,I,I,I,I,I,I,I,I,I,I,I,I,I,I,I,I,I,I,I,I,O,I,O,O,O,O,O,O] rfl rfl (by kernel_rfl) (fun _ _ _ h => h) (by rfl) ?_ ?_ ?_ ?_; rotate_left; · intro w'; go_simp; with_reducible rfl
               rotate_left; · simp only [Act.put, lz]; rfl
               refine tu 28 96 ?_ (tf 36 30) rfl rfl (by kernel_rfl) (fun _ _ _ h => h) (by rfl) ?_ hHeld ?_ ?_ ?_; rotate_left; · rintro w' ⟨s0, s1, s2, s3, s4⟩; go_simp; with_reducible rfl
               rotate_left; · simp only [Act.put, lz]; rfl
               refine tu 30 98 ?_ (tf 36 31) rfl rfl (by kernel_rfl) (fun _ _ _ h => h) (by rfl) ?_ hHeld ?_ ?_ ?_; rotate_left; · rintro w' ⟨s0, s1, s2, s3, s4⟩; go_simp; with_reducible rfl
               rotate_left; · simp only [Act.put, lz]; rfl
               refine one_ (i := 31) (N := some 99) (tf 36 32) rfl rfl (by kernel_rfl) (by decide) (fun K hK => ?_); refine goes_ Try.func33 (by kernel_rfl) rfl #[.agg #[.int .u32 (rd_T43 rows ((rows.length - 1 : Nat) : Int)).f0.f0, .int .u8 (rd_T43 rows ((rows.length - 1 : Nat) : Int)).f0.f1], .agg #[.int .u32 X.f0.f0, .int .u8 X.f0.f1]] (by rfl) rfl rfl (by simp only [List.map_toArray, List.map_cons, List.map_nil]; rfl) ?_
               with_reducible refine (prefix_Compare.calls 3 (rd_T43 rows ((rows.length - 1 : Nat) : Int)).f0.f0 (rd_T43 rows ((rows.length - 1 : Nat) : Int)).f0.f1 X.f0.f0 X.f0.f1 cv _ HCV.out).mono ?_
               rintro e_ wf3 ⟨rfl, hb⟩; refine ⟨_, rfl, ?_⟩; replace HI := Ad (IsS96.below HI.out hb); replace HB := Ad (below_step HB.out hb); replace BKT := Ad (blk_below BKT.out hb); replace BK7 := Ad (blk_below BK7.out hb); replace HR := Ad (Kd.R_below HR.out hb); clear hb; refine hK.out _ _ ⟨(blk_cell BK7.out 0).trans rfl, (blk_cell BK7.out 1).trans rfl, (blk_cell BKT.out 0).trans rfl, (table_Decode.last_is HR.out HR0.out).1, (table_Decode.last_is HR.out HR0.out).2⟩ (fun hHeld => ?_); clear hK K; refine norm_ (a' := ?_) ?_ ?_; rotate_left
               · show Act.put _ (some 99) _ = _; simp only [Act.put, lz]; rfl
               refine pu 32 100 ?_ (tf 36 33) rfl rfl (by kernel_rfl) (fun _ _ _ h => h) (by rfl) ?_ ?_ ?_ ?_; rotate_left; · intro w'; go_simp; with_reducible rfl
               rotate_left; · simp only [Act.put, lz]; rfl
               refine pu 33 101 ?_ (tf 36 34) rfl rfl (by kernel_rfl) (fun _ _ _ h => h) (by rfl) ?_ ?_ ?_ ?_; rotate_left; · intro w'; go_simp; with_reducible rfl
               rotate_left; · simp only [Act.put, lz]; rfl
               refine pu 34 102 ?_ (tf 36 35) rfl rfl (by kernel_rfl) (fun _ _ _ h => h) (by rfl) ?_ ?_ ?_ ?_; rotate_left; · intro w'; go_simp; with_reducible rfl
               rotate_left; · simp only [Act.put, lz]; rfl
               refine pu 35 103 ?_ (tf 36 36) rfl rfl (by kernel_rfl) (fun _ _ _ h => h) (by rfl) ?_ ?_ ?_ ?_; rotate_left; · intro w'; go_simp; with_reducible rfl
               rotate_left; · simp only [Act.put, lz]; rfl
               refine done_ (by kernel_rfl) ?_
               go_wp2_with (fail)
               go_meet; exact ⟨rfl, HI, HB, BKT, BK7, HR⟩
             · have i1 : decide (0 < rows.length) = false := decide_eq_false hr0
               have i1' : decide ((rows.length : Int) > 0) = false := decide_eq_false (by omega)
               have hB2 : B = false := by rw [HBB.out]; unfold table_Decode.low; rw [decide_eq_false hr0]; simp
               have HB2 := Ad hB2; clear he hB2 hr0; refine start_ (n := 36) (S := fun w' => w'.cell? ⟨g7, 0, none⟩ = some (.int .u32 X.f0.f0) ∧ w'.cell? ⟨g7, 1, none⟩ = some (.int .u8 X.f0.f1) ∧ w'.cell? ⟨gT, 0, none⟩ = some (.slice Ar rows.length cr)) (ds := []) (tf 36 0) (by kernel_rfl) rfl rfl ⟨(blk_cell BK7.out 0).trans rfl, (blk_cell BK7.out 1).trans rfl, (blk_cell BKT.out 0).trans rfl⟩ (fun hHeld => ?_); generalize wc.drew = wz at HI HB BKT BK7 HR hHeld ⊢; refine pu 0 68 ?_ (tf 36 1) rfl rfl (by kernel_rfl) (fun _ _ _ h => h) (by rfl) ?_ ?_ ?_ ?_; rotate_left; · intro w'; go_simp; with_reducible rfl
               rotate_left; · simp only [Act.put, lz]; rfl
               refine one_ (i := 1) (N := some 69) (tf 36 2) rfl rfl (by kernel_rfl) (by decide) (fun K hK => ?_); refine goes_ Try.func31 (by kernel_rfl) rfl #[.pointer (some ⟨gp, 0, none⟩)] (by rfl) rfl rfl (by simp only [List.map_toArray, List.map_cons, List.map_nil]; rfl) ?_
               with_reducible refine (coin_Purse_Fault.calls gp s' e' e' s' e' w _ HI.out HB.out rfl).mono ?_
               rintro e_ wf1 ⟨rfl, hi, hb, hkp⟩; refine ⟨_, rfl, ?_⟩; replace HI := Ad (hi); replace HB := Ad (hb); replace BKT := Ad (hkp.blk BKT.out HNE.out (by simp)); replace BK7 := Ad (hkp.blk BK7.out HN7.out (by simp)); replace HR := Ad (Kd.R_keep HR.out hkp (fun _ h => h.1)); clear hi hb hkp; refine hK.out _ _ ⟨(blk_cell BK7.out 0).trans rfl, (blk_cell BK7.out 1).trans rfl, (blk_cell BKT.out 0).trans rfl⟩ (fun hHeld => ?_); clear hK K; refine norm_ (a' := ?_) ?_ ?_; rotate_left
               · show Act.put _ (some 69) _ = _; simp only [Act.put, lz]; rfl
               refine pu 2 70 ?_ (tf 36 3) rfl rfl (by kernel_rfl) (fun _ _ _ h => h) (by rfl) ?_ ?_ ?_ ?_; rotate_left; · intro w'; go_simp; with_reducible rfl
               rotate_left; · simp only [Act.put, lz]; rfl
               refine pu 3 71 ?_ (tf 36 4) rfl rfl (by kernel_rfl) (fun _ _ _ h => h) (by rfl) ?_ ?_ ?_ ?_; rotate_left; · intro w'; go_simp; with_reducible rfl
               rotate_left; · simp only [Act.put, lz]; rfl
               refine pu 4 72 ?_ (tf 36 5) rfl rfl (by kernel_rfl) (fun _ _ _ h => h) (by rfl) ?_ ?_ ?_ ?_; rotate_left; · intro w'; go_simp; with_reducible rfl
               rotate_left; · simp only [Act.put, lz]; rfl
               refine tu 5 73 ?_ (tf 36 6) rfl rfl (by kernel_rfl) (fun _ _ _ h => h) (by rfl) ?_ hHeld ?_ ?_ ?_; rotate_left; · rintro w' ⟨s0, s1, s2⟩; go_simp; with_reducible rfl
               rotate_left; · simp only [Act.put, lz]; rfl
               refine one_ (i := 6) (N := some 74) (tf 36 7) rfl rfl (by kernel_rfl) (by decide) (fun K hK => ?_); refine goes_ Try.func32 (by kernel_rfl) rfl #[.agg #[.int .u32 X.f0.f0, .int .u8 X.f0.f1]] (by rfl) rfl rfl (by simp only [List.map_toArray, List.map_cons, List.map_nil]; rfl) ?_
               with_reducible refine (prefix_Right.calls X.f0.f0 X.f0.f1 true _ HRI.out).mono ?_
               rintro e_ wf2 ⟨rfl, hb⟩; refine ⟨_, rfl, ?_⟩; replace HI := Ad (IsS96.below HI.out hb); replace HB := Ad (below_step HB.out hb); replace BKT := Ad (blk_below BKT.out hb); replace BK7 := Ad (blk_below BK7.out hb); replace HR := Ad (Kd.R_below HR.out hb); clear hb; refine hK.out _ _ ⟨(blk_cell BK7.out 0).trans rfl, (blk_cell BK7.out 1).trans rfl, (blk_cell BKT.out 0).trans rfl⟩ (fun hHeld => ?_); clear hK K; refine norm_ (a' := ?_) ?_ ?_; rotate_left
               · show Act.put _ (some 74) _ = _; simp only [Act.put, lz]; rfl
               refine pu 7 75 ?_ (tf 36 8) rfl rfl (by kernel_rfl) (fun _ _ _ h => h) (by rfl) ?_ ?_ ?_ ?_; rotate_left; · intro w'; go_simp; with_reducible rfl
               rotate_left; · simp only [Act.put, lz]; rfl
               refine pu 8 76 ?_ (tf 36 9) rfl rfl (by kernel_rfl) (fun _ _ _ h => h) (by rfl) ?_ ?_ ?_ ?_; rotate_left; · intro w'; go_simp; with_reducible rfl
               rotate_left; · simp only [Act.put, lz]; rfl
               refine pu 9 77 ?_ (tf 36 10) rfl rfl (by kernel_rfl) (fun _ _ _ h => h) (by rfl) ?_ ?_ ?_ ?_; rotate_left; · intro w'; go_simp; with_reducible rfl
               rotate_left; · simp only [Act.put, lz]; rfl
               refine pu 10 78 ?_ (tf 36 11) rfl rfl (by kernel_rfl) (fun _ _ _ h => h) (by rfl) ?_ ?_ ?_ ?_; rotate_left; · intro w'; go_simp; with_reducible rfl
               rotate_left; · simp only [Act.put, lz]; rfl
               refine pu 11 79 ?_ (tf 36 12) rfl rfl (by kernel_rfl) (fun _ _ _ h => h) (by rfl) ?_ ?_ ?_ ?_; rotate_left; · intro w'; go_simp; with_reducible rfl
               rotate_left; · simp only [Act.put, lz]; rfl
               refine tu 12 80 ?_ (tf 36 13) rfl rfl (by kernel_rfl) (fun _ _ _ h => h) (by rfl) ?_ hHeld ?_ ?_ ?_; rotate_left; · rintro w' ⟨s0, s1, s2⟩; go_simp; with_reducible rfl
               rotate_left; · simp only [Act.put, lz]; rfl
               refine pu 13 81 ?_ (tf 36 14) rfl rfl (by kernel_rfl) (fun _ _ _ h => h) (by rfl) ?_ ?_ ?_ ?_; rotate_left; · intro w'; go_simp; with_reducible rfl
               rotate_left; · simp only [Act.put, lz]; rfl
               refine pu 14 82 ?_ (tf 36 15) rfl rfl (by kernel_rfl) (fun _ _ _ h => h) (by rfl) ?_ ?_ ?_ ?_; rotate_left; · intro w'; go_simp; with_reducible rfl
               rotate_left; · simp only [Act.put, lz]; rfl
               refine pu 15 83 ?_ (tf 36 16) rfl rfl (by kernel_rfl) (fun _ _ _ h => h) (by rfl) ?_ ?_ ?_ ?_; rotate_left; · intro w'; go_simp; with_reducible rfl
               rotate_left; · simp only [Act.put, lz]; rfl
               refine un 16 84 (tf 36 17) rfl rfl (by kernel_rfl) (fun _ _ _ h => h) (by rfl) ?_ ?_ ?_; rotate_left; · simp only [Act.put, lz]; rfl
               refine un 17 85 (tf 36 18) rfl rfl (by kernel_rfl) (fun _ _ _ h => h) (by rfl) ?_ ?_ ?_; rotate_left; · simp only [Act.put, lz]; rfl
               refine un 18 86 (tf 36 19) rfl rfl (by kernel_rfl) (fun _ _ _ h => h) (by rfl) ?_ ?_ ?_; rotate_left; · simp only [Act.put, lz]; rfl
               refine un 19 87 (tf 36 20) rfl rfl (by kernel_rfl) (fun _ _ _ h => h) (by rfl) ?_ ?_ ?_; rotate_left; · simp only [Act.put, lz]; rfl
               refine un 20 88 (tf 36 21) rfl rfl (by kernel_rfl) (fun _ _ _ h => h) (by rfl) ?_ ?_ ?_; rotate_left; · simp only [Act.put, lz]; rfl
               refine un 21 89 (tf 36 22) rfl rfl (by kernel_rfl) (fun _ _ _ h => h) (by rfl) ?_ ?_ ?_; rotate_left; · simp only [Act.put, lz]; rfl
               refine un 22 90 (tf 36 23) rfl rfl (by kernel_rfl) (fun _ _ _ h => h) (by rfl) ?_ ?_ ?_; rotate_left; · simp only [Act.put, lz]; rfl
               refine un 23 91 (tf 36 24) rfl rfl (by kernel_rfl) (fun _ _ _ h => h) (by rfl) ?_ ?_ ?_; rotate_left; · simp only [Act.put, lz]; rfl
               refine un 24 92 (tf 36 25) rfl rfl (by kernel_rfl) (fun _ _ _ h => h) (by rfl) ?_ ?_ ?_; rotate_left; · simp only [Act.put, lz]; rfl
               refine un 25 93 (tf 36 26) rfl rfl (by kernel_rfl) (fun _ _ _ h => h) (by rfl) ?_ ?_ ?_; rotate_left; · simp only [Act.put, lz]; rfl
               refine un 26 94 (tf 36 27) rfl rfl (by kernel_rfl) (fun _ _ _ h => h) (by rfl) ?_ ?_ ?_; rotate_left; · simp only [Act.put, lz]; rfl
               refine un 27 95 (tf 36 28) rfl rfl (by kernel_rfl) (fun _ _ _ h => h) (by rfl) ?_ ?_ ?_; rotate_left; · simp only [Act.put, lz]; rfl
               refine un 28 96 (tf 36 29) rfl rfl (by kernel_rfl) (fun _ _ _ h => h) (by rfl) ?_ ?_ ?_; rotate_left; · simp only [Act.put, lz]; rfl
               refine un 29 97 (tf 36 30) rfl rfl (by kernel_rfl) (fun _ _ _ h => h) (by rfl) ?_ ?_ ?_; rotate_left; · simp only [Act.put, lz]; rfl
               refine un 30 98 (tf 36 31) rfl rfl (by kernel_rfl) (fun _ _ _ h => h) (by rfl) ?_ ?_ ?_; rotate_left; · simp only [Act.put, lz]; rfl
               refine un 31 99 (tf 36 32) rfl rfl (by kernel_rfl) (fun _ _ _ h => h) (by rfl) ?_ ?_ ?_; rotate_left; · simp only [Act.put, lz]; rfl
               refine un 32 100 (tf 36 33) rfl rfl (by kernel_rfl) (fun _ _ _ h => h) (by rfl) ?_ ?_ ?_; rotate_left; · simp only [Act.put, lz]; rfl
               refine pu 33 101 ?_ (tf 36 34) rfl rfl (by kernel_rfl) (fun _ _ _ h => h) (by rfl) ?_ ?_ ?_ ?_; rotate_left; · intro w'; go_simp; with_reducible rfl
               rotate_left; · simp only [Act.put, lz]; rfl
               refine pu 34 102 ?_ (tf 36 35) rfl rfl (by kernel_rfl) (fun _ _ _ h => h) (by rfl) ?_ ?_ ?_ ?_; rotate_left; · intro w'; go_simp; with_reducible rfl
               rotate_left; · simp only [Act.put, lz]; rfl
               refine pu 35 103 ?_ (tf 36 36) rfl rfl (by kernel_rfl) (fun _ _ _ h => h) (by rfl) ?_ ?_ ?_ ?_; rotate_left; · intro w'; go_simp; with_reducible rfl
               rotate_left; · simp only [Act.put, lz]; rfl
               refine done_ (by kernel_rfl) ?_
               go_wp2_with (fail)
               go_meet; exact ⟨by rw [HB2.out], HI, HB, BKT, BK7, HR⟩
         · have p0 : (e' == 0) = false := beq_eq_false_iff_ne.mpr he
           have hB2 : B = false := by rw [HBB.out, decide_eq_false he]; rfl
           have HB2 := Ad hB2; clear he hB2; refine start_ (n := 36) (S := fun w' => w'.cell? ⟨g7, 0, none⟩ = some (.int .u32 X.f0.f0) ∧ w'.cell? ⟨g7, 1, none⟩ = some (.int .u8 X.f0.f1) ∧ w'.cell? ⟨gT, 0, none⟩ = some (.slice Ar rows.length cr)) (ds := []) (tf 36 0) (by kernel_rfl) rfl rfl ⟨(blk_cell BK7.out 0).trans rfl, (blk_cell BK7.out 1).trans rfl, (blk_cell BKT.out 0).trans rfl⟩ (fun hHeld => ?_); generalize wc.drew = wz at HI HB BKT BK7 HR hHeld ⊢; refine pu 0 68 ?_ (tf 36 1) rfl rfl (by kernel_rfl) (fun _ _ _ h => h) (by rfl) ?_ ?_ ?_ ?_; rotate_left; · intro w'; go_simp; with_reducible rfl
           rotate_left; · simp only [Act.put, lz]; rfl
           refine one_ (i := 1) (N := some 69) (tf 36 2) rfl rfl (by kernel_rfl) (by decide) (fun K hK => ?_); refine goes_ Try.func31 (by kernel_rfl) rfl #[.pointer (some ⟨gp, 0, none⟩)] (by rfl) rfl rfl (by simp only [List.map_toArray, List.map_cons, List.map_nil]; rfl) ?_
           with_reducible refine (coin_Purse_Fault.calls gp s' e' e' s' e' w _ HI.out HB.out rfl).mono ?_
           rintro e_ wf1 ⟨rfl, hi, hb, hkp⟩; refine ⟨_, rfl, ?_⟩; replace HI := Ad (hi); replace HB := Ad (hb); replace BKT := Ad (hkp.blk BKT.out HNE.out (by simp)); replace BK7 := Ad (hkp.blk BK7.out HN7.out (by simp)); replace HR := Ad (Kd.R_keep HR.out hkp (fun _ h => h.1)); clear hi hb hkp; refine hK.out _ _ ⟨(blk_cell BK7.out 0).trans rfl, (blk_cell BK7.out 1).trans rfl, (blk_cell BKT.out 0).trans rfl⟩ (fun hHeld => ?_); clear hK K; refine norm_ (a' := ?_) ?_ ?_; rotate_left
           · show Act.put _ (some 69) _ = _; simp only [Act.put, lz]; rfl
           refine pu 2 70 ?_ (tf 36 3) rfl rfl (by kernel_rfl) (fun _ _ _ h => h) (by rfl) ?_ ?_ ?_ ?_; rotate_left; · intro w'; go_simp; with_reducible rfl
           rotate_left; · simp only [Act.put, lz]; rfl
           refine pu 3 71 ?_ (tf 36 4) rfl rfl (by kernel_rfl) (fun _ _ _ h => h) (by rfl) ?_ ?_ ?_ ?_; rotate_left; · intro w'; go_simp; with_reducible rfl
           rotate_left; · simp only [Act.put, lz]; rfl
           refine un 4 72 (tf 36 5) rfl rfl (by kernel_rfl) (fun _ _ _ h => h) (by rfl) ?_ ?_ ?_; rotate_left; · simp only [Act.put, lz]; rfl
           refine un 5 73 (tf 36 6) rfl rfl (by kernel_rfl) (fun _ _ _ h => h) (by rfl) ?_ ?_ ?_; rotate_left; · simp only [Act.put, lz]; rfl
           refine un 6 74 (tf 36 7) rfl rfl (by kernel_rfl) (fun _ _ _ h => h) (by rfl) ?_ ?_ ?_; rotate_left; · simp only [Act.put, lz]; rfl
           refine un 7 75 (tf 36 8) rfl rfl (by kernel_rfl) (fun _ _ _ h => h) (by rfl) ?_ ?_ ?_; rotate_left; · simp only [Act.put, lz]; rfl
           refine un 8 76 (tf 36 9) rfl rfl (by kernel_rfl) (fun _ _ _ h => h) (by rfl) ?_ ?_ ?_; rotate_left; · simp only [Act.put, lz]; rfl
           refine un 9 77 (tf 36 10) rfl rfl (by kernel_rfl) (fun _ _ _ h => h) (by rfl) ?_ ?_ ?_; rotate_left; · simp only [Act.put, lz]; rfl
           refine un 10 78 (tf 36 11) rfl rfl (by kernel_rfl) (fun _ _ _ h => h) (by rfl) ?_ ?_ ?_; rotate_left; · simp only [Act.put, lz]; rfl
           refine un 11 79 (tf 36 12) rfl rfl (by kernel_rfl) (fun _ _ _ h => h) (by rfl) ?_ ?_ ?_; rotate_left; · simp only [Act.put, lz]; rfl
           refine un 12 80 (tf 36 13) rfl rfl (by kernel_rfl) (fun _ _ _ h => h) (by rfl) ?_ ?_ ?_; rotate_left; · simp only [Act.put, lz]; rfl
           refine un 13 81 (tf 36 14) rfl rfl (by kernel_rfl) (fun _ _ _ h => h) (by rfl) ?_ ?_ ?_; rotate_left; · simp only [Act.put, lz]; rfl
           refine un 14 82 (tf 36 15) rfl rfl (by kernel_rfl) (fun _ _ _ h => h) (by rfl) ?_ ?_ ?_; rotate_left; · simp only [Act.put, lz]; rfl
           refine un 15 83 (tf 36 16) rfl rfl (by kernel_rfl) (fun _ _ _ h => h) (by rfl) ?_ ?_ ?_; rotate_left; · simp only [Act.put, lz]; rfl
           refine un 16 84 (tf 36 17) rfl rfl (by kernel_rfl) (fun _ _ _ h => h) (by rfl) ?_ ?_ ?_; rotate_left; · simp only [Act.put, lz]; rfl
           refine un 17 85 (tf 36 18) rfl rfl (by kernel_rfl) (fun _ _ _ h => h) (by rfl) ?_ ?_ ?_; rotate_left; · simp only [Act.put, lz]; rfl
           refine un 18 86 (tf 36 19) rfl rfl (by kernel_rfl) (fun _ _ _ h => h) (by rfl) ?_ ?_ ?_; rotate_left; · simp only [Act.put, lz]; rfl
           refine un 19 87 (tf 36 20) rfl rfl (by kernel_rfl) (fun _ _ _ h => h) (by rfl) ?_ ?_ ?_; rotate_left; · simp only [Act.put, lz]; rfl
           refine un 20 88 (tf 36 21) rfl rfl (by kernel_rfl) (fun _ _ _ h => h) (by rfl) ?_ ?_ ?_; rotate_left; · simp only [Act.put, lz]; rfl
           refine un 21 89 (tf 36 22) rfl rfl (by kernel_rfl) (fun _ _ _ h => h) (by rfl) ?_ ?_ ?_; rotate_left; · simp only [Act.put, lz]; rfl
           refine un 22 90 (tf 36 23) rfl rfl (by kernel_rfl) (fun _ _ _ h => h) (by rfl) ?_ ?_ ?_; rotate_left; · simp only [Act.put, lz]; rfl
           refine un 23 91 (tf 36 24) rfl rfl (by kernel_rfl) (fun _ _ _ h => h) (by rfl) ?_ ?_ ?_; rotate_left; · simp only [Act.put, lz]; rfl
           refine un 24 92 (tf 36 25) rfl rfl (by kernel_rfl) (fun _ _ _ h => h) (by rfl) ?_ ?_ ?_; rotate_left; · simp only [Act.put, lz]; rfl
           refine un 25 93 (tf 36 26) rfl rfl (by kernel_rfl) (fun _ _ _ h => h) (by rfl) ?_ ?_ ?_; rotate_left; · simp only [Act.put, lz]; rfl
           refine un 26 94 (tf 36 27) rfl rfl (by kernel_rfl) (fun _ _ _ h => h) (by rfl) ?_ ?_ ?_; rotate_left; · simp only [Act.put, lz]; rfl
           refine un 27 95 (tf 36 28) rfl rfl (by kernel_rfl) (fun _ _ _ h => h) (by rfl) ?_ ?_ ?_; rotate_left; · simp only [Act.put, lz]; rfl
           refine un 28 96 (tf 36 29) rfl rfl (by kernel_rfl) (fun _ _ _ h => h) (by rfl) ?_ ?_ ?_; rotate_left; · simp only [Act.put, lz]; rfl
           refine un 29 97 (tf 36 30) rfl rfl (by kernel_rfl) (fun _ _ _ h => h) (by rfl) ?_ ?_ ?_; rotate_left; · simp only [Act.put, lz]; rfl
           refine un 30 98 (tf 36 31) rfl rfl (by kernel_rfl) (fun _ _ _ h => h) (by rfl) ?_ ?_ ?_; rotate_left; · simp only [Act.put, lz]; rfl
           refine un 31 99 (tf 36 32) rfl rfl (by kernel_rfl) (fun _ _ _ h => h) (by rfl) ?_ ?_ ?_; rotate_left; · simp only [Act.put, lz]; rfl
           refine un 32 100 (tf 36 33) rfl rfl (by kernel_rfl) (fun _ _ _ h => h) (by rfl) ?_ ?_ ?_; rotate_left; · simp only [Act.put, lz]; rfl
           refine un 33 101 (tf 36 34) rfl rfl (by kernel_rfl) (fun _ _ _ h => h) (by rfl) ?_ ?_ ?_; rotate_left; · simp only [Act.put, lz]; rfl
           refine un 34 102 (tf 36 35) rfl rfl (by kernel_rfl) (fun _ _ _ h => h) (by rfl) ?_ ?_ ?_; rotate_left; · simp only [Act.put, lz]; rfl
           refine pu 35 103 ?_ (tf 36 36) rfl rfl (by kernel_rfl) (fun _ _ _ h => h) (by rfl) ?_ ?_ ?_ ?_; rotate_left; · intro w'; go_simp; with_reducible rfl
           rotate_left; · simp only [Act.put, lz]; rfl
           refine done_ (by kernel_rfl) ?_
           go_wp2_with (fail)
           go_meet; exact ⟨by rw [HB2.out], HI, HB, BKT, BK7, HR⟩
        case rest =>
         clear HI HB BKT BK7 HR HRI; obtain ⟨rfl, HI, HB, BKT, BK7, HR⟩ := hcut; cases B
         · have HF2 := Ad (table_Decode.go_on HF.out HBB.out)
           have HS2 := Ad (show e' = 0 → rowSrt (rows ++ [X]) from fun h => table_Decode.srt_snoc (HS.out (by trivial)) (table_Decode.low_no h HBB.out)); clear HF HBB HS
           go_upto_region 14 with (fail)
           replace HI := Ad (IsS96.drew HI.out); replace HB := Ad (below_drew1 HB.out); replace BKT := Ad (blk_drew BKT.out); replace BK7 := Ad (blk_drew BK7.out); replace HR := Ad (Kd.R_drew HR.out); refine start_ (n := 11) (S := fun w' => w'.cell? ⟨gT, 0, none⟩ = some (.slice Ar rows.length cr) ∧ w'.cell? ⟨g7, 0, none⟩ = some (.int .u32 X.f0.f0) ∧ w'.cell? ⟨g7, 1, none⟩ = some (.int .u8 X.f0.f1) ∧ w'.cell? ⟨g7, 2, none⟩ = some (.bool X.f1) ∧ w'.cell? ⟨g7, 3, none⟩ = some (.int .u32 X.f2.f0.f0) ∧ w'.cell? ⟨g7, 4, none⟩ = some (.int .u8 X.f2.f0.f1) ∧ w'.cell? ⟨g7, 5, none⟩ = some (.int .i64 X.f2.f1) ∧ w'.cell? ⟨g7, 6, none⟩ = some (.int .u16 X.f2.f2) ∧ w'.cell? ⟨g7, 7, none⟩ = some (.int .u16 X.f2.f3) ∧ w'.cell? ⟨g7, 8, none⟩ = some (.int .u16 X.f3.f0) ∧ w'.cell? ⟨g7, 9, none⟩ = some (.int .u16 X.f3.f1)) (ds := [10]) (tf 11 0) (by kernel_rfl) rfl rfl ⟨(blk_cell (BKT.out) 0).trans rfl, (blk_cell (BK7.out) 0).trans rfl, (blk_cell (BK7.out) 1).trans rfl, (blk_cell (BK7.out) 2).trans rfl, (blk_cell (BK7.out) 3).trans rfl, (blk_cell (BK7.out) 4).trans rfl, (blk_cell (BK7.out) 5).trans rfl, (blk_cell (BK7.out) 6).trans rfl, (blk_cell (BK7.out) 7).trans rfl, (blk_cell (BK7.out) 8).trans rfl, (blk_cell (BK7.out) 9).trans rfl⟩ (fun hHeld => ?_); generalize wc.drew = wz at HI HB BKT BK7 HR hHeld ⊢; refine pu 0 104 ?_ (tf 11 1) rfl rfl (by kernel_rfl) (fun _ _ _ h => h) (by rfl) ?_ ?_ ?_ ?_; rotate_left; · intro w'; go_simp; with_reducible rfl
           rotate_left; · simp only [Act.put, lz]; rfl
           refine pu 1 105 ?_ (tf 11 2) rfl rfl (by kernel_rfl) (fun _ _ _ h => h) (by rfl) ?_ ?_ ?_ ?_; rotate_left; · intro w'; go_simp; with_reducible rfl
           rotate_left; · simp only [Act.put, lz]; rfl
           refine pu 2 106 ?_ (tf 11 3) rfl rfl (by kernel_rfl) (fun _ _ _ h => h) (by rfl) ?_ ?_ ?_ ?_; rotate_left; · intro w'; go_simp; with_reducible rfl
           rotate_left; · simp only [Act.put, lz]; rfl
           refine pu 3 107 ?_ (tf 11 4) rfl rfl (by kernel_rfl) (fun _ _ _ h => h) (by rfl) ?_ ?_ ?_ ?_; rotate_left; · intro w'; go_simp; with_reducible rfl
           rotate_left; · simp only [Act.put, lz]; rfl
           refine tu 4 108 ?_ (tf 11 5) rfl rfl (by kernel_rfl) (fun _ _ _ h => h) (by rfl) ?_ hHeld ?_ ?_ ?_; rotate_left; · rintro w' ⟨s0, s1, s2, s3, s4, s5, s6, s7, s8, s9, s10⟩; go_simp; with_reducible rfl
           rotate_left; · simp only [Act.put, lz]; rfl
           refine tu 5 109 ?_ (tf 11 6) rfl rfl (by kernel_rfl) (fun _ _ _ h => h) (by rfl) ?_ hHeld ?_ ?_ ?_; rotate_left; · rintro w' ⟨s0, s1, s2, s3, s4, s5, s6, s7, s8, s9, s10⟩; go_simp; with_reducible rfl
           rotate_left; · simp only [Act.put, lz]; rfl
           refine one_ (i := 6) (N := some 110) (tf 11 7) rfl rfl (by kernel_rfl) (by decide) (fun K hK => ?_); refine value_ (w1 := ?_) (v := ?_) (by rfl) rfl ?_ ?_; rotate_left 2
           · go_simp
             constructor
             · rfl
             · rfl
           refine hK.out _ _ ⟨(blk_cell (blk_alloc BKT.out _) 0).trans rfl, (blk_cell (blk_alloc BK7.out _) 0).trans rfl, (blk_cell (blk_alloc BK7.out _) 1).trans rfl, (blk_cell (blk_alloc BK7.out _) 2).trans rfl, (blk_cell (blk_alloc BK7.out _) 3).trans rfl, (blk_cell (blk_alloc BK7.out _) 4).trans rfl, (blk_cell (blk_alloc BK7.out _) 5).trans rfl, (blk_cell (blk_alloc BK7.out _) 6).trans rfl, (blk_cell (blk_alloc BK7.out _) 7).trans rfl, (blk_cell (blk_alloc BK7.out _) 8).trans rfl, (blk_cell (blk_alloc BK7.out _) 9).trans rfl⟩ (fun hHeld => ?_); clear hK K; refine norm_ (a' := ?_) ?_ ?_; rotate_left
           · show Act.put _ (some 110) _ = _; simp only [Act.put, lz]; rfl
           refine one_ (i := 7) (N := some 111) (tf 11 8) rfl rfl (by kernel_rfl) (by decide) (fun K hK => ?_); refine Kd.R_append_step k43 (w0 := w) w.heap.size (by rfl) (.tmp 108) (.tmp 110) 48 43 (.agg #[.int .u32 0, .int .u8 0, .bool false, .int .u32 0, .int .u8 0, .int .i64 0, .int .u16 0, .int .u16 0, .int .u16 0, .int .u16 0]) 48 rfl Try.underlying48 (by kernel_rfl) rfl (by decide) (by omega) (.slice Ar rows.length cr) rows X [.int .u32 X.f0.f0, .int .u8 X.f0.f1, .bool X.f1, .int .u32 X.f2.f0.f0, .int .u8 X.f2.f0.f1, .int .i64 X.f2.f1, .int .u16 X.f2.f2, .int .u16 X.f2.f3, .int .u16 X.f3.f0, .int .u16 X.f3.f1] (fun k_ => k_ ≠ gp) (fun _ => False) rfl rfl (k43_mkM _ _ _ X) (fun _ h => h.elim) (fun k_ hk => by have := HI.out.lt; omega) (Kd.R_mono HR.out (fun _ h => h.1)) HB.out HB.out.size (by omega) ?_; intro v1_ w1 hR1 hb1 hg1 _
           obtain ⟨A1, n1, c1, rfl⟩ : ∃ A1 n1 c1, v1_ = .slice A1 n1 c1 := by obtain ⟨A1, c1, e1, _, _⟩ := Kd.R_reads hR1; exact ⟨A1, _, c1, e1⟩
           have ok_ := HR.out.1; replace HI := Ad (IsS96.grown HI.out hg1 (fun h => (ok_ gp h.symm).1 rfl)); replace BKT := Ad (blk_grown BKT.out hg1 (Kd.R_ne HR.out BKT.out (by decide))); replace BK7 := Ad (blk_grown BK7.out hg1 (fun h => (ok_ g7 h.symm).2 rfl)); replace HB := Ad (hb1); clear HR ok_ hg1 hb1
           have HR := Ad (show Kd.R k43 43 w1 w.heap.size (fun k_ => k_ ≠ gp ∧ k_ ≠ gT) (.slice A1 n1 c1) (rows ++ [X]) from Kd.R_types hR1 BKT.out (fun q hq => by
            have hq2 : q = 43 := List.mem_singleton.1 (show q ∈ [43] from hq); subst hq2
            decide))
           clear hR1; refine hK.out _ _ ⟨(blk_cell (BKT.out) 0).trans rfl, (blk_cell (BK7.out) 0).trans rfl, (blk_cell (BK7.out) 1).trans rfl, (blk_cell (BK7.out) 2).trans rfl, (blk_cell (BK7.out) 3).trans rfl, (blk_cell (BK7.out) 4).trans rfl, (blk_cell (BK7.out) 5).trans rfl, (blk_cell (BK7.out) 6).trans rfl, (blk_cell (BK7.out) 7).trans rfl, (blk_cell (BK7.out) 8).trans rfl, (blk_cell (BK7.out) 9).trans rfl⟩ (fun hHeld => ?_); clear hK K; refine norm_ (a' := ?_) ?_ ?_; rotate_left
           · show Act.put _ (some 111) _ = _; simp only [Act.put, lz]; rfl
           refine pu 8 112 ?_ (tf 11 9) rfl rfl (by kernel_rfl) (fun _ _ _ h => h) (by rfl) ?_ ?_ ?_ ?_; rotate_left; · intro w'; go_simp; with_reducible rfl
           rotate_left; · simp only [Act.put, lz]; rfl
           refine pu 9 113 ?_ (tf 11 10) rfl rfl (by kernel_rfl) (fun _ _ _ h => h) (by rfl) ?_ ?_ ?_ ?_; rotate_left; · intro w'; go_simp; with_reducible rfl
           rotate_left; · simp only [Act.put, lz]; rfl
           refine last_ (i := 10) (N := none) (tf 11 11) rfl rfl (by kernel_rfl) (by decide) (fun K hK => ?_); have y0 := blk_frozen BKT.out 0; have hg0 : w1.cell? ⟨gT, 0, none⟩ = some (.slice Ar rows.length cr) := (blk_cell BKT.out 0).trans rfl; refine skip_ (w1 := ?_) (by rfl) rfl ?_ ?_; rotate_left; · go_simp; rfl
           clear y0 hg0; replace HI := Ad (HI.out.far (p := ⟨gT, 0, none⟩) (fun h => HNE.out h.symm) (.slice A1 n1 c1)); replace HB := Ad (below_set (j := 0) (v := .slice A1 n1 c1) HB.out GET.out); replace BKT := Ad (blk_put (cs' := #[.slice A1 n1 c1, .int .u64 no, .int .u64 tm]) BKT.out 0 (.slice A1 n1 c1) rfl); replace HR := Ad (Kd.R_mono (Kd.R_keep HR.out (KeepBut.set_ (KeepBut.refl w1 gT none) 0 (.slice A1 n1 c1)) (fun _ h => h.2)) (fun _ h => h.1)); refine hK.out _ _ ?_; clear hK K; refine done_ (by kernel_rfl) ?_; clear hHeld
           go_wp2_with (fail)
           go_roundg k1
           case measure => omega
           case rel => exact ⟨n - 1, s', e', rows ++ [X], .slice A1 n1 c1, rfl, by omega, by rw [List.length_append]; simp only [List.length_cons, List.length_nil]; omega, HI, HB, BKT, HR, HS2, HF2⟩
         · obtain ⟨rfl, rfl⟩ := table_Decode.stop HF.out HBB.out
           go_wp2_with (fail)
           go_ret2
           exact ⟨rfl, HB.out⟩
     · rw [if_neg (fun q => he q.2)] at hf
       have p1 : (e == 0) = false := beq_eq_false_iff_ne.mpr he; clear HF he; obtain ⟨⟨z, z2, z3⟩, hz, hf1⟩ := Option.bind_eq_some_iff.mp hf; have HZ := Ad hz; have HF1 := Ad (show (if z = 0 then some (some rows, 0) else some (none, z)) = some (ro, rr) from hf1); clear hf hf1 hz
       go_wp2_with (fail)
       refine (coin_Purse_End.calls gp s e z z2 z3 w _ HI.out HB.out HZ.out).mono ?_; rintro e_ wy ⟨rfl, hi, hb, hkp⟩; replace HI := Ad (hi); replace HB := Ad (hb); replace BKT := Ad (hkp.blk BKT.out HNE.out (by simp)); replace HR := Ad (Kd.R_keep HR.out hkp (fun _ h => h)); clear hi hb hkp
       by_cases hz0 : z = 0
       · have hf1 := HF1.out
         rw [if_pos hz0] at hf1; have hx := Option.some.inj hf1
         simp only [Prod.mk.injEq] at hx
         obtain ⟨rfl, rfl⟩ := hx; have he0 := table_Decode.end_0 (by rw [hz0] at HZ; exact HZ.out); have HS3 := Ad (HS.out he0); have p2 : (z != 0) = false := bne_eq_false_iff_eq.mpr hz0; clear hz0 hf1 HF1 HZ HS he0
         go_wp2_with (fail)
         go_ret2
         exact ⟨⟨gT, rfl, v, BKT.out, GET.out, Kd.R_mono HR.out (fun _ _ => trivial), HS3.out, (show rows.length ≤ 256 from by omega)⟩, HB.out⟩
       · have hf1 := HF1.out
         rw [if_neg hz0] at hf1; have hx := Option.some.inj hf1
         simp only [Prod.mk.injEq] at hx
         obtain ⟨rfl, rfl⟩ := hx; have p2 : (z != 0) = true := bne_iff_ne.mpr hz0; clear hz0 hf1 HF1 HZ
         go_wp2_with (fail)
         go_ret2
         exact ⟨rfl, HB.out⟩
   · have q1 : decide (n > 0) = false := decide_eq_false hn
     have q2 : decide (0 < n) = false := decide_eq_false hn; rw [if_neg (fun q => hn q.1)] at hf; clear HF; obtain ⟨⟨z, z2, z3⟩, hz, hf1⟩ := Option.bind_eq_some_iff.mp hf; have HZ := Ad hz; have HF1 := Ad (show (if z = 0 then some (some rows, 0) else some (none, z)) = some (ro, rr) from hf1); clear hf hf1 hz
     go_wp2_with (fail)
     refine (coin_Purse_End.calls gp s e z z2 z3 w _ HI.out HB.out HZ.out).mono ?_; rintro e_ wy ⟨rfl, hi, hb, hkp⟩; replace HI := Ad (hi); replace HB := Ad (hb); replace BKT := Ad (hkp.blk BKT.out HNE.out (by simp)); replace HR := Ad (Kd.R_keep HR.out hkp (fun _ h => h)); clear hi hb hkp
     by_cases hz0 : z = 0
     · have hf1 := HF1.out
       rw [if_pos hz0] at hf1; have hx := Option.some.inj hf1
       simp only [Prod.mk.injEq] at hx
       obtain ⟨rfl, rfl⟩ := hx; have he0 := table_Decode.end_0 (by rw [hz0] at HZ; exact HZ.out); have HS3 := Ad (HS.out he0); have p2 : (z != 0) = false := bne_eq_false_iff_eq.mpr hz0; clear hz0 hf1 HF1 HZ HS he0
       go_wp2_with (fail)
       go_ret2
       exact ⟨⟨gT, rfl, v, BKT.out, GET.out, Kd.R_mono HR.out (fun _ _ => trivial), HS3.out, (show rows.length ≤ 256 from by omega)⟩, HB.out⟩
     · have hf1 := HF1.out
       rw [if_neg hz0] at hf1; have hx := Option.some.inj hf1
       simp only [Prod.mk.injEq] at hx
       obtain ⟨rfl, rfl⟩ := hx; have p2 : (z != 0) = true := bne_iff_ne.mpr hz0; clear hz0 hf1 HF1 HZ
       go_wp2_with (fail)
       go_ret2
       exact ⟨rfl, HB.out⟩

end Go.Proofs.Ytmkjgiejnlmncaa.QTableBytes
