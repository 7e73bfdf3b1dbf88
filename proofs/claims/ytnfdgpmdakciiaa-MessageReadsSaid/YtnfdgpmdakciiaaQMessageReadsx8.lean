-- Lines by a program of this session, for this claim.
import Derived.Test.YtnfdgpmdakciiaaQMessageReadsx0
import Derived.Test.YtnfdgpmdakciiaaQMessageReadsx2
import Derived.Test.YtnfdgpmdakciiaaQMessageReadsx7
namespace Go.Proofs.Ytnfdgpmdakciiaa.QMessageReads
open Go.RowKit Go.Proofs.YtnfdgpmdakciiaaW.PrintWords Go.Proofs.YtnfdgpmdakciiaaW.PrintLast Go.Proofs.YtnfdgpmdakciiaaW.PrintMore
attribute [local go_sem] max2_int min2_int max_two min_two max_three min_three max_four min_four   -- for this text's walks alone
set_option linter.unusedVariables false
set_option linter.unusedSimpArgs false

/-! ### message_part: function 33 -/
def message_part.place (k : Nat) (b : List Int) (e : Int) : Option (Int × Int × Int × List Int × Int) := (coin_Purse_Take.f k b e 4294967295).bind fun t => (coin_Purse_Take.f k t.2.1 t.2.2 32).bind fun u => (coin_Purse_Take.f k u.2.1 u.2.2 65535).bind fun v => some (IntKind.u32.wrap t.1, IntKind.u8.wrap u.1, IntKind.u16.wrap v.1, v.2.1, v.2.2)
def message_part.fin (a0 a1 a2 a3 a4 a5 a6 : Int) (b : List Int) (e : Int) : Option (Int × Int × Int × Int × Int × Int × Int × Bool) := (coin_Purse_End.f b e).bind fun t => if t.1 = 0 then (message_Right.f a0 a1 a2 a3 a4 a5 a6).bind fun ok => some (a0, a1, a2, a3, a4, a5, a6, ok) else some (a0, a1, a2, a3, a4, a5, a6, false)
def message_part.f (k : Nat) (a0 : Int) (l1 : List Int) : Option (Int × Int × Int × Int × Int × Int × Int × Bool) :=
  if a0 = 1 then (coin_Purse_Take.f k l1 0 4294967295).bind fun t => message_part.fin a0 t.1 0 0 0 0 0 t.2.1 t.2.2
  else if a0 = 2 then (coin_Purse_Take.f k l1 0 15).bind fun t => (coin_Purse_Take.f k t.2.1 t.2.2 65535).bind fun u => message_part.fin a0 0 (IntKind.i64.wrap t.1) 0 0 0 (IntKind.u16.wrap u.1) u.2.1 u.2.2
  else if a0 = 3 then (coin_Purse_Take.f k l1 0 15).bind fun t => (message_part.place k t.2.1 t.2.2).bind fun p => (coin_Purse_Take.f k p.2.2.2.1 p.2.2.2.2 65535).bind fun u => message_part.fin a0 0 (wrap64 t.1) p.1 p.2.1 p.2.2.1 (IntKind.u16.wrap u.1) u.2.1 u.2.2
  else if a0 = 4 then (message_part.place k l1 0).bind fun p => (coin_Purse_Take.f k p.2.2.2.1 p.2.2.2.2 64).bind fun u => message_part.fin a0 u.1 0 p.1 p.2.1 p.2.2.1 0 u.2.1 u.2.2
  else some (0, 0, 0, 0, 0, 0, 0, false)
theorem message_part.place_mono (b : List Int) (e : Int) (k : Nat) : LeO (message_part.place k b e) (message_part.place (k + 1) b e) := by
  unfold message_part.place
  exact LeO.bind (coin_Purse_Take.mono _ _ _ _) (fun _ => LeO.bind (coin_Purse_Take.mono _ _ _ _) (fun _ => LeO.bind (coin_Purse_Take.mono _ _ _ _) (fun _ => LeO.refl _)))
theorem message_part.mono (a0 : Int) (l1 : List Int) (k : Nat) : LeO (message_part.f k a0 l1) (message_part.f (k + 1) a0 l1) := by
  unfold message_part.f
  exact LeO.ite (LeO.bind (coin_Purse_Take.mono _ _ _ _) (fun _ => LeO.refl _)) (LeO.ite (LeO.bind (coin_Purse_Take.mono _ _ _ _) (fun _ => LeO.bind (coin_Purse_Take.mono _ _ _ _) (fun _ => LeO.refl _))) (LeO.ite (LeO.bind (coin_Purse_Take.mono _ _ _ _) (fun _ => LeO.bind (message_part.place_mono _ _ _) (fun _ => LeO.bind (coin_Purse_Take.mono _ _ _ _) (fun _ => LeO.refl _)))) (LeO.ite (LeO.bind (message_part.place_mono _ _ _) (fun _ => LeO.bind (coin_Purse_Take.mono _ _ _ _) (fun _ => LeO.refl _))) (LeO.refl _))))
def message_part.zs : Array Value := #[.int .u8 0, .int .u64 0, .int .i64 0, .int .u32 0, .int .u8 0, .int .u16 0, .int .u16 0]
structure message_part.PI (w0 W : World) (gp g4 g6 g7 : Nat) (b : List Int) (e : Int) (cs : Array Value) : Prop where
  st : IsS71 w0 W gp b e
  bl : Below w0.heap.size w0 W
  h4 : W.heap[g4]? = some (.cells message_part.zs 28 (0, 0))
  h6 : W.heap[g6]? = some (.cells #[.pointer (some ⟨gp, 0, none⟩)] 58 (0, 0))
  h7 : W.heap[g7]? = some (.cells cs 28 (0, 0))
  n4 : g4 ≠ gp
  n6 : g6 ≠ gp
  n7 : g7 ≠ gp
  n74 : g4 ≠ g7
  n76 : g6 ≠ g7
  n46 : g4 ≠ g6
  b7 : w0.heap.size ≤ g7
  b4 : w0.heap.size ≤ g4
theorem message_part.PI.drew {w0 W : World} {gp g4 g6 g7 : Nat} {b : List Int} {e : Int} {cs : Array Value} (h : message_part.PI w0 W gp g4 g6 g7 b e cs) : message_part.PI w0 W.drew gp g4 g6 g7 b e cs :=
  ⟨IsS71.drew h.st, below_drew1 h.bl, h.h4, h.h6, h.h7, h.n4, h.n6, h.n7, h.n74, h.n76, h.n46, h.b7, h.b4⟩
theorem message_part.PI.set {w0 W : World} {gp g4 g6 g7 : Nat} {b : List Int} {e : Int} {cs : Array Value} (h : message_part.PI w0 W gp g4 g6 g7 b e cs) (j : Nat) (v : Value) : message_part.PI w0 (W.setCell ⟨g7, j, none⟩ v) gp g4 g6 g7 b e (cs.setIfInBounds j v) :=
  ⟨IsS71.far h.st (Ne.symm h.n7) _, below_set h.bl h.b7, blk_far h.h4 h.n74 _, blk_far h.h6 h.n76 _, blk_set h.h7 j v, h.n4, h.n6, h.n7, h.n74, h.n76, h.n46, h.b7, h.b4⟩
theorem message_part.PI.take (w0 W : World) (gp g4 g6 g7 : Nat) (b : List Int) (e : Int) (cs : Array Value) (h : message_part.PI w0 W gp g4 g6 g7 b e cs) {k : Nat} {m r1 : Int} {r2 : List Int} {r3 : Int} (ht : coin_Purse_Take.f k b e m = some (r1, r2, r3)) :
    Calls Try.prog 29 #[.pointer (some ⟨gp, 0, none⟩), .int .u64 m] W fun e w' => e = .returned (.int .u64 r1) ∧ Aside0 (message_part.PI w0 w' gp g4 g6 g7 r2 r3 cs) := by
  refine (coin_Purse_Take.calls k gp b e m r1 r2 r3 w0 W h.st h.bl ht).mono ?_
  rintro e w' ⟨rfl, h1, h2, h3⟩
  exact ⟨rfl, ⟨⟨h1, h2, KeepBut.blk h3 h.h4 h.n4 (by simp), KeepBut.blk h3 h.h6 h.n6 (by simp), KeepBut.blk h3 h.h7 h.n7 (by simp), h.n4, h.n6, h.n7, h.n74, h.n76, h.n46, h.b7, h.b4⟩⟩⟩
set_option maxHeartbeats 8000000 in
theorem message_part.place_any {w0 W : World} {gp g4 g6 g7 : Nat} {b : List Int} {e : Int} (x0 x1 x2 x3 x4 x5 x6 : Value) (h : message_part.PI w0 W gp g4 g6 g7 b e #[x0, x1, x2, x3, x4, x5, x6]) {k : Nat} {r1 r2 r3 : Int} {r4 : List Int} {r5 : Int} (hp : message_part.place k b e = some (r1, r2, r3, r4, r5)) :
    Calls Try.prog 41 #[.pointer (some ⟨g6, 0, none⟩), .pointer (some ⟨g7, 0, none⟩)] W fun e w' => e = .returned (.tuple #[]) ∧ Aside0 (message_part.PI w0 w' gp g4 g6 g7 r4 r5 #[x0, x1, x2, .int .u32 r1, .int .u8 r2, .int .u16 r3, x6]) := by
  unfold message_part.place at hp
  obtain ⟨⟨t1, t2, t3⟩, h1, hp⟩ := Option.bind_eq_some_iff.mp hp
  obtain ⟨⟨u1, u2, u3⟩, h2, hp⟩ := Option.bind_eq_some_iff.mp hp
  obtain ⟨⟨v1, v2, v3⟩, h3, hp⟩ := Option.bind_eq_some_iff.mp hp
  simp only [Option.some.injEq, Prod.mk.injEq] at hp
  obtain ⟨rfl, rfl, rfl, rfl, rfl⟩ := hp
  have H1 := Aside0.mk h1
  have H2 := Aside0.mk h2
  have H3 := Aside0.mk h3
  have HI := Aside0.mk h
  have hc6 : W.cell? ⟨g6, 0, none⟩ = some (.pointer (some ⟨gp, 0, none⟩)) := (blk_cell h.h6 0).trans rfl
  have hf3 := blk_frozen h.h7 3
  have hf4 := blk_frozen h.h7 4
  have hd3 : W.cell? ⟨g7, 3, none⟩ = some x3 := (blk_cell h.h7 3).trans rfl
  have hd4 : W.cell? ⟨g7, 4, none⟩ = some x4 := (blk_cell h.h7 4).trans rfl
  have n67 := Ne.symm h.n76
  have n76 := h.n76
  clear h1 h2 h3 h
  go_enter Try.func41, Try.ntmps41
  go_wp2_with (fail)
  go_region_held3 (fun w' => w'.cell? ⟨g6, 0, none⟩ = some (.pointer (some ⟨gp, 0, none⟩))) (go_keep)
    ((first | ((with_reducible refine (message_part.PI.take w0 _ gp g4 g6 g7 b e #[x0, x1, x2, x3, x4, x5, x6] ?sa1 H1.out).mono ?_); (case sa1 => first | exact HI.out | exact (message_part.PI.drew HI.out)); rintro e w2 ⟨rfl, HI2⟩; have hc6_2 : w2.cell? ⟨g6, 0, none⟩ = some (.pointer (some ⟨gp, 0, none⟩)) := (blk_cell HI2.out.h6 0).trans rfl; have hf3_2 := blk_frozen HI2.out.h7 3; have hf4_2 := blk_frozen HI2.out.h7 4; have hd3_2 : w2.cell? ⟨g7, 3, none⟩ = some x3 := (blk_cell HI2.out.h7 3).trans rfl; have hd4_2 : w2.cell? ⟨g7, 4, none⟩ = some x4 := (blk_cell HI2.out.h7 4).trans rfl) | ((with_reducible refine (message_part.PI.take w0 _ gp g4 g6 g7 t2 t3 #[x0, x1, x2, x3, x4, x5, x6] ?sa2 H2.out).mono ?_); (case sa2 => first | exact HI2.out | exact (message_part.PI.drew HI2.out)); rintro e w3 ⟨rfl, HI3⟩; have hc6_3 : w3.cell? ⟨g6, 0, none⟩ = some (.pointer (some ⟨gp, 0, none⟩)) := (blk_cell HI3.out.h6 0).trans rfl; have hf3_3 := blk_frozen HI3.out.h7 3; have hf4_3 := blk_frozen HI3.out.h7 4; have hd3_3 : w3.cell? ⟨g7, 3, none⟩ = some x3 := (blk_cell HI3.out.h7 3).trans rfl; have hd4_3 : w3.cell? ⟨g7, 4, none⟩ = some x4 := (blk_cell HI3.out.h7 4).trans rfl)))
  all_goals
    go_wp2_with (fail)
    refine (message_part.PI.take w0 _ gp g4 g6 g7 u2 u3 _ ((HI3.out.set 3 _).set 4 _) H3.out).mono ?_
    rintro e w4 ⟨rfl, HI4⟩
    have hf5 := blk_frozen HI4.out.h7 5
    have hd5 : w4.cell? ⟨g7, 5, none⟩ = some x5 := (blk_cell HI4.out.h7 5).trans rfl
    go_wp2_with (fail)
    first | go_end0 | ((try simp only [Exit.inBlock, Exit.then]); refine bodyPost_ret (results_none rfl _ _ _) rfl ?_)
    exact ⟨rfl, ⟨HI4.out.set 5 _⟩⟩
theorem message_part.end_any (w0 W : World) (gp g4 g6 g7 : Nat) (b : List Int) (e : Int) (cs : Array Value) (h : message_part.PI w0 W gp g4 g6 g7 b e cs) {r1 : Int} {r2 : List Int} {r3 : Int} (ht : coin_Purse_End.f b e = some (r1, r2, r3)) :
    Calls Try.prog 42 #[.pointer (some ⟨gp, 0, none⟩)] W fun e w' => e = .returned (.int .i64 r1) ∧ Aside0 (message_part.PI w0 w' gp g4 g6 g7 r2 r3 cs) := by
  refine (coin_Purse_End.calls gp b e r1 r2 r3 w0 W h.st h.bl ht).mono ?_
  rintro e w' ⟨rfl, h1, h2, h3⟩
  exact ⟨rfl, ⟨⟨h1, h2, KeepBut.blk h3 h.h4 h.n4 (by simp), KeepBut.blk h3 h.h6 h.n6 (by simp), KeepBut.blk h3 h.h7 h.n7 (by simp), h.n4, h.n6, h.n7, h.n74, h.n76, h.n46, h.b7, h.b4⟩⟩⟩
theorem message_part.right_any (w0 W : World) (gp g4 g6 g7 : Nat) (b : List Int) (e : Int) (cs : Array Value) (h : message_part.PI w0 W gp g4 g6 g7 b e cs) (a0 a1 a2 a3 a4 a5 a6 : Int) (ok : Bool) (ht : message_Right.f a0 a1 a2 a3 a4 a5 a6 = some ok) :
    Calls Try.prog 13 #[.agg #[.int .u8 a0, .int .u64 a1, .int .i64 a2, .int .u32 a3, .int .u8 a4, .int .u16 a5, .int .u16 a6]] W fun e w' => e = .returned (.bool ok) ∧ Aside0 (w'.heap[g4]? = some (.cells message_part.zs 28 (0, 0))) ∧ Aside0 (w'.heap[g7]? = some (.cells cs 28 (0, 0))) ∧ Aside0 (w'.heap[g6]? = some (.cells #[.pointer (some ⟨gp, 0, none⟩)] 58 (0, 0))) ∧ Aside0 (Below w0.heap.size w0 w') := by
  refine (message_Right.calls a0 a1 a2 a3 a4 a5 a6 ok W ht).mono ?_
  rintro e w' ⟨rfl, hb⟩
  exact ⟨rfl, ⟨blk_below h.h4 hb⟩, ⟨blk_below h.h7 hb⟩, ⟨blk_below h.h6 hb⟩, ⟨below_step h.bl hb⟩⟩
theorem message_part.PI.start (w w1 : World) (gp : Nat) (l1 : List Int) (a0 : Int) (hI : IsS71 w w1 gp l1 0) (hb0 : Below w.heap.size w w1) (hb1 : Below (w.alloc (.cells message_part.zs 28 (0, 0))).heap.size (w.alloc (.cells message_part.zs 28 (0, 0))) w1) :
    message_part.PI w ((w1.alloc (.cells #[.pointer (some ⟨gp, 0, none⟩)] 58 (0, 0))).alloc (.cells #[.int .u8 a0, .int .u64 0, .int .i64 0, .int .u32 0, .int .u8 0, .int .u16 0, .int .u16 0] 28 (0, 0))) gp w.heap.size w1.heap.size (w1.heap.size + 1) l1 0 #[.int .u8 a0, .int .u64 0, .int .i64 0, .int .u32 0, .int .u8 0, .int .u16 0, .int .u16 0] := by
  have h4 : w1.heap[w.heap.size]? = some (.cells message_part.zs 28 (0, 0)) := blk_below (by simpa using heap_alloc_new w (.cells message_part.zs 28 (0, 0))) hb1
  have hlt := IsS71.lt hI
  have hne := IsS71.ne_blk hI h4 (by decide)
  have hl4 := blk_lt h4
  have h6 : (w1.alloc (.cells #[.pointer (some ⟨gp, 0, none⟩)] 58 (0, 0))).heap[w1.heap.size]? = some (.cells #[.pointer (some ⟨gp, 0, none⟩)] 58 (0, 0)) := by simpa using heap_alloc_new w1 _
  refine ⟨IsS71.alloc (IsS71.alloc hI _) _, below_alloc (below_alloc hb0 _) _, blk_alloc (blk_alloc h4 _) _, blk_alloc h6 _, ?_, Ne.symm hne, by omega, by omega, by omega, by omega, by omega, ?_, Nat.le_refl _⟩
  · have := heap_alloc_new (w1.alloc (.cells #[.pointer (some ⟨gp, 0, none⟩)] 58 (0, 0))) (.cells #[.int .u8 a0, .int .u64 0, .int .i64 0, .int .u32 0, .int .u8 0, .int .u16 0, .int .u16 0] 28 (0, 0))
    simpa using this
  · omega
theorem message_part.fill {w0 W : World} {g4 : Nat} (h : W.heap[g4]? = some (.cells message_part.zs 28 (0, 0))) (hb : Below w0.heap.size w0 W) (h4 : w0.heap.size ≤ g4) (v0 v1 v2 v3 v4 v5 v6 : Value) :
    (((((((W.setCell ⟨g4, 0, none⟩ v0).setCell ⟨g4, 1, none⟩ v1).setCell ⟨g4, 2, none⟩ v2).setCell ⟨g4, 3, none⟩ v3).setCell ⟨g4, 4, none⟩ v4).setCell ⟨g4, 5, none⟩ v5).setCell ⟨g4, 6, none⟩ v6).heap[g4]? = some (.cells #[v0, v1, v2, v3, v4, v5, v6] 28 (0, 0)) ∧
    Below w0.heap.size w0 (((((((W.setCell ⟨g4, 0, none⟩ v0).setCell ⟨g4, 1, none⟩ v1).setCell ⟨g4, 2, none⟩ v2).setCell ⟨g4, 3, none⟩ v3).setCell ⟨g4, 4, none⟩ v4).setCell ⟨g4, 5, none⟩ v5).setCell ⟨g4, 6, none⟩ v6) :=
  ⟨by simpa [message_part.zs] using blk_set (blk_set (blk_set (blk_set (blk_set (blk_set (blk_set h 0 v0) 1 v1) 2 v2) 3 v3) 4 v4) 5 v5) 6 v6,
   below_set (below_set (below_set (below_set (below_set (below_set (below_set hb h4) h4) h4) h4) h4) h4) h4⟩
set_option maxHeartbeats 8000000 in
theorem message_part.calls (k : Nat) (a0 : Int) (A1 : Option Addr) (c1 : Nat) (l1 : List Int) (r1 : Int) (r2 : Int) (r3 : Int) (r4 : Int) (r5 : Int) (r6 : Int) (r7 : Int) (r8 : Bool) (w : World) (hr1 : Kd.C (Kd.int .u8) w A1 l1.length l1) (hc1 : l1.length ≤ c1) (h : message_part.f k a0 l1 = some (r1, r2, r3, r4, r5, r6, r7, r8)) :
    Calls Try.prog 33 #[.int .u8 a0, .slice A1 l1.length c1] w fun e w' => e = .returned (.tuple #[.agg #[.int .u8 r1, .int .u64 r2, .int .i64 r3, .int .u32 r4, .int .u8 r5, .int .u16 r6, .int .u16 r7], .bool r8]) ∧ Below w.heap.size w w' := by
  have hmf : ∀ (fn : Fn) (first cap : Array Value) (w : World), (Instr.makeFunc fn first cap).run Try.prog w = .ok (.func fn first cap) w := fun _ _ _ _ => rfl
  have HR := Aside0.mk hr1
  have HC := Aside0.mk hc1
  clear hr1 hc1
  unfold message_part.f at h
  by_cases c1 : a0 = 1
  · rw [if_pos c1] at h
    have e1 : (a0 == 1) = true := beq_iff_eq.mpr c1
    clear c1
    obtain ⟨⟨t1, t2, t3⟩, h1, h⟩ := Option.bind_eq_some_iff.mp h
    have H1 := Aside0.mk h1
    have HF := Aside0.mk h
    clear h1 h
    go_enter Try.func33, Try.ntmps33
    go_wp2_with (fail)
    refine (coin_NewPurse.calls A1 c1 l1 l1 0 w _ (below_alloc (Below.refl _ _) _) HR.out HC.out rfl).mono ?_
    rintro e w1 ⟨gp, rfl, hI, hb0, hb1⟩
    have HI := Aside0.mk (message_part.PI.start w w1 gp l1 a0 hI hb0 hb1)
    clear hI hb0 hb1
    have hc6 := (blk_cell HI.out.h6 0).trans rfl
    go_wp2_with (fail)
    refine (message_part.PI.take w _ gp _ _ _ l1 0 _ HI.out H1.out).mono ?_
    rintro e w2 ⟨rfl, HI2⟩
    have hf1 := blk_frozen HI2.out.h7 1
    have hd1 := (blk_cell HI2.out.h7 1).trans rfl
    go_wp2_with (fail)
    clear hf1 hd1 hc6
    generalize hW : w2.setCell ⟨w1.heap.size + 1, 1, none⟩ (.int .u64 t1) = W3
    have HI3 := Aside0.mk (show message_part.PI w W3 gp w.heap.size w1.heap.size (w1.heap.size + 1) t2 t3 #[.int .u8 a0, .int .u64 t1, .int .i64 0, .int .u32 0, .int .u8 0, .int .u16 0, .int .u16 0] by rw [← hW]; exact HI2.out.set 1 _)
    clear hW
    have hcx : W3.cell? ⟨w1.heap.size, 0, none⟩ = some (.pointer (some ⟨gp, 0, none⟩)) := (blk_cell HI3.out.h6 0).trans rfl
    have hq0 : W3.cell? ⟨w1.heap.size + 1, 0, none⟩ = some (.int .u8 a0) := (blk_cell HI3.out.h7 0).trans rfl
    have hq1 : W3.cell? ⟨w1.heap.size + 1, 1, none⟩ = some (.int .u64 t1) := (blk_cell HI3.out.h7 1).trans rfl
    have hq2 : W3.cell? ⟨w1.heap.size + 1, 2, none⟩ = some (.int .i64 0) := (blk_cell HI3.out.h7 2).trans rfl
    have hq3 : W3.cell? ⟨w1.heap.size + 1, 3, none⟩ = some (.int .u32 0) := (blk_cell HI3.out.h7 3).trans rfl
    have hq4 : W3.cell? ⟨w1.heap.size + 1, 4, none⟩ = some (.int .u8 0) := (blk_cell HI3.out.h7 4).trans rfl
    have hq5 : W3.cell? ⟨w1.heap.size + 1, 5, none⟩ = some (.int .u16 0) := (blk_cell HI3.out.h7 5).trans rfl
    have hq6 : W3.cell? ⟨w1.heap.size + 1, 6, none⟩ = some (.int .u16 0) := (blk_cell HI3.out.h7 6).trans rfl
    have nA := HI3.out.n46
    have nA' := Ne.symm HI3.out.n46
    have nB := HI3.out.n74
    have nB' := Ne.symm HI3.out.n74
    have HF' := HF.out
    unfold message_part.fin at HF'
    obtain ⟨⟨z1, z2, z3⟩, hE, HF'⟩ := Option.bind_eq_some_iff.mp HF'
    have HE := Aside0.mk hE
    clear hE
    by_cases cz : z1 = 0
    · rw [if_pos cz] at HF'
      have ez : (z1 == 0) = true := beq_iff_eq.mpr cz
      clear cz
      obtain ⟨ok, hRT, HF'⟩ := Option.bind_eq_some_iff.mp HF'
      have HRT := Aside0.mk hRT
      simp only [Option.some.injEq, Prod.mk.injEq] at HF'
      obtain ⟨rfl, rfl, rfl, rfl, rfl, rfl, rfl, rfl⟩ := HF'
      clear hRT
      go_region_held3 (fun w' => w'.cell? ⟨w1.heap.size, 0, none⟩ = some (.pointer (some ⟨gp, 0, none⟩)) ∧ w'.cell? ⟨w1.heap.size + 1, 0, none⟩ = some (.int .u8 a0) ∧ w'.cell? ⟨w1.heap.size + 1, 1, none⟩ = some (.int .u64 t1) ∧ w'.cell? ⟨w1.heap.size + 1, 2, none⟩ = some (.int .i64 0) ∧ w'.cell? ⟨w1.heap.size + 1, 3, none⟩ = some (.int .u32 0) ∧ w'.cell? ⟨w1.heap.size + 1, 4, none⟩ = some (.int .u8 0) ∧ w'.cell? ⟨w1.heap.size + 1, 5, none⟩ = some (.int .u16 0) ∧ w'.cell? ⟨w1.heap.size + 1, 6, none⟩ = some (.int .u16 0)) (go_keep) ((first | ((with_reducible refine (message_part.end_any w _ gp w.heap.size w1.heap.size (w1.heap.size + 1) t2 t3 #[.int .u8 a0, .int .u64 t1, .int .i64 0, .int .u32 0, .int .u8 0, .int .u16 0, .int .u16 0] ?s1a HE.out).mono ?_); (case s1a => first | exact HI3.out | exact (message_part.PI.drew HI3.out)); rintro e w5 ⟨rfl, HI5⟩; have hcx_5 : w5.cell? ⟨w1.heap.size, 0, none⟩ = some (.pointer (some ⟨gp, 0, none⟩)) := (blk_cell HI5.out.h6 0).trans rfl; have hq0_5 : w5.cell? ⟨w1.heap.size + 1, 0, none⟩ = some (.int .u8 a0) := (blk_cell HI5.out.h7 0).trans rfl; have hq1_5 : w5.cell? ⟨w1.heap.size + 1, 1, none⟩ = some (.int .u64 t1) := (blk_cell HI5.out.h7 1).trans rfl; have hq2_5 : w5.cell? ⟨w1.heap.size + 1, 2, none⟩ = some (.int .i64 0) := (blk_cell HI5.out.h7 2).trans rfl; have hq3_5 : w5.cell? ⟨w1.heap.size + 1, 3, none⟩ = some (.int .u32 0) := (blk_cell HI5.out.h7 3).trans rfl; have hq4_5 : w5.cell? ⟨w1.heap.size + 1, 4, none⟩ = some (.int .u8 0) := (blk_cell HI5.out.h7 4).trans rfl; have hq5_5 : w5.cell? ⟨w1.heap.size + 1, 5, none⟩ = some (.int .u16 0) := (blk_cell HI5.out.h7 5).trans rfl; have hq6_5 : w5.cell? ⟨w1.heap.size + 1, 6, none⟩ = some (.int .u16 0) := (blk_cell HI5.out.h7 6).trans rfl; have hz0_5 : w5.cell? ⟨w.heap.size, 0, none⟩ = some (.int .u8 0) := (blk_cell HI5.out.h4 0).trans rfl; have hy0_5 := blk_frozen HI5.out.h4 0; have hz1_5 : w5.cell? ⟨w.heap.size, 1, none⟩ = some (.int .u64 0) := (blk_cell HI5.out.h4 1).trans rfl; have hy1_5 := blk_frozen HI5.out.h4 1; have hz2_5 : w5.cell? ⟨w.heap.size, 2, none⟩ = some (.int .i64 0) := (blk_cell HI5.out.h4 2).trans rfl; have hy2_5 := blk_frozen HI5.out.h4 2; have hz3_5 : w5.cell? ⟨w.heap.size, 3, none⟩ = some (.int .u32 0) := (blk_cell HI5.out.h4 3).trans rfl; have hy3_5 := blk_frozen HI5.out.h4 3; have hz4_5 : w5.cell? ⟨w.heap.size, 4, none⟩ = some (.int .u8 0) := (blk_cell HI5.out.h4 4).trans rfl; have hy4_5 := blk_frozen HI5.out.h4 4; have hz5_5 : w5.cell? ⟨w.heap.size, 5, none⟩ = some (.int .u16 0) := (blk_cell HI5.out.h4 5).trans rfl; have hy5_5 := blk_frozen HI5.out.h4 5; have hz6_5 : w5.cell? ⟨w.heap.size, 6, none⟩ = some (.int .u16 0) := (blk_cell HI5.out.h4 6).trans rfl; have hy6_5 := blk_frozen HI5.out.h4 6) | ((with_reducible refine (message_part.right_any w _ gp w.heap.size w1.heap.size (w1.heap.size + 1) z2 z3 #[.int .u8 a0, .int .u64 t1, .int .i64 0, .int .u32 0, .int .u8 0, .int .u16 0, .int .u16 0] ?s1b a0 t1 0 0 0 0 0 ok HRT.out).mono ?_); (case s1b => first | exact HI5.out | exact (message_part.PI.drew HI5.out)); rintro e w6 ⟨rfl, H64, H67, H66, H6B⟩; have hcx_6 : w6.cell? ⟨w1.heap.size, 0, none⟩ = some (.pointer (some ⟨gp, 0, none⟩)) := (blk_cell H66.out 0).trans rfl; have hq0_6 : w6.cell? ⟨w1.heap.size + 1, 0, none⟩ = some (.int .u8 a0) := (blk_cell H67.out 0).trans rfl; have hq1_6 : w6.cell? ⟨w1.heap.size + 1, 1, none⟩ = some (.int .u64 t1) := (blk_cell H67.out 1).trans rfl; have hq2_6 : w6.cell? ⟨w1.heap.size + 1, 2, none⟩ = some (.int .i64 0) := (blk_cell H67.out 2).trans rfl; have hq3_6 : w6.cell? ⟨w1.heap.size + 1, 3, none⟩ = some (.int .u32 0) := (blk_cell H67.out 3).trans rfl; have hq4_6 : w6.cell? ⟨w1.heap.size + 1, 4, none⟩ = some (.int .u8 0) := (blk_cell H67.out 4).trans rfl; have hq5_6 : w6.cell? ⟨w1.heap.size + 1, 5, none⟩ = some (.int .u16 0) := (blk_cell H67.out 5).trans rfl; have hq6_6 : w6.cell? ⟨w1.heap.size + 1, 6, none⟩ = some (.int .u16 0) := (blk_cell H67.out 6).trans rfl; have hz0_6 : w6.cell? ⟨w.heap.size, 0, none⟩ = some (.int .u8 0) := (blk_cell H64.out 0).trans rfl; have hy0_6 := blk_frozen H64.out 0; have hz1_6 : w6.cell? ⟨w.heap.size, 1, none⟩ = some (.int .u64 0) := (blk_cell H64.out 1).trans rfl; have hy1_6 := blk_frozen H64.out 1; have hz2_6 : w6.cell? ⟨w.heap.size, 2, none⟩ = some (.int .i64 0) := (blk_cell H64.out 2).trans rfl; have hy2_6 := blk_frozen H64.out 2; have hz3_6 : w6.cell? ⟨w.heap.size, 3, none⟩ = some (.int .u32 0) := (blk_cell H64.out 3).trans rfl; have hy3_6 := blk_frozen H64.out 3; have hz4_6 : w6.cell? ⟨w.heap.size, 4, none⟩ = some (.int .u8 0) := (blk_cell H64.out 4).trans rfl; have hy4_6 := blk_frozen H64.out 4; have hz5_6 : w6.cell? ⟨w.heap.size, 5, none⟩ = some (.int .u16 0) := (blk_cell H64.out 5).trans rfl; have hy5_6 := blk_frozen H64.out 5; have hz6_6 : w6.cell? ⟨w.heap.size, 6, none⟩ = some (.int .u16 0) := (blk_cell H64.out 6).trans rfl; have hy6_6 := blk_frozen H64.out 6)))
      all_goals
        go_wp2_with (fail)
        refine bodyPost_ret (results_ct rfl _ _ w.heap.size 28 #[.int .u8 a0, .int .u64 t1, .int .i64 0, .int .u32 0, .int .u8 0, .int .u16 0, .int .u16 0] (0, 0) _ rfl (message_part.fill H64.out H6B.out HI3.out.b4 (.int .u8 a0) (.int .u64 t1) (.int .i64 0) (.int .u32 0) (.int .u8 0) (.int .u16 0) (.int .u16 0)).1 Try.underlying28 rfl (by kernel_rfl)) rfl ?_
        exact ⟨rfl, (message_part.fill H64.out H6B.out HI3.out.b4 (.int .u8 a0) (.int .u64 t1) (.int .i64 0) (.int .u32 0) (.int .u8 0) (.int .u16 0) (.int .u16 0)).2⟩
    · rw [if_neg cz] at HF'
      have ez : (z1 == 0) = false := beq_eq_false_iff_ne.mpr cz
      clear cz
      simp only [Option.some.injEq, Prod.mk.injEq] at HF'
      obtain ⟨rfl, rfl, rfl, rfl, rfl, rfl, rfl, rfl⟩ := HF'
      go_region_with ((first | ((with_reducible refine (message_part.end_any w _ gp w.heap.size w1.heap.size (w1.heap.size + 1) t2 t3 #[.int .u8 a0, .int .u64 t1, .int .i64 0, .int .u32 0, .int .u8 0, .int .u16 0, .int .u16 0] ?s1c HE.out).mono ?_); (case s1c => first | exact HI3.out | exact (message_part.PI.drew HI3.out)); rintro e w5 ⟨rfl, HI5⟩; have hcx_5 : w5.cell? ⟨w1.heap.size, 0, none⟩ = some (.pointer (some ⟨gp, 0, none⟩)) := (blk_cell HI5.out.h6 0).trans rfl; have hq0_5 : w5.cell? ⟨w1.heap.size + 1, 0, none⟩ = some (.int .u8 a0) := (blk_cell HI5.out.h7 0).trans rfl; have hq1_5 : w5.cell? ⟨w1.heap.size + 1, 1, none⟩ = some (.int .u64 t1) := (blk_cell HI5.out.h7 1).trans rfl; have hq2_5 : w5.cell? ⟨w1.heap.size + 1, 2, none⟩ = some (.int .i64 0) := (blk_cell HI5.out.h7 2).trans rfl; have hq3_5 : w5.cell? ⟨w1.heap.size + 1, 3, none⟩ = some (.int .u32 0) := (blk_cell HI5.out.h7 3).trans rfl; have hq4_5 : w5.cell? ⟨w1.heap.size + 1, 4, none⟩ = some (.int .u8 0) := (blk_cell HI5.out.h7 4).trans rfl; have hq5_5 : w5.cell? ⟨w1.heap.size + 1, 5, none⟩ = some (.int .u16 0) := (blk_cell HI5.out.h7 5).trans rfl; have hq6_5 : w5.cell? ⟨w1.heap.size + 1, 6, none⟩ = some (.int .u16 0) := (blk_cell HI5.out.h7 6).trans rfl; have hz0_5 : w5.cell? ⟨w.heap.size, 0, none⟩ = some (.int .u8 0) := (blk_cell HI5.out.h4 0).trans rfl; have hy0_5 := blk_frozen HI5.out.h4 0; have hz1_5 : w5.cell? ⟨w.heap.size, 1, none⟩ = some (.int .u64 0) := (blk_cell HI5.out.h4 1).trans rfl; have hy1_5 := blk_frozen HI5.out.h4 1; have hz2_5 : w5.cell? ⟨w.heap.size, 2, none⟩ = some (.int .i64 0) := (blk_cell HI5.out.h4 2).trans rfl; have hy2_5 := blk_frozen HI5.out.h4 2; have hz3_5 : w5.cell? ⟨w.heap.size, 3, none⟩ = some (.int .u32 0) := (blk_cell HI5.out.h4 3).trans rfl; have hy3_5 := blk_frozen HI5.out.h4 3; have hz4_5 : w5.cell? ⟨w.heap.size, 4, none⟩ = some (.int .u8 0) := (blk_cell HI5.out.h4 4).trans rfl; have hy4_5 := blk_frozen HI5.out.h4 4; have hz5_5 : w5.cell? ⟨w.heap.size, 5, none⟩ = some (.int .u16 0) := (blk_cell HI5.out.h4 5).trans rfl; have hy5_5 := blk_frozen HI5.out.h4 5; have hz6_5 : w5.cell? ⟨w.heap.size, 6, none⟩ = some (.int .u16 0) := (blk_cell HI5.out.h4 6).trans rfl; have hy6_5 := blk_frozen HI5.out.h4 6)))
      all_goals
        go_wp2_with (fail)
        refine bodyPost_ret (results_ct rfl _ _ w.heap.size 28 #[.int .u8 a0, .int .u64 t1, .int .i64 0, .int .u32 0, .int .u8 0, .int .u16 0, .int .u16 0] (0, 0) _ rfl (message_part.fill HI5.out.h4 HI5.out.bl HI3.out.b4 (.int .u8 a0) (.int .u64 t1) (.int .i64 0) (.int .u32 0) (.int .u8 0) (.int .u16 0) (.int .u16 0)).1 Try.underlying28 rfl (by kernel_rfl)) rfl ?_
        exact ⟨rfl, (message_part.fill HI5.out.h4 HI5.out.bl HI3.out.b4 (.int .u8 a0) (.int .u64 t1) (.int .i64 0) (.int .u32 0) (.int .u8 0) (.int .u16 0) (.int .u16 0)).2⟩
  · rw [if_neg c1] at h
    have e1 : (a0 == 1) = false := beq_eq_false_iff_ne.mpr c1
    clear c1
    by_cases c2 : a0 = 2
    · rw [if_pos c2] at h
      have e2 : (a0 == 2) = true := beq_iff_eq.mpr c2
      clear c2
      obtain ⟨⟨t1, t2, t3⟩, h1, h⟩ := Option.bind_eq_some_iff.mp h
      obtain ⟨⟨u1, u2, u3⟩, h2, h⟩ := Option.bind_eq_some_iff.mp h
      have H1 := Aside0.mk h1
      have H2 := Aside0.mk h2
      have HF := Aside0.mk h
      clear h1 h2 h
      go_enter Try.func33, Try.ntmps33
      go_wp2_with (fail)
      refine (coin_NewPurse.calls A1 c1 l1 l1 0 w _ (below_alloc (Below.refl _ _) _) HR.out HC.out rfl).mono ?_
      rintro e w1 ⟨gp, rfl, hI, hb0, hb1⟩
      have HI := Aside0.mk (message_part.PI.start w w1 gp l1 a0 hI hb0 hb1)
      clear hI hb0 hb1
      have hc6 := (blk_cell HI.out.h6 0).trans rfl
      go_wp2_with (fail)
      have nA := HI.out.n76
      have nA' := Ne.symm HI.out.n76
      go_region_held3 (fun w' => w'.cell? ⟨w1.heap.size, 0, none⟩ = some (.pointer (some ⟨gp, 0, none⟩))) (go_keep) ((first | ((with_reducible refine (message_part.PI.take w _ gp w.heap.size w1.heap.size (w1.heap.size + 1) l1 0 #[.int .u8 a0, .int .u64 0, .int .i64 0, .int .u32 0, .int .u8 0, .int .u16 0, .int .u16 0] ?s2d H1.out).mono ?_); (case s2d => first | exact HI.out | exact (message_part.PI.drew HI.out)); rintro e w2 ⟨rfl, HI2⟩; have hx2_2 : w2.cell? ⟨w1.heap.size + 1, 2, none⟩ = some (.int .i64 0) := (blk_cell HI2.out.h7 2).trans rfl; have hx6_2 : w2.cell? ⟨w1.heap.size + 1, 6, none⟩ = some (.int .u16 0) := (blk_cell HI2.out.h7 6).trans rfl; have hy2_2 := blk_frozen HI2.out.h7 2; have hy6_2 := blk_frozen HI2.out.h7 6; have hp_2 : w2.cell? ⟨w1.heap.size, 0, none⟩ = some (.pointer (some ⟨gp, 0, none⟩)) := (blk_cell HI2.out.h6 0).trans rfl) | ((with_reducible refine (message_part.PI.take w _ gp w.heap.size w1.heap.size (w1.heap.size + 1) t2 t3 #[.int .u8 a0, .int .u64 0, .int .i64 0, .int .u32 0, .int .u8 0, .int .u16 0, .int .u16 0] ?s2e H2.out).mono ?_); (case s2e => first | exact HI2.out | exact (message_part.PI.drew HI2.out)); rintro e w3 ⟨rfl, HI3z⟩; have hx2_3 : w3.cell? ⟨w1.heap.size + 1, 2, none⟩ = some (.int .i64 0) := (blk_cell HI3z.out.h7 2).trans rfl; have hx6_3 : w3.cell? ⟨w1.heap.size + 1, 6, none⟩ = some (.int .u16 0) := (blk_cell HI3z.out.h7 6).trans rfl; have hy2_3 := blk_frozen HI3z.out.h7 2; have hy6_3 := blk_frozen HI3z.out.h7 6; have hp_3 : w3.cell? ⟨w1.heap.size, 0, none⟩ = some (.pointer (some ⟨gp, 0, none⟩)) := (blk_cell HI3z.out.h6 0).trans rfl)))
      all_goals
        go_wp2_with (fail)
        clear hc6
        generalize hW : (w3.setCell ⟨w1.heap.size + 1, 2, none⟩ (.int .i64 (IntKind.i64.wrap t1))).setCell ⟨w1.heap.size + 1, 6, none⟩ (.int .u16 (IntKind.u16.wrap u1)) = W3
        have HI3 := Aside0.mk (show message_part.PI w W3 gp w.heap.size w1.heap.size (w1.heap.size + 1) u2 u3 #[.int .u8 a0, .int .u64 0, .int .i64 (IntKind.i64.wrap t1), .int .u32 0, .int .u8 0, .int .u16 0, .int .u16 (IntKind.u16.wrap u1)] by rw [← hW]; exact (HI3z.out.set 2 _).set 6 _)
        clear hW
        have hcx : W3.cell? ⟨w1.heap.size, 0, none⟩ = some (.pointer (some ⟨gp, 0, none⟩)) := (blk_cell HI3.out.h6 0).trans rfl
        have hq0 : W3.cell? ⟨w1.heap.size + 1, 0, none⟩ = some (.int .u8 a0) := (blk_cell HI3.out.h7 0).trans rfl
        have hq1 : W3.cell? ⟨w1.heap.size + 1, 1, none⟩ = some (.int .u64 0) := (blk_cell HI3.out.h7 1).trans rfl
        have hq2 : W3.cell? ⟨w1.heap.size + 1, 2, none⟩ = some (.int .i64 (IntKind.i64.wrap t1)) := (blk_cell HI3.out.h7 2).trans rfl
        have hq3 : W3.cell? ⟨w1.heap.size + 1, 3, none⟩ = some (.int .u32 0) := (blk_cell HI3.out.h7 3).trans rfl
        have hq4 : W3.cell? ⟨w1.heap.size + 1, 4, none⟩ = some (.int .u8 0) := (blk_cell HI3.out.h7 4).trans rfl
        have hq5 : W3.cell? ⟨w1.heap.size + 1, 5, none⟩ = some (.int .u16 0) := (blk_cell HI3.out.h7 5).trans rfl
        have hq6 : W3.cell? ⟨w1.heap.size + 1, 6, none⟩ = some (.int .u16 (IntKind.u16.wrap u1)) := (blk_cell HI3.out.h7 6).trans rfl
        have nA := HI3.out.n46
        have nA' := Ne.symm HI3.out.n46
        have nB := HI3.out.n74
        have nB' := Ne.symm HI3.out.n74
        have HF' := HF.out
        unfold message_part.fin at HF'
        obtain ⟨⟨z1, z2, z3⟩, hE, HF'⟩ := Option.bind_eq_some_iff.mp HF'
        have HE := Aside0.mk hE
        clear hE
        by_cases cz : z1 = 0
        · rw [if_pos cz] at HF'
          have ez : (z1 == 0) = true := beq_iff_eq.mpr cz
          clear cz
          obtain ⟨ok, hRT, HF'⟩ := Option.bind_eq_some_iff.mp HF'
          have HRT := Aside0.mk hRT
          simp only [Option.some.injEq, Prod.mk.injEq] at HF'
          obtain ⟨rfl, rfl, rfl, rfl, rfl, rfl, rfl, rfl⟩ := HF'
          clear hRT
          go_region_held3 (fun w' => w'.cell? ⟨w1.heap.size, 0, none⟩ = some (.pointer (some ⟨gp, 0, none⟩)) ∧ w'.cell? ⟨w1.heap.size + 1, 0, none⟩ = some (.int .u8 a0) ∧ w'.cell? ⟨w1.heap.size + 1, 1, none⟩ = some (.int .u64 0) ∧ w'.cell? ⟨w1.heap.size + 1, 2, none⟩ = some (.int .i64 (IntKind.i64.wrap t1)) ∧ w'.cell? ⟨w1.heap.size + 1, 3, none⟩ = some (.int .u32 0) ∧ w'.cell? ⟨w1.heap.size + 1, 4, none⟩ = some (.int .u8 0) ∧ w'.cell? ⟨w1.heap.size + 1, 5, none⟩ = some (.int .u16 0) ∧ w'.cell? ⟨w1.heap.size + 1, 6, none⟩ = some (.int .u16 (IntKind.u16.wrap u1))) (go_keep) ((first | ((with_reducible refine (message_part.end_any w _ gp w.heap.size w1.heap.size (w1.heap.size + 1) u2 u3 #[.int .u8 a0, .int .u64 0, .int .i64 (IntKind.i64.wrap t1), .int .u32 0, .int .u8 0, .int .u16 0, .int .u16 (IntKind.u16.wrap u1)] ?s2a HE.out).mono ?_); (case s2a => first | exact HI3.out | exact (message_part.PI.drew HI3.out)); rintro e w5 ⟨rfl, HI5⟩; have hcx_5 : w5.cell? ⟨w1.heap.size, 0, none⟩ = some (.pointer (some ⟨gp, 0, none⟩)) := (blk_cell HI5.out.h6 0).trans rfl; have hq0_5 : w5.cell? ⟨w1.heap.size + 1, 0, none⟩ = some (.int .u8 a0) := (blk_cell HI5.out.h7 0).trans rfl; have hq1_5 : w5.cell? ⟨w1.heap.size + 1, 1, none⟩ = some (.int .u64 0) := (blk_cell HI5.out.h7 1).trans rfl; have hq2_5 : w5.cell? ⟨w1.heap.size + 1, 2, none⟩ = some (.int .i64 (IntKind.i64.wrap t1)) := (blk_cell HI5.out.h7 2).trans rfl; have hq3_5 : w5.cell? ⟨w1.heap.size + 1, 3, none⟩ = some (.int .u32 0) := (blk_cell HI5.out.h7 3).trans rfl; have hq4_5 : w5.cell? ⟨w1.heap.size + 1, 4, none⟩ = some (.int .u8 0) := (blk_cell HI5.out.h7 4).trans rfl; have hq5_5 : w5.cell? ⟨w1.heap.size + 1, 5, none⟩ = some (.int .u16 0) := (blk_cell HI5.out.h7 5).trans rfl; have hq6_5 : w5.cell? ⟨w1.heap.size + 1, 6, none⟩ = some (.int .u16 (IntKind.u16.wrap u1)) := (blk_cell HI5.out.h7 6).trans rfl; have hz0_5 : w5.cell? ⟨w.heap.size, 0, none⟩ = some (.int .u8 0) := (blk_cell HI5.out.h4 0).trans rfl; have hy0_5 := blk_frozen HI5.out.h4 0; have hz1_5 : w5.cell? ⟨w.heap.size, 1, none⟩ = some (.int .u64 0) := (blk_cell HI5.out.h4 1).trans rfl; have hy1_5 := blk_frozen HI5.out.h4 1; have hz2_5 : w5.cell? ⟨w.heap.size, 2, none⟩ = some (.int .i64 0) := (blk_cell HI5.out.h4 2).trans rfl; have hy2_5 := blk_frozen HI5.out.h4 2; have hz3_5 : w5.cell? ⟨w.heap.size, 3, none⟩ = some (.int .u32 0) := (blk_cell HI5.out.h4 3).trans rfl; have hy3_5 := blk_frozen HI5.out.h4 3; have hz4_5 : w5.cell? ⟨w.heap.size, 4, none⟩ = some (.int .u8 0) := (blk_cell HI5.out.h4 4).trans rfl; have hy4_5 := blk_frozen HI5.out.h4 4; have hz5_5 : w5.cell? ⟨w.heap.size, 5, none⟩ = some (.int .u16 0) := (blk_cell HI5.out.h4 5).trans rfl; have hy5_5 := blk_frozen HI5.out.h4 5; have hz6_5 : w5.cell? ⟨w.heap.size, 6, none⟩ = some (.int .u16 0) := (blk_cell HI5.out.h4 6).trans rfl; have hy6_5 := blk_frozen HI5.out.h4 6) | ((with_reducible refine (message_part.right_any w _ gp w.heap.size w1.heap.size (w1.heap.size + 1) z2 z3 #[.int .u8 a0, .int .u64 0, .int .i64 (IntKind.i64.wrap t1), .int .u32 0, .int .u8 0, .int .u16 0, .int .u16 (IntKind.u16.wrap u1)] ?s2b a0 0 (IntKind.i64.wrap t1) 0 0 0 (IntKind.u16.wrap u1) ok HRT.out).mono ?_); (case s2b => first | exact HI5.out | exact (message_part.PI.drew HI5.out)); rintro e w6 ⟨rfl, H64, H67, H66, H6B⟩; have hcx_6 : w6.cell? ⟨w1.heap.size, 0, none⟩ = some (.pointer (some ⟨gp, 0, none⟩)) := (blk_cell H66.out 0).trans rfl; have hq0_6 : w6.cell? ⟨w1.heap.size + 1, 0, none⟩ = some (.int .u8 a0) := (blk_cell H67.out 0).trans rfl; have hq1_6 : w6.cell? ⟨w1.heap.size + 1, 1, none⟩ = some (.int .u64 0) := (blk_cell H67.out 1).trans rfl; have hq2_6 : w6.cell? ⟨w1.heap.size + 1, 2, none⟩ = some (.int .i64 (IntKind.i64.wrap t1)) := (blk_cell H67.out 2).trans rfl; have hq3_6 : w6.cell? ⟨w1.heap.size + 1, 3, none⟩ = some (.int .u32 0) := (blk_cell H67.out 3).trans rfl; have hq4_6 : w6.cell? ⟨w1.heap.size + 1, 4, none⟩ = some (.int .u8 0) := (blk_cell H67.out 4).trans rfl; have hq5_6 : w6.cell? ⟨w1.heap.size + 1, 5, none⟩ = some (.int .u16 0) := (blk_cell H67.out 5).trans rfl; have hq6_6 : w6.cell? ⟨w1.heap.size + 1, 6, none⟩ = some (.int .u16 (IntKind.u16.wrap u1)) := (blk_cell H67.out 6).trans rfl; have hz0_6 : w6.cell? ⟨w.heap.size, 0, none⟩ = some (.int .u8 0) := (blk_cell H64.out 0).trans rfl; have hy0_6 := blk_frozen H64.out 0; have hz1_6 : w6.cell? ⟨w.heap.size, 1, none⟩ = some (.int .u64 0) := (blk_cell H64.out 1).trans rfl; have hy1_6 := blk_frozen H64.out 1; have hz2_6 : w6.cell? ⟨w.heap.size, 2, none⟩ = some (.int .i64 0) := (blk_cell H64.out 2).trans rfl; have hy2_6 := blk_frozen H64.out 2; have hz3_6 : w6.cell? ⟨w.heap.size, 3, none⟩ = some (.int .u32 0) := (blk_cell H64.out 3).trans rfl; have hy3_6 := blk_frozen H64.out 3; have hz4_6 : w6.cell? ⟨w.heap.size, 4, none⟩ = some (.int .u8 0) := (blk_cell H64.out 4).trans rfl; have hy4_6 := blk_frozen H64.out 4; have hz5_6 : w6.cell? ⟨w.heap.size, 5, none⟩ = some (.int .u16 0) := (blk_cell H64.out 5).trans rfl; have hy5_6 := blk_frozen H64.out 5; have hz6_6 : w6.cell? ⟨w.heap.size, 6, none⟩ = some (.int .u16 0) := (blk_cell H64.out 6).trans rfl; have hy6_6 := blk_frozen H64.out 6)))
          all_goals
            go_wp2_with (fail)
            refine bodyPost_ret (results_ct rfl _ _ w.heap.size 28 #[.int .u8 a0, .int .u64 0, .int .i64 (IntKind.i64.wrap t1), .int .u32 0, .int .u8 0, .int .u16 0, .int .u16 (IntKind.u16.wrap u1)] (0, 0) _ rfl (message_part.fill H64.out H6B.out HI3.out.b4 (.int .u8 a0) (.int .u64 0) (.int .i64 (IntKind.i64.wrap t1)) (.int .u32 0) (.int .u8 0) (.int .u16 0) (.int .u16 (IntKind.u16.wrap u1))).1 Try.underlying28 rfl (by kernel_rfl)) rfl ?_
            exact ⟨rfl, (message_part.fill H64.out H6B.out HI3.out.b4 (.int .u8 a0) (.int .u64 0) (.int .i64 (IntKind.i64.wrap t1)) (.int .u32 0) (.int .u8 0) (.int .u16 0) (.int .u16 (IntKind.u16.wrap u1))).2⟩
        · rw [if_neg cz] at HF'
          have ez : (z1 == 0) = false := beq_eq_false_iff_ne.mpr cz
          clear cz
          simp only [Option.some.injEq, Prod.mk.injEq] at HF'
          obtain ⟨rfl, rfl, rfl, rfl, rfl, rfl, rfl, rfl⟩ := HF'
          go_region_with ((first | ((with_reducible refine (message_part.end_any w _ gp w.heap.size w1.heap.size (w1.heap.size + 1) u2 u3 #[.int .u8 a0, .int .u64 0, .int .i64 (IntKind.i64.wrap t1), .int .u32 0, .int .u8 0, .int .u16 0, .int .u16 (IntKind.u16.wrap u1)] ?s2c HE.out).mono ?_); (case s2c => first | exact HI3.out | exact (message_part.PI.drew HI3.out)); rintro e w5 ⟨rfl, HI5⟩; have hcx_5 : w5.cell? ⟨w1.heap.size, 0, none⟩ = some (.pointer (some ⟨gp, 0, none⟩)) := (blk_cell HI5.out.h6 0).trans rfl; have hq0_5 : w5.cell? ⟨w1.heap.size + 1, 0, none⟩ = some (.int .u8 a0) := (blk_cell HI5.out.h7 0).trans rfl; have hq1_5 : w5.cell? ⟨w1.heap.size + 1, 1, none⟩ = some (.int .u64 0) := (blk_cell HI5.out.h7 1).trans rfl; have hq2_5 : w5.cell? ⟨w1.heap.size + 1, 2, none⟩ = some (.int .i64 (IntKind.i64.wrap t1)) := (blk_cell HI5.out.h7 2).trans rfl; have hq3_5 : w5.cell? ⟨w1.heap.size + 1, 3, none⟩ = some (.int .u32 0) := (blk_cell HI5.out.h7 3).trans rfl; have hq4_5 : w5.cell? ⟨w1.heap.size + 1, 4, none⟩ = some (.int .u8 0) := (blk_cell HI5.out.h7 4).trans rfl; have hq5_5 : w5.cell? ⟨w1.heap.size + 1, 5, none⟩ = some (.int .u16 0) := (blk_cell HI5.out.h7 5).trans rfl; have hq6_5 : w5.cell? ⟨w1.heap.size + 1, 6, none⟩ = some (.int .u16 (IntKind.u16.wrap u1)) := (blk_cell HI5.out.h7 6).trans rfl; have hz0_5 : w5.cell? ⟨w.heap.size, 0, none⟩ = some (.int .u8 0) := (blk_cell HI5.out.h4 0).trans rfl; have hy0_5 := blk_frozen HI5.out.h4 0; have hz1_5 : w5.cell? ⟨w.heap.size, 1, none⟩ = some (.int .u64 0) := (blk_cell HI5.out.h4 1).trans rfl; have hy1_5 := blk_frozen HI5.out.h4 1; have hz2_5 : w5.cell? ⟨w.heap.size, 2, none⟩ = some (.int .i64 0) := (blk_cell HI5.out.h4 2).trans rfl; have hy2_5 := blk_frozen HI5.out.h4 2; have hz3_5 : w5.cell? ⟨w.heap.size, 3, none⟩ = some (.int .u32 0) := (blk_cell HI5.out.h4 3).trans rfl; have hy3_5 := blk_frozen HI5.out.h4 3; have hz4_5 : w5.cell? ⟨w.heap.size, 4, none⟩ = some (.int .u8 0) := (blk_cell HI5.out.h4 4).trans rfl; have hy4_5 := blk_frozen HI5.out.h4 4; have hz5_5 : w5.cell? ⟨w.heap.size, 5, none⟩ = some (.int .u16 0) := (blk_cell HI5.out.h4 5).trans rfl; have hy5_5 := blk_frozen HI5.out.h4 5; have hz6_5 : w5.cell? ⟨w.heap.size, 6, none⟩ = some (.int .u16 0) := (blk_cell HI5.out.h4 6).trans rfl; have hy6_5 := blk_frozen HI5.out.h4 6)))
          all_goals
            go_wp2_with (fail)
            refine bodyPost_ret (results_ct rfl _ _ w.heap.size 28 #[.int .u8 a0, .int .u64 0, .int .i64 (IntKind.i64.wrap t1), .int .u32 0, .int .u8 0, .int .u16 0, .int .u16 (IntKind.u16.wrap u1)] (0, 0) _ rfl (message_part.fill HI5.out.h4 HI5.out.bl HI3.out.b4 (.int .u8 a0) (.int .u64 0) (.int .i64 (IntKind.i64.wrap t1)) (.int .u32 0) (.int .u8 0) (.int .u16 0) (.int .u16 (IntKind.u16.wrap u1))).1 Try.underlying28 rfl (by kernel_rfl)) rfl ?_
            exact ⟨rfl, (message_part.fill HI5.out.h4 HI5.out.bl HI3.out.b4 (.int .u8 a0) (.int .u64 0) (.int .i64 (IntKind.i64.wrap t1)) (.int .u32 0) (.int .u8 0) (.int .u16 0) (.int .u16 (IntKind.u16.wrap u1))).2⟩
    · rw [if_neg c2] at h
      have e2 : (a0 == 2) = false := beq_eq_false_iff_ne.mpr c2
      clear c2
      by_cases c3 : a0 = 3
      · rw [if_pos c3] at h
        have e3 : (a0 == 3) = true := beq_iff_eq.mpr c3
        clear c3
        obtain ⟨⟨t1, t2, t3⟩, h1, h⟩ := Option.bind_eq_some_iff.mp h
        obtain ⟨⟨p1, p2, p3, p4, p5⟩, h2, h⟩ := Option.bind_eq_some_iff.mp h
        obtain ⟨⟨u1, u2, u3⟩, h3, h⟩ := Option.bind_eq_some_iff.mp h
        have H1 := Aside0.mk h1
        have H2 := Aside0.mk h2
        have H3 := Aside0.mk h3
        have HF := Aside0.mk h
        clear h1 h2 h3 h
        go_enter Try.func33, Try.ntmps33
        go_wp2_with (fail)
        refine (coin_NewPurse.calls A1 c1 l1 l1 0 w _ (below_alloc (Below.refl _ _) _) HR.out HC.out rfl).mono ?_
        rintro e w1 ⟨gp, rfl, hI, hb0, hb1⟩
        have HI := Aside0.mk (message_part.PI.start w w1 gp l1 a0 hI hb0 hb1)
        clear hI hb0 hb1
        have hc6 := (blk_cell HI.out.h6 0).trans rfl
        go_wp2_with (fail)
        refine (message_part.PI.take w _ gp _ _ _ l1 0 _ HI.out H1.out).mono ?_
        rintro e w2 ⟨rfl, HI2⟩
        have hx2_2 : w2.cell? ⟨w1.heap.size + 1, 2, none⟩ = some (.int .i64 0) := (blk_cell HI2.out.h7 2).trans rfl
        have hy2_2 := blk_frozen HI2.out.h7 2
        have hp_2 : w2.cell? ⟨w1.heap.size, 0, none⟩ = some (.pointer (some ⟨gp, 0, none⟩)) := (blk_cell HI2.out.h6 0).trans rfl
        go_wp2_with (fail)
        refine (message_part.place_any (w0 := w) (gp := gp) (g4 := w.heap.size) (g6 := w1.heap.size) (g7 := w1.heap.size + 1) (b := t2) (e := t3) (.int .u8 a0) (.int .u64 0) (.int .i64 (wrap64 t1)) (.int .u32 0) (.int .u8 0) (.int .u16 0) (.int .u16 0) (show message_part.PI w _ gp w.heap.size w1.heap.size (w1.heap.size + 1) t2 t3 #[.int .u8 a0, .int .u64 0, .int .i64 (wrap64 t1), .int .u32 0, .int .u8 0, .int .u16 0, .int .u16 0] from HI2.out.set 2 _) H2.out).mono ?_
        rintro e w3 ⟨rfl, HI3a⟩
        clear hx2_2 hy2_2 hp_2
        have hx6_3 : w3.cell? ⟨w1.heap.size + 1, 6, none⟩ = some (.int .u16 0) := (blk_cell HI3a.out.h7 6).trans rfl
        have hy6_3 := blk_frozen HI3a.out.h7 6
        have hp_3 : w3.cell? ⟨w1.heap.size, 0, none⟩ = some (.pointer (some ⟨gp, 0, none⟩)) := (blk_cell HI3a.out.h6 0).trans rfl
        first | go_end0 | skip
        go_wp2_with (fail)
        refine (message_part.PI.take w _ gp _ _ _ p4 p5 _ HI3a.out H3.out).mono ?_
        rintro e w4 ⟨rfl, HI4⟩
        clear hx6_3 hy6_3 hp_3
        have hx6_4 : w4.cell? ⟨w1.heap.size + 1, 6, none⟩ = some (.int .u16 0) := (blk_cell HI4.out.h7 6).trans rfl
        have hy6_4 := blk_frozen HI4.out.h7 6
        have hp_4 : w4.cell? ⟨w1.heap.size, 0, none⟩ = some (.pointer (some ⟨gp, 0, none⟩)) := (blk_cell HI4.out.h6 0).trans rfl
        go_wp2_with (fail)
        clear hc6 hx6_4 hy6_4 hp_4
        generalize hW : w4.setCell ⟨w1.heap.size + 1, 6, none⟩ (.int .u16 (IntKind.u16.wrap u1)) = W3
        have HI3 := Aside0.mk (show message_part.PI w W3 gp w.heap.size w1.heap.size (w1.heap.size + 1) u2 u3 #[.int .u8 a0, .int .u64 0, .int .i64 (wrap64 t1), .int .u32 p1, .int .u8 p2, .int .u16 p3, .int .u16 (IntKind.u16.wrap u1)] by rw [← hW]; exact HI4.out.set 6 _)
        clear hW
        have hcx : W3.cell? ⟨w1.heap.size, 0, none⟩ = some (.pointer (some ⟨gp, 0, none⟩)) := (blk_cell HI3.out.h6 0).trans rfl
        have hq0 : W3.cell? ⟨w1.heap.size + 1, 0, none⟩ = some (.int .u8 a0) := (blk_cell HI3.out.h7 0).trans rfl
        have hq1 : W3.cell? ⟨w1.heap.size + 1, 1, none⟩ = some (.int .u64 0) := (blk_cell HI3.out.h7 1).trans rfl
        have hq2 : W3.cell? ⟨w1.heap.size + 1, 2, none⟩ = some (.int .i64 (wrap64 t1)) := (blk_cell HI3.out.h7 2).trans rfl
        have hq3 : W3.cell? ⟨w1.heap.size + 1, 3, none⟩ = some (.int .u32 p1) := (blk_cell HI3.out.h7 3).trans rfl
        have hq4 : W3.cell? ⟨w1.heap.size + 1, 4, none⟩ = some (.int .u8 p2) := (blk_cell HI3.out.h7 4).trans rfl
        have hq5 : W3.cell? ⟨w1.heap.size + 1, 5, none⟩ = some (.int .u16 p3) := (blk_cell HI3.out.h7 5).trans rfl
        have hq6 : W3.cell? ⟨w1.heap.size + 1, 6, none⟩ = some (.int .u16 (IntKind.u16.wrap u1)) := (blk_cell HI3.out.h7 6).trans rfl
        have nA := HI3.out.n46
        have nA' := Ne.symm HI3.out.n46
        have nB := HI3.out.n74
        have nB' := Ne.symm HI3.out.n74
        have HF' := HF.out
        unfold message_part.fin at HF'
        obtain ⟨⟨z1, z2, z3⟩, hE, HF'⟩ := Option.bind_eq_some_iff.mp HF'
        have HE := Aside0.mk hE
        clear hE
        by_cases cz : z1 = 0
        · rw [if_pos cz] at HF'
          have ez : (z1 == 0) = true := beq_iff_eq.mpr cz
          clear cz
          obtain ⟨ok, hRT, HF'⟩ := Option.bind_eq_some_iff.mp HF'
          have HRT := Aside0.mk hRT
          simp only [Option.some.injEq, Prod.mk.injEq] at HF'
          obtain ⟨rfl, rfl, rfl, rfl, rfl, rfl, rfl, rfl⟩ := HF'
          clear hRT
          go_region_held3 (fun w' => w'.cell? ⟨w1.heap.size, 0, none⟩ = some (.pointer (some ⟨gp, 0, none⟩)) ∧ w'.cell? ⟨w1.heap.size + 1, 0, none⟩ = some (.int .u8 a0) ∧ w'.cell? ⟨w1.heap.size + 1, 1, none⟩ = some (.int .u64 0) ∧ w'.cell? ⟨w1.heap.size + 1, 2, none⟩ = some (.int .i64 (wrap64 t1)) ∧ w'.cell? ⟨w1.heap.size + 1, 3, none⟩ = some (.int .u32 p1) ∧ w'.cell? ⟨w1.heap.size + 1, 4, none⟩ = some (.int .u8 p2) ∧ w'.cell? ⟨w1.heap.size + 1, 5, none⟩ = some (.int .u16 p3) ∧ w'.cell? ⟨w1.heap.size + 1, 6, none⟩ = some (.int .u16 (IntKind.u16.wrap u1))) (go_keep) ((first | ((with_reducible refine (message_part.end_any w _ gp w.heap.size w1.heap.size (w1.heap.size + 1) u2 u3 #[.int .u8 a0, .int .u64 0, .int .i64 (wrap64 t1), .int .u32 p1, .int .u8 p2, .int .u16 p3, .int .u16 (IntKind.u16.wrap u1)] ?s3a HE.out).mono ?_); (case s3a => first | exact HI3.out | exact (message_part.PI.drew HI3.out)); rintro e w5 ⟨rfl, HI5⟩; have hcx_5 : w5.cell? ⟨w1.heap.size, 0, none⟩ = some (.pointer (some ⟨gp, 0, none⟩)) := (blk_cell HI5.out.h6 0).trans rfl; have hq0_5 : w5.cell? ⟨w1.heap.size + 1, 0, none⟩ = some (.int .u8 a0) := (blk_cell HI5.out.h7 0).trans rfl; have hq1_5 : w5.cell? ⟨w1.heap.size + 1, 1, none⟩ = some (.int .u64 0) := (blk_cell HI5.out.h7 1).trans rfl; have hq2_5 : w5.cell? ⟨w1.heap.size + 1, 2, none⟩ = some (.int .i64 (wrap64 t1)) := (blk_cell HI5.out.h7 2).trans rfl; have hq3_5 : w5.cell? ⟨w1.heap.size + 1, 3, none⟩ = some (.int .u32 p1) := (blk_cell HI5.out.h7 3).trans rfl; have hq4_5 : w5.cell? ⟨w1.heap.size + 1, 4, none⟩ = some (.int .u8 p2) := (blk_cell HI5.out.h7 4).trans rfl; have hq5_5 : w5.cell? ⟨w1.heap.size + 1, 5, none⟩ = some (.int .u16 p3) := (blk_cell HI5.out.h7 5).trans rfl; have hq6_5 : w5.cell? ⟨w1.heap.size + 1, 6, none⟩ = some (.int .u16 (IntKind.u16.wrap u1)) := (blk_cell HI5.out.h7 6).trans rfl; have hz0_5 : w5.cell? ⟨w.heap.size, 0, none⟩ = some (.int .u8 0) := (blk_cell HI5.out.h4 0).trans rfl; have hy0_5 := blk_frozen HI5.out.h4 0; have hz1_5 : w5.cell? ⟨w.heap.size, 1, none⟩ = some (.int .u64 0) := (blk_cell HI5.out.h4 1).trans rfl; have hy1_5 := blk_frozen HI5.out.h4 1; have hz2_5 : w5.cell? ⟨w.heap.size, 2, none⟩ = some (.int .i64 0) := (blk_cell HI5.out.h4 2).trans rfl; have hy2_5 := blk_frozen HI5.out.h4 2; have hz3_5 : w5.cell? ⟨w.heap.size, 3, none⟩ = some (.int .u32 0) := (blk_cell HI5.out.h4 3).trans rfl; have hy3_5 := blk_frozen HI5.out.h4 3; have hz4_5 : w5.cell? ⟨w.heap.size, 4, none⟩ = some (.int .u8 0) := (blk_cell HI5.out.h4 4).trans rfl; have hy4_5 := blk_frozen HI5.out.h4 4; have hz5_5 : w5.cell? ⟨w.heap.size, 5, none⟩ = some (.int .u16 0) := (blk_cell HI5.out.h4 5).trans rfl; have hy5_5 := blk_frozen HI5.out.h4 5; have hz6_5 : w5.cell? ⟨w.heap.size, 6, none⟩ = some (.int .u16 0) := (blk_cell HI5.out.h4 6).trans rfl; have hy6_5 := blk_frozen HI5.out.h4 6) | ((with_reducible refine (message_part.right_any w _ gp w.heap.size w1.heap.size (w1.heap.size + 1) z2 z3 #[.int .u8 a0, .int .u64 0, .int .i64 (wrap64 t1), .int .u32 p1, .int .u8 p2, .int .u16 p3, .int .u16 (IntKind.u16.wrap u1)] ?s3b a0 0 (wrap64 t1) p1 p2 p3 (IntKind.u16.wrap u1) ok HRT.out).mono ?_); (case s3b => first | exact HI5.out | exact (message_part.PI.drew HI5.out)); rintro e w6 ⟨rfl, H64, H67, H66, H6B⟩; have hcx_6 : w6.cell? ⟨w1.heap.size, 0, none⟩ = some (.pointer (some ⟨gp, 0, none⟩)) := (blk_cell H66.out 0).trans rfl; have hq0_6 : w6.cell? ⟨w1.heap.size + 1, 0, none⟩ = some (.int .u8 a0) := (blk_cell H67.out 0).trans rfl; have hq1_6 : w6.cell? ⟨w1.heap.size + 1, 1, none⟩ = some (.int .u64 0) := (blk_cell H67.out 1).trans rfl; have hq2_6 : w6.cell? ⟨w1.heap.size + 1, 2, none⟩ = some (.int .i64 (wrap64 t1)) := (blk_cell H67.out 2).trans rfl; have hq3_6 : w6.cell? ⟨w1.heap.size + 1, 3, none⟩ = some (.int .u32 p1) := (blk_cell H67.out 3).trans rfl; have hq4_6 : w6.cell? ⟨w1.heap.size + 1, 4, none⟩ = some (.int .u8 p2) := (blk_cell H67.out 4).trans rfl; have hq5_6 : w6.cell? ⟨w1.heap.size + 1, 5, none⟩ = some (.int .u16 p3) := (blk_cell H67.out 5).trans rfl; have hq6_6 : w6.cell? ⟨w1.heap.size + 1, 6, none⟩ = some (.int .u16 (IntKind.u16.wrap u1)) := (blk_cell H67.out 6).trans rfl; have hz0_6 : w6.cell? ⟨w.heap.size, 0, none⟩ = some (.int .u8 0) := (blk_cell H64.out 0).trans rfl; have hy0_6 := blk_frozen H64.out 0; have hz1_6 : w6.cell? ⟨w.heap.size, 1, none⟩ = some (.int .u64 0) := (blk_cell H64.out 1).trans rfl; have hy1_6 := blk_frozen H64.out 1; have hz2_6 : w6.cell? ⟨w.heap.size, 2, none⟩ = some (.int .i64 0) := (blk_cell H64.out 2).trans rfl; have hy2_6 := blk_frozen H64.out 2; have hz3_6 : w6.cell? ⟨w.heap.size, 3, none⟩ = some (.int .u32 0) := (blk_cell H64.out 3).trans rfl; have hy3_6 := blk_frozen H64.out 3; have hz4_6 : w6.cell? ⟨w.heap.size, 4, none⟩ = some (.int .u8 0) := (blk_cell H64.out 4).trans rfl; have hy4_6 := blk_frozen H64.out 4; have hz5_6 : w6.cell? ⟨w.heap.size, 5, none⟩ = some (.int .u16 0) := (blk_cell H64.out 5).trans rfl; have hy5_6 := blk_frozen H64.out 5; have hz6_6 : w6.cell? ⟨w.heap.size, 6, none⟩ = some (.int .u16 0) := (blk_cell H64.out 6).trans rfl; have hy6_6 := blk_frozen H64.out 6)))
          all_goals
            go_wp2_with (fail)
            refine bodyPost_ret (results_ct rfl _ _ w.heap.size 28 #[.int .u8 a0, .int .u64 0, .int .i64 (wrap64 t1), .int .u32 p1, .int .u8 p2, .int .u16 p3, .int .u16 (IntKind.u16.wrap u1)] (0, 0) _ rfl (message_part.fill H64.out H6B.out HI3.out.b4 (.int .u8 a0) (.int .u64 0) (.int .i64 (wrap64 t1)) (.int .u32 p1) (.int .u8 p2) (.int .u16 p3) (.int .u16 (IntKind.u16.wrap u1))).1 Try.underlying28 rfl (by kernel_rfl)) rfl ?_
            exact ⟨rfl, (message_part.fill H64.out H6B.out HI3.out.b4 (.int .u8 a0) (.int .u64 0) (.int .i64 (wrap64 t1)) (.int .u32 p1) (.int .u8 p2) (.int .u16 p3) (.int .u16 (IntKind.u16.wrap u1))).2⟩
        · rw [if_neg cz] at HF'
          have ez : (z1 == 0) = false := beq_eq_false_iff_ne.mpr cz
          clear cz
          simp only [Option.some.injEq, Prod.mk.injEq] at HF'
          obtain ⟨rfl, rfl, rfl, rfl, rfl, rfl, rfl, rfl⟩ := HF'
          go_region_with ((first | ((with_reducible refine (message_part.end_any w _ gp w.heap.size w1.heap.size (w1.heap.size + 1) u2 u3 #[.int .u8 a0, .int .u64 0, .int .i64 (wrap64 t1), .int .u32 p1, .int .u8 p2, .int .u16 p3, .int .u16 (IntKind.u16.wrap u1)] ?s3c HE.out).mono ?_); (case s3c => first | exact HI3.out | exact (message_part.PI.drew HI3.out)); rintro e w5 ⟨rfl, HI5⟩; have hcx_5 : w5.cell? ⟨w1.heap.size, 0, none⟩ = some (.pointer (some ⟨gp, 0, none⟩)) := (blk_cell HI5.out.h6 0).trans rfl; have hq0_5 : w5.cell? ⟨w1.heap.size + 1, 0, none⟩ = some (.int .u8 a0) := (blk_cell HI5.out.h7 0).trans rfl; have hq1_5 : w5.cell? ⟨w1.heap.size + 1, 1, none⟩ = some (.int .u64 0) := (blk_cell HI5.out.h7 1).trans rfl; have hq2_5 : w5.cell? ⟨w1.heap.size + 1, 2, none⟩ = some (.int .i64 (wrap64 t1)) := (blk_cell HI5.out.h7 2).trans rfl; have hq3_5 : w5.cell? ⟨w1.heap.size + 1, 3, none⟩ = some (.int .u32 p1) := (blk_cell HI5.out.h7 3).trans rfl; have hq4_5 : w5.cell? ⟨w1.heap.size + 1, 4, none⟩ = some (.int .u8 p2) := (blk_cell HI5.out.h7 4).trans rfl; have hq5_5 : w5.cell? ⟨w1.heap.size + 1, 5, none⟩ = some (.int .u16 p3) := (blk_cell HI5.out.h7 5).trans rfl; have hq6_5 : w5.cell? ⟨w1.heap.size + 1, 6, none⟩ = some (.int .u16 (IntKind.u16.wrap u1)) := (blk_cell HI5.out.h7 6).trans rfl; have hz0_5 : w5.cell? ⟨w.heap.size, 0, none⟩ = some (.int .u8 0) := (blk_cell HI5.out.h4 0).trans rfl; have hy0_5 := blk_frozen HI5.out.h4 0; have hz1_5 : w5.cell? ⟨w.heap.size, 1, none⟩ = some (.int .u64 0) := (blk_cell HI5.out.h4 1).trans rfl; have hy1_5 := blk_frozen HI5.out.h4 1; have hz2_5 : w5.cell? ⟨w.heap.size, 2, none⟩ = some (.int .i64 0) := (blk_cell HI5.out.h4 2).trans rfl; have hy2_5 := blk_frozen HI5.out.h4 2; have hz3_5 : w5.cell? ⟨w.heap.size, 3, none⟩ = some (.int .u32 0) := (blk_cell HI5.out.h4 3).trans rfl; have hy3_5 := blk_frozen HI5.out.h4 3; have hz4_5 : w5.cell? ⟨w.heap.size, 4, none⟩ = some (.int .u8 0) := (blk_cell HI5.out.h4 4).trans rfl; have hy4_5 := blk_frozen HI5.out.h4 4; have hz5_5 : w5.cell? ⟨w.heap.size, 5, none⟩ = some (.int .u16 0) := (blk_cell HI5.out.h4 5).trans rfl; have hy5_5 := blk_frozen HI5.out.h4 5; have hz6_5 : w5.cell? ⟨w.heap.size, 6, none⟩ = some (.int .u16 0) := (blk_cell HI5.out.h4 6).trans rfl; have hy6_5 := blk_frozen HI5.out.h4 6)))
          all_goals
            go_wp2_with (fail)
            refine bodyPost_ret (results_ct rfl _ _ w.heap.size 28 #[.int .u8 a0, .int .u64 0, .int .i64 (wrap64 t1), .int .u32 p1, .int .u8 p2, .int .u16 p3, .int .u16 (IntKind.u16.wrap u1)] (0, 0) _ rfl (message_part.fill HI5.out.h4 HI5.out.bl HI3.out.b4 (.int .u8 a0) (.int .u64 0) (.int .i64 (wrap64 t1)) (.int .u32 p1) (.int .u8 p2) (.int .u16 p3) (.int .u16 (IntKind.u16.wrap u1))).1 Try.underlying28 rfl (by kernel_rfl)) rfl ?_
            exact ⟨rfl, (message_part.fill HI5.out.h4 HI5.out.bl HI3.out.b4 (.int .u8 a0) (.int .u64 0) (.int .i64 (wrap64 t1)) (.int .u32 p1) (.int .u8 p2) (.int .u16 p3) (.int .u16 (IntKind.u16.wrap u1))).2⟩
      · rw [if_neg c3] at h
        have e3 : (a0 == 3) = false := beq_eq_false_iff_ne.mpr c3
        clear c3
        by_cases c4 : a0 = 4
        · rw [if_pos c4] at h
          have e4 : (a0 == 4) = true := beq_iff_eq.mpr c4
          clear c4
          obtain ⟨⟨p1, p2, p3, p4, p5⟩, h2, h⟩ := Option.bind_eq_some_iff.mp h
          obtain ⟨⟨u1, u2, u3⟩, h3, h⟩ := Option.bind_eq_some_iff.mp h
          have H2 := Aside0.mk h2
          have H3 := Aside0.mk h3
          have HF := Aside0.mk h
          clear h2 h3 h
          go_enter Try.func33, Try.ntmps33
          go_wp2_with (fail)
          refine (coin_NewPurse.calls A1 c1 l1 l1 0 w _ (below_alloc (Below.refl _ _) _) HR.out HC.out rfl).mono ?_
          rintro e w1 ⟨gp, rfl, hI, hb0, hb1⟩
          have HI := Aside0.mk (message_part.PI.start w w1 gp l1 a0 hI hb0 hb1)
          clear hI hb0 hb1
          have hc6 := (blk_cell HI.out.h6 0).trans rfl
          go_wp2_with (fail)
          refine (message_part.place_any (w0 := w) (gp := gp) (g4 := w.heap.size) (g6 := w1.heap.size) (g7 := w1.heap.size + 1) (b := l1) (e := 0) (.int .u8 a0) (.int .u64 0) (.int .i64 0) (.int .u32 0) (.int .u8 0) (.int .u16 0) (.int .u16 0) (show message_part.PI w _ gp w.heap.size w1.heap.size (w1.heap.size + 1) l1 0 #[.int .u8 a0, .int .u64 0, .int .i64 0, .int .u32 0, .int .u8 0, .int .u16 0, .int .u16 0] from HI.out) H2.out).mono ?_
          rintro e w3 ⟨rfl, HI3a⟩
          have hx1_3 : w3.cell? ⟨w1.heap.size + 1, 1, none⟩ = some (.int .u64 0) := (blk_cell HI3a.out.h7 1).trans rfl
          have hy1_3 := blk_frozen HI3a.out.h7 1
          have hp_3 : w3.cell? ⟨w1.heap.size, 0, none⟩ = some (.pointer (some ⟨gp, 0, none⟩)) := (blk_cell HI3a.out.h6 0).trans rfl
          first | go_end0 | skip
          go_wp2_with (fail)
          refine (message_part.PI.take w _ gp _ _ _ p4 p5 _ HI3a.out H3.out).mono ?_
          rintro e w4 ⟨rfl, HI4⟩
          clear hx1_3 hy1_3 hp_3
          have hx1_4 : w4.cell? ⟨w1.heap.size + 1, 1, none⟩ = some (.int .u64 0) := (blk_cell HI4.out.h7 1).trans rfl
          have hy1_4 := blk_frozen HI4.out.h7 1
          have hp_4 : w4.cell? ⟨w1.heap.size, 0, none⟩ = some (.pointer (some ⟨gp, 0, none⟩)) := (blk_cell HI4.out.h6 0).trans rfl
          go_wp2_with (fail)
          clear hc6 hx1_4 hy1_4 hp_4
          generalize hW : w4.setCell ⟨w1.heap.size + 1, 1, none⟩ (.int .u64 u1) = W3
          have HI3 := Aside0.mk (show message_part.PI w W3 gp w.heap.size w1.heap.size (w1.heap.size + 1) u2 u3 #[.int .u8 a0, .int .u64 u1, .int .i64 0, .int .u32 p1, .int .u8 p2, .int .u16 p3, .int .u16 0] by rw [← hW]; exact HI4.out.set 1 _)
          clear hW
          have hcx : W3.cell? ⟨w1.heap.size, 0, none⟩ = some (.pointer (some ⟨gp, 0, none⟩)) := (blk_cell HI3.out.h6 0).trans rfl
          have hq0 : W3.cell? ⟨w1.heap.size + 1, 0, none⟩ = some (.int .u8 a0) := (blk_cell HI3.out.h7 0).trans rfl
          have hq1 : W3.cell? ⟨w1.heap.size + 1, 1, none⟩ = some (.int .u64 u1) := (blk_cell HI3.out.h7 1).trans rfl
          have hq2 : W3.cell? ⟨w1.heap.size + 1, 2, none⟩ = some (.int .i64 0) := (blk_cell HI3.out.h7 2).trans rfl
          have hq3 : W3.cell? ⟨w1.heap.size + 1, 3, none⟩ = some (.int .u32 p1) := (blk_cell HI3.out.h7 3).trans rfl
          have hq4 : W3.cell? ⟨w1.heap.size + 1, 4, none⟩ = some (.int .u8 p2) := (blk_cell HI3.out.h7 4).trans rfl
          have hq5 : W3.cell? ⟨w1.heap.size + 1, 5, none⟩ = some (.int .u16 p3) := (blk_cell HI3.out.h7 5).trans rfl
          have hq6 : W3.cell? ⟨w1.heap.size + 1, 6, none⟩ = some (.int .u16 0) := (blk_cell HI3.out.h7 6).trans rfl
          have nA := HI3.out.n46
          have nA' := Ne.symm HI3.out.n46
          have nB := HI3.out.n74
          have nB' := Ne.symm HI3.out.n74
          have HF' := HF.out
          unfold message_part.fin at HF'
          obtain ⟨⟨z1, z2, z3⟩, hE, HF'⟩ := Option.bind_eq_some_iff.mp HF'
          have HE := Aside0.mk hE
          clear hE
          by_cases cz : z1 = 0
          · rw [if_pos cz] at HF'
            have ez : (z1 == 0) = true := beq_iff_eq.mpr cz
            clear cz
            obtain ⟨ok, hRT, HF'⟩ := Option.bind_eq_some_iff.mp HF'
            have HRT := Aside0.mk hRT
            simp only [Option.some.injEq, Prod.mk.injEq] at HF'
            obtain ⟨rfl, rfl, rfl, rfl, rfl, rfl, rfl, rfl⟩ := HF'
            clear hRT
            go_region_held3 (fun w' => w'.cell? ⟨w1.heap.size, 0, none⟩ = some (.pointer (some ⟨gp, 0, none⟩)) ∧ w'.cell? ⟨w1.heap.size + 1, 0, none⟩ = some (.int .u8 a0) ∧ w'.cell? ⟨w1.heap.size + 1, 1, none⟩ = some (.int .u64 u1) ∧ w'.cell? ⟨w1.heap.size + 1, 2, none⟩ = some (.int .i64 0) ∧ w'.cell? ⟨w1.heap.size + 1, 3, none⟩ = some (.int .u32 p1) ∧ w'.cell? ⟨w1.heap.size + 1, 4, none⟩ = some (.int .u8 p2) ∧ w'.cell? ⟨w1.heap.size + 1, 5, none⟩ = some (.int .u16 p3) ∧ w'.cell? ⟨w1.heap.size + 1, 6, none⟩ = some (.int .u16 0)) (go_keep) ((first | ((with_reducible refine (message_part.end_any w _ gp w.heap.size w1.heap.size (w1.heap.size + 1) u2 u3 #[.int .u8 a0, .int .u64 u1, .int .i64 0, .int .u32 p1, .int .u8 p2, .int .u16 p3, .int .u16 0] ?s4a HE.out).mono ?_); (case s4a => first | exact HI3.out | exact (message_part.PI.drew HI3.out)); rintro e w5 ⟨rfl, HI5⟩; have hcx_5 : w5.cell? ⟨w1.heap.size, 0, none⟩ = some (.pointer (some ⟨gp, 0, none⟩)) := (blk_cell HI5.out.h6 0).trans rfl; have hq0_5 : w5.cell? ⟨w1.heap.size + 1, 0, none⟩ = some (.int .u8 a0) := (blk_cell HI5.out.h7 0).trans rfl; have hq1_5 : w5.cell? ⟨w1.heap.size + 1, 1, none⟩ = some (.int .u64 u1) := (blk_cell HI5.out.h7 1).trans rfl; have hq2_5 : w5.cell? ⟨w1.heap.size + 1, 2, none⟩ = some (.int .i64 0) := (blk_cell HI5.out.h7 2).trans rfl; have hq3_5 : w5.cell? ⟨w1.heap.size + 1, 3, none⟩ = some (.int .u32 p1) := (blk_cell HI5.out.h7 3).trans rfl; have hq4_5 : w5.cell? ⟨w1.heap.size + 1, 4, none⟩ = some (.int .u8 p2) := (blk_cell HI5.out.h7 4).trans rfl; have hq5_5 : w5.cell? ⟨w1.heap.size + 1, 5, none⟩ = some (.int .u16 p3) := (blk_cell HI5.out.h7 5).trans rfl; have hq6_5 : w5.cell? ⟨w1.heap.size + 1, 6, none⟩ = some (.int .u16 0) := (blk_cell HI5.out.h7 6).trans rfl; have hz0_5 : w5.cell? ⟨w.heap.size, 0, none⟩ = some (.int .u8 0) := (blk_cell HI5.out.h4 0).trans rfl; have hy0_5 := blk_frozen HI5.out.h4 0; have hz1_5 : w5.cell? ⟨w.heap.size, 1, none⟩ = some (.int .u64 0) := (blk_cell HI5.out.h4 1).trans rfl; have hy1_5 := blk_frozen HI5.out.h4 1; have hz2_5 : w5.cell? ⟨w.heap.size, 2, none⟩ = some (.int .i64 0) := (blk_cell HI5.out.h4 2).trans rfl; have hy2_5 := blk_frozen HI5.out.h4 2; have hz3_5 : w5.cell? ⟨w.heap.size, 3, none⟩ = some (.int .u32 0) := (blk_cell HI5.out.h4 3).trans rfl; have hy3_5 := blk_frozen HI5.out.h4 3; have hz4_5 : w5.cell? ⟨w.heap.size, 4, none⟩ = some (.int .u8 0) := (blk_cell HI5.out.h4 4).trans rfl; have hy4_5 := blk_frozen HI5.out.h4 4; have hz5_5 : w5.cell? ⟨w.heap.size, 5, none⟩ = some (.int .u16 0) := (blk_cell HI5.out.h4 5).trans rfl; have hy5_5 := blk_frozen HI5.out.h4 5; have hz6_5 : w5.cell? ⟨w.heap.size, 6, none⟩ = some (.int .u16 0) := (blk_cell HI5.out.h4 6).trans rfl; have hy6_5 := blk_frozen HI5.out.h4 6) | ((with_reducible refine (message_part.right_any w _ gp w.heap.size w1.heap.size (w1.heap.size + 1) z2 z3 #[.int .u8 a0, .int .u64 u1, .int .i64 0, .int .u32 p1, .int .u8 p2, .int .u16 p3, .int .u16 0] ?s4b a0 u1 0 p1 p2 p3 0 ok HRT.out).mono ?_); (case s4b => first | exact HI5.out | exact (message_part.PI.drew HI5.out)); rintro e w6 ⟨rfl, H64, H67, H66, H6B⟩; have hcx_6 : w6.cell? ⟨w1.heap.size, 0, none⟩ = some (.pointer (some ⟨gp, 0, none⟩)) := (blk_cell H66.out 0).trans rfl; have hq0_6 : w6.cell? ⟨w1.heap.size + 1, 0, none⟩ = some (.int .u8 a0) := (blk_cell H67.out 0).trans rfl; have hq1_6 : w6.cell? ⟨w1.heap.size + 1, 1, none⟩ = some (.int .u64 u1) := (blk_cell H67.out 1).trans rfl; have hq2_6 : w6.cell? ⟨w1.heap.size + 1, 2, none⟩ = some (.int .i64 0) := (blk_cell H67.out 2).trans rfl; have hq3_6 : w6.cell? ⟨w1.heap.size + 1, 3, none⟩ = some (.int .u32 p1) := (blk_cell H67.out 3).trans rfl; have hq4_6 : w6.cell? ⟨w1.heap.size + 1, 4, none⟩ = some (.int .u8 p2) := (blk_cell H67.out 4).trans rfl; have hq5_6 : w6.cell? ⟨w1.heap.size + 1, 5, none⟩ = some (.int .u16 p3) := (blk_cell H67.out 5).trans rfl; have hq6_6 : w6.cell? ⟨w1.heap.size + 1, 6, none⟩ = some (.int .u16 0) := (blk_cell H67.out 6).trans rfl; have hz0_6 : w6.cell? ⟨w.heap.size, 0, none⟩ = some (.int .u8 0) := (blk_cell H64.out 0).trans rfl; have hy0_6 := blk_frozen H64.out 0; have hz1_6 : w6.cell? ⟨w.heap.size, 1, none⟩ = some (.int .u64 0) := (blk_cell H64.out 1).trans rfl; have hy1_6 := blk_frozen H64.out 1; have hz2_6 : w6.cell? ⟨w.heap.size, 2, none⟩ = some (.int .i64 0) := (blk_cell H64.out 2).trans rfl; have hy2_6 := blk_frozen H64.out 2; have hz3_6 : w6.cell? ⟨w.heap.size, 3, none⟩ = some (.int .u32 0) := (blk_cell H64.out 3).trans rfl; have hy3_6 := blk_frozen H64.out 3; have hz4_6 : w6.cell? ⟨w.heap.size, 4, none⟩ = some (.int .u8 0) := (blk_cell H64.out 4).trans rfl; have hy4_6 := blk_frozen H64.out 4; have hz5_6 : w6.cell? ⟨w.heap.size, 5, none⟩ = some (.int .u16 0) := (blk_cell H64.out 5).trans rfl; have hy5_6 := blk_frozen H64.out 5; have hz6_6 : w6.cell? ⟨w.heap.size, 6, none⟩ = some (.int .u16 0) := (blk_cell H64.out 6).trans rfl; have hy6_6 := blk_frozen H64.out 6)))
            all_goals
              go_wp2_with (fail)
              refine bodyPost_ret (results_ct rfl _ _ w.heap.size 28 #[.int .u8 a0, .int .u64 u1, .int .i64 0, .int .u32 p1, .int .u8 p2, .int .u16 p3, .int .u16 0] (0, 0) _ rfl (message_part.fill H64.out H6B.out HI3.out.b4 (.int .u8 a0) (.int .u64 u1) (.int .i64 0) (.int .u32 p1) (.int .u8 p2) (.int .u16 p3) (.int .u16 0)).1 Try.underlying28 rfl (by kernel_rfl)) rfl ?_
              exact ⟨rfl, (message_part.fill H64.out H6B.out HI3.out.b4 (.int .u8 a0) (.int .u64 u1) (.int .i64 0) (.int .u32 p1) (.int .u8 p2) (.int .u16 p3) (.int .u16 0)).2⟩
          · rw [if_neg cz] at HF'
            have ez : (z1 == 0) = false := beq_eq_false_iff_ne.mpr cz
            clear cz
            simp only [Option.some.injEq, Prod.mk.injEq] at HF'
            obtain ⟨rfl, rfl, rfl, rfl, rfl, rfl, rfl, rfl⟩ := HF'
            go_region_with ((first | ((with_reducible refine (message_part.end_any w _ gp w.heap.size w1.heap.size (w1.heap.size + 1) u2 u3 #[.int .u8 a0, .int .u64 u1, .int .i64 0, .int .u32 p1, .int .u8 p2, .int .u16 p3, .int .u16 0] ?s4c HE.out).mono ?_); (case s4c => first | exact HI3.out | exact (message_part.PI.drew HI3.out)); rintro e w5 ⟨rfl, HI5⟩; have hcx_5 : w5.cell? ⟨w1.heap.size, 0, none⟩ = some (.pointer (some ⟨gp, 0, none⟩)) := (blk_cell HI5.out.h6 0).trans rfl; have hq0_5 : w5.cell? ⟨w1.heap.size + 1, 0, none⟩ = some (.int .u8 a0) := (blk_cell HI5.out.h7 0).trans rfl; have hq1_5 : w5.cell? ⟨w1.heap.size + 1, 1, none⟩ = some (.int .u64 u1) := (blk_cell HI5.out.h7 1).trans rfl; have hq2_5 : w5.cell? ⟨w1.heap.size + 1, 2, none⟩ = some (.int .i64 0) := (blk_cell HI5.out.h7 2).trans rfl; have hq3_5 : w5.cell? ⟨w1.heap.size + 1, 3, none⟩ = some (.int .u32 p1) := (blk_cell HI5.out.h7 3).trans rfl; have hq4_5 : w5.cell? ⟨w1.heap.size + 1, 4, none⟩ = some (.int .u8 p2) := (blk_cell HI5.out.h7 4).trans rfl; have hq5_5 : w5.cell? ⟨w1.heap.size + 1, 5, none⟩ = some (.int .u16 p3) := (blk_cell HI5.out.h7 5).trans rfl; have hq6_5 : w5.cell? ⟨w1.heap.size + 1, 6, none⟩ = some (.int .u16 0) := (blk_cell HI5.out.h7 6).trans rfl; have hz0_5 : w5.cell? ⟨w.heap.size, 0, none⟩ = some (.int .u8 0) := (blk_cell HI5.out.h4 0).trans rfl; have hy0_5 := blk_frozen HI5.out.h4 0; have hz1_5 : w5.cell? ⟨w.heap.size, 1, none⟩ = some (.int .u64 0) := (blk_cell HI5.out.h4 1).trans rfl; have hy1_5 := blk_frozen HI5.out.h4 1; have hz2_5 : w5.cell? ⟨w.heap.size, 2, none⟩ = some (.int .i64 0) := (blk_cell HI5.out.h4 2).trans rfl; have hy2_5 := blk_frozen HI5.out.h4 2; have hz3_5 : w5.cell? ⟨w.heap.size, 3, none⟩ = some (.int .u32 0) := (blk_cell HI5.out.h4 3).trans rfl; have hy3_5 := blk_frozen HI5.out.h4 3; have hz4_5 : w5.cell? ⟨w.heap.size, 4, none⟩ = some (.int .u8 0) := (blk_cell HI5.out.h4 4).trans rfl; have hy4_5 := blk_frozen HI5.out.h4 4; have hz5_5 : w5.cell? ⟨w.heap.size, 5, none⟩ = some (.int .u16 0) := (blk_cell HI5.out.h4 5).trans rfl; have hy5_5 := blk_frozen HI5.out.h4 5; have hz6_5 : w5.cell? ⟨w.heap.size, 6, none⟩ = some (.int .u16 0) := (blk_cell HI5.out.h4 6).trans rfl; have hy6_5 := blk_frozen HI5.out.h4 6)))
            all_goals
              go_wp2_with (fail)
              refine bodyPost_ret (results_ct rfl _ _ w.heap.size 28 #[.int .u8 a0, .int .u64 u1, .int .i64 0, .int .u32 p1, .int .u8 p2, .int .u16 p3, .int .u16 0] (0, 0) _ rfl (message_part.fill HI5.out.h4 HI5.out.bl HI3.out.b4 (.int .u8 a0) (.int .u64 u1) (.int .i64 0) (.int .u32 p1) (.int .u8 p2) (.int .u16 p3) (.int .u16 0)).1 Try.underlying28 rfl (by kernel_rfl)) rfl ?_
              exact ⟨rfl, (message_part.fill HI5.out.h4 HI5.out.bl HI3.out.b4 (.int .u8 a0) (.int .u64 u1) (.int .i64 0) (.int .u32 p1) (.int .u8 p2) (.int .u16 p3) (.int .u16 0)).2⟩
        · rw [if_neg c4] at h
          have e4 : (a0 == 4) = false := beq_eq_false_iff_ne.mpr c4
          clear c4
          simp only [Option.some.injEq, Prod.mk.injEq] at h
          obtain ⟨rfl, rfl, rfl, rfl, rfl, rfl, rfl, rfl⟩ := h
          go_enter Try.func33, Try.ntmps33
          go_wp2_with (fail)
          refine (coin_NewPurse.calls A1 c1 l1 l1 0 w _ (below_alloc (Below.refl _ _) _) HR.out HC.out rfl).mono ?_
          rintro e w1 ⟨gp, rfl, hI, hb0, hb1⟩
          have HI := Aside0.mk (message_part.PI.start w w1 gp l1 a0 hI hb0 hb1)
          clear hI hb0 hb1
          have hc6 := (blk_cell HI.out.h6 0).trans rfl
          have hz0 : ((w1.alloc (.cells #[.pointer (some ⟨gp, 0, none⟩)] 58 (0, 0))).alloc (.cells #[.int .u8 a0, .int .u64 0, .int .i64 0, .int .u32 0, .int .u8 0, .int .u16 0, .int .u16 0] 28 (0, 0))).cell? ⟨w.heap.size, 0, none⟩ = some (.int .u8 0) := (blk_cell HI.out.h4 0).trans rfl
          have hy0 := blk_frozen HI.out.h4 0
          have hz1 : ((w1.alloc (.cells #[.pointer (some ⟨gp, 0, none⟩)] 58 (0, 0))).alloc (.cells #[.int .u8 a0, .int .u64 0, .int .i64 0, .int .u32 0, .int .u8 0, .int .u16 0, .int .u16 0] 28 (0, 0))).cell? ⟨w.heap.size, 1, none⟩ = some (.int .u64 0) := (blk_cell HI.out.h4 1).trans rfl
          have hy1 := blk_frozen HI.out.h4 1
          have hz2 : ((w1.alloc (.cells #[.pointer (some ⟨gp, 0, none⟩)] 58 (0, 0))).alloc (.cells #[.int .u8 a0, .int .u64 0, .int .i64 0, .int .u32 0, .int .u8 0, .int .u16 0, .int .u16 0] 28 (0, 0))).cell? ⟨w.heap.size, 2, none⟩ = some (.int .i64 0) := (blk_cell HI.out.h4 2).trans rfl
          have hy2 := blk_frozen HI.out.h4 2
          have hz3 : ((w1.alloc (.cells #[.pointer (some ⟨gp, 0, none⟩)] 58 (0, 0))).alloc (.cells #[.int .u8 a0, .int .u64 0, .int .i64 0, .int .u32 0, .int .u8 0, .int .u16 0, .int .u16 0] 28 (0, 0))).cell? ⟨w.heap.size, 3, none⟩ = some (.int .u32 0) := (blk_cell HI.out.h4 3).trans rfl
          have hy3 := blk_frozen HI.out.h4 3
          have hz4 : ((w1.alloc (.cells #[.pointer (some ⟨gp, 0, none⟩)] 58 (0, 0))).alloc (.cells #[.int .u8 a0, .int .u64 0, .int .i64 0, .int .u32 0, .int .u8 0, .int .u16 0, .int .u16 0] 28 (0, 0))).cell? ⟨w.heap.size, 4, none⟩ = some (.int .u8 0) := (blk_cell HI.out.h4 4).trans rfl
          have hy4 := blk_frozen HI.out.h4 4
          have hz5 : ((w1.alloc (.cells #[.pointer (some ⟨gp, 0, none⟩)] 58 (0, 0))).alloc (.cells #[.int .u8 a0, .int .u64 0, .int .i64 0, .int .u32 0, .int .u8 0, .int .u16 0, .int .u16 0] 28 (0, 0))).cell? ⟨w.heap.size, 5, none⟩ = some (.int .u16 0) := (blk_cell HI.out.h4 5).trans rfl
          have hy5 := blk_frozen HI.out.h4 5
          have hz6 : ((w1.alloc (.cells #[.pointer (some ⟨gp, 0, none⟩)] 58 (0, 0))).alloc (.cells #[.int .u8 a0, .int .u64 0, .int .i64 0, .int .u32 0, .int .u8 0, .int .u16 0, .int .u16 0] 28 (0, 0))).cell? ⟨w.heap.size, 6, none⟩ = some (.int .u16 0) := (blk_cell HI.out.h4 6).trans rfl
          have hy6 := blk_frozen HI.out.h4 6
          go_wp2_with (fail)
          refine bodyPost_ret (results_ct rfl _ _ w.heap.size 28 #[.int .u8 0, .int .u64 0, .int .i64 0, .int .u32 0, .int .u8 0, .int .u16 0, .int .u16 0] (0, 0) _ rfl (message_part.fill HI.out.h4 HI.out.bl (Nat.le_refl _) (.int .u8 0) (.int .u64 0) (.int .i64 0) (.int .u32 0) (.int .u8 0) (.int .u16 0) (.int .u16 0)).1 Try.underlying28 rfl (by kernel_rfl)) rfl ?_
          exact ⟨rfl, (message_part.fill HI.out.h4 HI.out.bl (Nat.le_refl _) (.int .u8 0) (.int .u64 0) (.int .i64 0) (.int .u32 0) (.int .u8 0) (.int .u16 0) (.int .u16 0)).2⟩

end Go.Proofs.Ytnfdgpmdakciiaa.QMessageReads
