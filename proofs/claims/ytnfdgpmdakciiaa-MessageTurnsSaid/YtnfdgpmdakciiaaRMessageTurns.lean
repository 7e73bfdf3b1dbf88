-- Lines by a program of this session, for this claim.
import Derived.Test.YtnfdgpmdakciiaaRows
import Derived.Test.YtnfdgpmdakciiaaQMessageTurnsx8
import Derived.Test.YtnfdgpmdakciiaaUMessageTurns
import Derived.WalkKit
import Derived.ProofKit
import Derived.OpenShut
import Derived.ShutString
import Derived.ChangeOld
import Derived.Below
import Derived.SizedLaws
import Derived.Test.YtnfdgpmdakciiaaVMessageTurnsSized
import Derived.Test.YtnfdgpmdakciiaaVMessageTurnsOpn
namespace Go.Proofs.Ytnfdgpmdakciiaa.messageTurns
open Go.Proofs.Ytnfdgpmdakciiaa.QMessageTurns Go.Proofs.YtnfdgpmdakciiaaW.PrintWords Go.Proofs.YtnfdgpmdakciiaaW.PrintMore Go.Proofs.YtnfdgpmdakciiaaW.Opn
open Go.ChangeShapes Go.WideShapes Go.ChangeAt Go.RowKit
open Go.ChangeMaps (open_string shut_string)
set_option linter.unusedVariables false
theorem own : ownKnob Try.prog.godebug = none := by kernel_rfl
theorem laidOut : laidOutB Try.prog = true := by kernel_rfl
def IsRow (k : IntKind) (w : World) (a : Option Addr) (len cap : Nat) (zs : List Int) : Prop :=
  (a = none ∧ len = 0 ∧ cap = 0 ∧ zs = []) ∨
  ∃ x, a = some x ∧ len ≤ cap ∧ cap ≤ maxLen ∧ zs.length = cap ∧ (∀ i, i < zs.length → w.cell? (x.add i) = some (.int k (zs.getD i 0))) ∧ ∀ n ∈ zs, (Lit.int k n).wf = true
set_option maxRecDepth 100000 in
theorem lifted (os : Os) (started : os.Started) (H : Type) (enc : TypeId × Value → H) :
    ReturnsInHanded {} Try.checked os 5 .any (Rows.messageTurnsSpec.pre6 enc Try.prog Try.f5 Rows.messageTurnsRow.domain false) (Rows.messageTurnsSpec.post enc Try.prog Try.f5 false true false false) := by
  refine returnsInHanded_of_change_sized (C := Try.checked) own started (by kernel_rfl) Try.func5
    (ChangeSpec.witness6 (enc := enc) (C := Try.checked) false ⟨#[], #[.int .u8 0, .slice none 0 0, .int .u16 0, .int .u8 0, .int .u16 0, .slice none 0 0], []⟩ 8 (by kernel_rfl) (by kernel_rfl) (by kernel_rfl) (by kernel_rfl)) ?_
  intro W base args ds gs before hval0 hW hcnd hsz0 _
  have hsz : (DataW.weightsEach Try.prog (Try.f5.params.toList ++ Rows.messageTurnsSpec.plain.varTypes Try.prog) (ds ++ gs)).all (· ≤ reachBytes) = true := hsz0
  have hval : ∀ (j : Nat) t v, Try.f5.params[j]? = some t → args[j]? = some v → Value.okWide Try.prog W .any base t v := hval0
  have hW' := hW
  obtain ⟨p, q, hA0, hV, rfl, hfz, hnd⟩ := hW
  have hA : DataW.TrodAll enc Try.prog W 0 (fun _ => true) true Try.f5.params.toList args.toList ds p := hA0
  rw [Try.params5] at hA hval hsz
  obtain ⟨v0, vs0, d0, ds0, p0, q0, hargs, rfl, rfl, h0, r0⟩ := trodAll_cons hA
  obtain ⟨v1, vs1, d1, ds1, p1, q1, rfl, rfl, rfl, h1, r1⟩ := trodAll_cons r0
  obtain ⟨v2, vs2, d2, ds2, p2, q2, rfl, rfl, rfl, h2, r2⟩ := trodAll_cons r1
  obtain ⟨v3, vs3, d3, ds3, p3, q3, rfl, rfl, rfl, h3, r3⟩ := trodAll_cons r2
  obtain ⟨v4, vs4, d4, ds4, p4, q4, rfl, rfl, rfl, h4, r4⟩ := trodAll_cons r3
  obtain ⟨v5, vs5, d5, ds5, p5, q5, rfl, rfl, rfl, h5, r5⟩ := trodAll_cons r4
  obtain ⟨rfl, rfl, rfl⟩ := trodAll_nil r5
  obtain rfl : args = #[v0, v1, v2, v3, v4, v5] := by cases args; simp_all
  obtain ⟨rfl, rfl⟩ := trodVars_none hV
  obtain ⟨a0, rfl, rfl, rfl, w0⟩ := open_int Try.underlying5 (hval 0 5 v0 rfl rfl) h0
  obtain ⟨a1, len1, cap1, rfl⟩ := okWide_slice Try.underlying32 (hval 1 32 v1 rfl rfl)
  have k1 := h1
  have lt1 : ∀ x ∈ p1, x.block < W.heap.size := by obtain ⟨m, hm⟩ := k1; exact DataW.trod_lt m _ _ _ hm
  obtain ⟨fu1, hf1⟩ := h1
  obtain ⟨l1, ⟨A1, c1, hcs1, hc1, hr1⟩, hm1, hw1⟩ := (show Opn enc Try.prog W 0 (fun _ => true) true 32 (Kd.slice 28 k28) (fun l => l.length ≤ maxLen ∧ ∀ x ∈ l, ((Lit.int .u8 x.f0).wf = true ∧ ((Lit.int .u64 x.f1).wf = true ∧ ((Lit.int .i64 x.f2).wf = true ∧ (((Lit.int .u32 x.f3.f0).wf = true ∧ (Lit.int .u8 x.f3.f1).wf = true) ∧ ((Lit.int .u16 x.f4).wf = true ∧ (Lit.int .u16 x.f5).wf = true)))))) from (opn_slice Try.underlying32 (by kernel_rfl) (opn_struct (fun x : S28 => (x.f0, x.f1, x.f2, x.f3, x.f4, x.f5)) (fun y => by first | exact ⟨⟨y⟩, rfl⟩ | (obtain ⟨y0, y1, y2, y3, y4, y5⟩ := y; exact ⟨⟨y0, y1, y2, y3, y4, y5⟩, rfl⟩)) Try.underlying28 (by kernel_rfl) (opnl_cons (by rfl) (by kernel_rfl) (opn_int Try.underlying5) (opnl_cons (by rfl) (by kernel_rfl) (opn_int Try.underlying22) (opnl_cons (by rfl) (by kernel_rfl) (opn_int Try.underlying3) (opnl_cons (by rfl) (by kernel_rfl) (opn_struct (fun x : S25 => (x.f0, x.f1)) (fun y => by first | exact ⟨⟨y⟩, rfl⟩ | (obtain ⟨y0, y1⟩ := y; exact ⟨⟨y0, y1⟩, rfl⟩)) Try.underlying25 (by kernel_rfl) (opnl_cons (by rfl) (by kernel_rfl) (opn_int Try.underlying23) (opnl_one (by rfl) (by kernel_rfl) (opn_int Try.underlying5)))) (opnl_cons (by rfl) (by kernel_rfl) (opn_int Try.underlying26) (opnl_one (by rfl) (by kernel_rfl) (opn_int Try.underlying26)))))))))) _ _ _ hf1
  simp [Value.cells] at hcs1
  obtain ⟨rfl, rfl, rfl⟩ := hcs1
  obtain ⟨a2, rfl, rfl, rfl, w2⟩ := open_int Try.underlying26 (hval 2 26 v2 rfl rfl) h2
  obtain ⟨a3, rfl, rfl, rfl, w3⟩ := open_int Try.underlying5 (hval 3 5 v3 rfl rfl) h3
  obtain ⟨a4, rfl, rfl, rfl, w4⟩ := open_int Try.underlying26 (hval 4 26 v4 rfl rfl) h4
  obtain ⟨a5, len5, cap5, rfl⟩ := okWide_slice Try.underlying30 (hval 5 30 v5 rfl rfl)
  have k5 := h5
  have lt5 : ∀ x ∈ p5, x.block < W.heap.size := by obtain ⟨m, hm⟩ := k5; exact DataW.trod_lt m _ _ _ hm
  obtain ⟨z5, w5⟩ : ∃ zs, IsRow .u8 W a5 len5 cap5 zs := by
    obtain ⟨fuel, hf⟩ := h5
    rcases open_ints Try.underlying30 Try.underlying5 (by kernel_rfl) hf with ⟨hcs, _⟩ | ⟨x, l, c, zs, hcs, _, hl, hm, hz, _, hcell, hwz⟩
    · simp [Value.cells] at hcs
      obtain ⟨rfl, rfl, rfl⟩ := hcs
      exact ⟨[], .inl ⟨rfl, rfl, rfl, rfl⟩⟩
    · simp [Value.cells] at hcs
      obtain ⟨rfl, rfl, rfl⟩ := hcs
      exact ⟨zs, .inr ⟨_, rfl, hl, hm, by simpa using hz, hcell, hwz⟩⟩
  have y5 : len5 * 1 ≤ 140737488351232 := Go.Proofs.YtnfdgpmdakciiaaW.PrintWords.sized_ints hsz (j := 5) (t := 30) rfl rfl Try.underlying30 Try.underlying5 (by kernel_rfl) (by kernel_rfl) h5
  clear hA0 hval0 hsz0 hsz
  refine (QMessageTurns.milestonelaw13_MessageTurns.walk Pure.MessageTurns a0 a1 cap1 l1 a2 a3 a4 a5 len5 cap5 z5 W w0 hr1 hc1 hm1 hw1 w2 w3 w4 w5 y5).mono fun e W' ⟨he, bel⟩ => ?_
  subst he
  exact ⟨_, rfl, _, _, _, [], _, [], hW', trodAll_mk1 (shut_bool Try.underlying4 _), (trodAll_cons_mk (shut_int Try.underlying5 w0) (trodAll_cons_mk (Below.trod laidOut (by kernel_rfl) (of_decide_eq_true (by kernel_rfl)) k1 bel lt1) (trodAll_cons_mk (shut_int Try.underlying26 w2) (trodAll_cons_mk (shut_int Try.underlying5 w3) (trodAll_cons_mk (shut_int Try.underlying26 w4) (trodAll_cons_mk (Below.trod laidOut (by kernel_rfl) (of_decide_eq_true (by kernel_rfl)) k5 bel lt5) trodAll_mk0)))))), rfl, bel.frame _, fun h => by cases h⟩
theorem over : Rows.messageTurnsRow.holds Try.pinned (OpenSpec.ofChange Rows.messageTurnsSpec) :=
  OpenClaim.holds_of_wide 5 Try.f5 rfl rfl rfl rfl rfl rfl rfl ⟨rfl, rfl, rfl, rfl, rfl⟩ rfl rfl rfl rfl rfl (by kernel_rfl) Try.func5 (by kernel_rfl)
    (of_decide_eq_true (by kernel_rfl)) (by unfold Func.isWrapper; first | (rw [if_pos (by decide +kernel)]; kernel_rfl) | (rw [if_neg (by decide +kernel)]; exact ⟨rfl, rfl⟩))
    (fun os started H enc _ => lifted os started H enc)
theorem proved : Rows.MessageTurnsSaid := over
#print axioms proved
end Go.Proofs.Ytnfdgpmdakciiaa.messageTurns
namespace Go.Proofs.Ytnfdgpmdakciiaa
/-- The row, under a short name, for the claim. -/
theorem messageTurns_holds : Rows.MessageTurnsSaid := messageTurns.proved
end Go.Proofs.Ytnfdgpmdakciiaa
