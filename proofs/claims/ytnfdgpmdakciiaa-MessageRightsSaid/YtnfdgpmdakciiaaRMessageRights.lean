-- Lines by a program of this session, for this claim.
import Derived.Test.YtnfdgpmdakciiaaRows
import Derived.Test.YtnfdgpmdakciiaaQMessageRightsx12
import Derived.Test.YtnfdgpmdakciiaaUMessageRights
import Derived.WalkKit
import Derived.ProofKit
import Derived.OpenShut
import Derived.ShutString
import Derived.ChangeOld
import Derived.Below
import Derived.SizedLaws
import Derived.Test.YtnfdgpmdakciiaaVMessageRightsSized
import Derived.Test.YtnfdgpmdakciiaaVMessageRightsOpn
namespace Go.Proofs.Ytnfdgpmdakciiaa.messageRights
open Go.Proofs.Ytnfdgpmdakciiaa.QMessageRights Go.Proofs.YtnfdgpmdakciiaaW.PrintWords Go.Proofs.YtnfdgpmdakciiaaW.PrintMore Go.Proofs.YtnfdgpmdakciiaaW.Opn
open Go.ChangeShapes Go.WideShapes Go.ChangeAt Go.RowKit
open Go.ChangeMaps (open_string shut_string)
set_option linter.unusedVariables false
theorem own : ownKnob Try.prog.godebug = none := by kernel_rfl
theorem laidOut : laidOutB Try.prog = true := by kernel_rfl
def IsRow (k : IntKind) (w : World) (a : Option Addr) (len cap : Nat) (zs : List Int) : Prop :=
  (a = none ∧ len = 0 ∧ cap = 0 ∧ zs = []) ∨
  ∃ x, a = some x ∧ len ≤ cap ∧ cap ≤ maxLen ∧ zs.length = cap ∧ (∀ i, i < zs.length → w.cell? (x.add i) = some (.int k (zs.getD i 0))) ∧ ∀ n ∈ zs, (Lit.int k n).wf = true
set_option maxRecDepth 100000 in
theorem lifted (os : Os) (started : os.Started) (H : Type) (enc : TypeId × Value → H) :
    ReturnsInHanded {} Try.checked os 3 .any (Rows.messageRightsSpec.pre6 enc Try.prog Try.f3 Rows.messageRightsRow.domain false) (Rows.messageRightsSpec.post enc Try.prog Try.f3 false true false false) := by
  refine returnsInHanded_of_change_sized (C := Try.checked) own started (by kernel_rfl) Try.func3
    (ChangeSpec.witness6 (enc := enc) (C := Try.checked) false ⟨#[], #[.agg #[.int .u8 0, .int .u64 0, .int .i64 0, .int .u32 0, .int .u8 0, .int .u16 0, .int .u16 0], .int .u8 0], []⟩ 8 (by kernel_rfl) (by kernel_rfl) (by kernel_rfl) (by kernel_rfl)) ?_
  intro W base args ds gs before hval0 hW hcnd hsz0 _
  have hsz : (DataW.weightsEach Try.prog (Try.f3.params.toList ++ Rows.messageRightsSpec.plain.varTypes Try.prog) (ds ++ gs)).all (· ≤ reachBytes) = true := hsz0
  have hval : ∀ (j : Nat) t v, Try.f3.params[j]? = some t → args[j]? = some v → Value.okWide Try.prog W .any base t v := hval0
  have hW' := hW
  obtain ⟨p, q, hA0, hV, rfl, hfz, hnd⟩ := hW
  have hA : DataW.TrodAll enc Try.prog W 0 (fun _ => true) true Try.f3.params.toList args.toList ds p := hA0
  rw [Try.params3] at hA hval hsz
  obtain ⟨v0, vs0, d0, ds0, p0, q0, hargs, rfl, rfl, h0, r0⟩ := trodAll_cons hA
  obtain ⟨v1, vs1, d1, ds1, p1, q1, rfl, rfl, rfl, h1, r1⟩ := trodAll_cons r0
  obtain ⟨rfl, rfl, rfl⟩ := trodAll_nil r1
  obtain rfl : args = #[v0, v1] := by cases args; simp_all
  obtain ⟨rfl, rfl⟩ := trodVars_none hV
  obtain ⟨cs0, rfl, hcz0⟩ := okWide_struct Try.underlying28 (hval 0 28 v0 rfl rfl)
  have k0 := h0
  have lt0 : ∀ x ∈ p0, x.block < W.heap.size := by obtain ⟨m, hm⟩ := k0; exact DataW.trod_lt m _ _ _ hm
  obtain ⟨fu0, hf0⟩ := h0
  have hf0' : DataW.trod enc Try.prog W 0 (fun _ => true) true fu0 28 cs0.toList = some (d0, p0) := hf0
  obtain ⟨⟨a0_0, ⟨a0_1, ⟨a0_2, ⟨⟨a0_3, a0_4⟩, ⟨a0_5, a0_6⟩⟩⟩⟩⟩, hK0, ⟨w0_0, ⟨w0_1, ⟨w0_2, ⟨⟨w0_3, w0_4⟩, ⟨w0_5, w0_6⟩⟩⟩⟩⟩⟩ := ((opn_struct_pair Try.underlying28 (by kernel_rfl) (opnl_cons (by rfl) (by kernel_rfl) (opn_int Try.underlying5) (opnl_cons (by rfl) (by kernel_rfl) (opn_int Try.underlying22) (opnl_cons (by rfl) (by kernel_rfl) (opn_int Try.underlying3) (opnl_cons (by rfl) (by kernel_rfl) (opn_struct_pair Try.underlying25 (by kernel_rfl) (opnl_cons (by rfl) (by kernel_rfl) (opn_int Try.underlying23) (opnl_one (by rfl) (by kernel_rfl) (opn_int Try.underlying5)))) (opnl_cons (by rfl) (by kernel_rfl) (opn_int Try.underlying26) (opnl_one (by rfl) (by kernel_rfl) (opn_int Try.underlying26)))))))) : Opn enc Try.prog W 0 (fun _ => true) true 28 (Kd.pair (Kd.int .u8) (Kd.pair (Kd.int .u64) (Kd.pair (Kd.int .i64) (Kd.pair (Kd.pair (Kd.int .u32) (Kd.int .u8)) (Kd.pair (Kd.int .u16) (Kd.int .u16)))))) _) _ _ _ hf0'
  obtain ⟨cs0⟩ := cs0
  obtain ⟨_, _, rfl, rfl, ⟨_, _, rfl, rfl, ⟨_, _, rfl, rfl, ⟨_, _, rfl, ⟨_, _, rfl, rfl, rfl⟩, ⟨_, _, rfl, rfl, rfl⟩⟩⟩⟩⟩ := hK0
  clear hcz0 hf0 hf0'
  obtain ⟨a1, rfl, rfl, rfl, w1⟩ := open_int Try.underlying5 (hval 1 5 v1 rfl rfl) h1
  clear hA0 hval0 hsz0 hsz
  refine (QMessageRights.milestonelaw13_MessageRights.walk Pure.MessageRights a0_0 a0_1 a0_2 a0_3 a0_4 a0_5 a0_6 a1 W w0_0 w0_1 w0_2 w0_3 w0_4 w0_5 w0_6 w1).mono fun e W' ⟨he, bel⟩ => ?_
  subst he
  exact ⟨_, rfl, _, _, _, [], _, [], hW', trodAll_mk1 (shut_bool Try.underlying4 _), (trodAll_cons_mk (Below.trod laidOut (by kernel_rfl) (of_decide_eq_true (by kernel_rfl)) k0 bel lt0) (trodAll_cons_mk (shut_int Try.underlying5 w1) trodAll_mk0)), rfl, bel.frame _, fun h => by cases h⟩
theorem over : Rows.messageRightsRow.holds Try.pinned (OpenSpec.ofChange Rows.messageRightsSpec) :=
  OpenClaim.holds_of_wide 3 Try.f3 rfl rfl rfl rfl rfl rfl rfl ⟨rfl, rfl, rfl, rfl, rfl⟩ rfl rfl rfl rfl rfl (by kernel_rfl) Try.func3 (by kernel_rfl)
    (of_decide_eq_true (by kernel_rfl)) (by unfold Func.isWrapper; first | (rw [if_pos (by decide +kernel)]; kernel_rfl) | (rw [if_neg (by decide +kernel)]; exact ⟨rfl, rfl⟩))
    (fun os started H enc _ => lifted os started H enc)
theorem proved : Rows.MessageRightsSaid := over
#print axioms proved
end Go.Proofs.Ytnfdgpmdakciiaa.messageRights
namespace Go.Proofs.Ytnfdgpmdakciiaa
/-- The row, under a short name, for the claim. -/
theorem messageRights_holds : Rows.MessageRightsSaid := messageRights.proved
end Go.Proofs.Ytnfdgpmdakciiaa
