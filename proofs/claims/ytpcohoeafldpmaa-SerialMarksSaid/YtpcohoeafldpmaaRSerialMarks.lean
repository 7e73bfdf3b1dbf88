-- Lines by a program of this session, for this claim.
import Derived.Test.YtpcohoeafldpmaaRows
import Derived.Test.YtpcohoeafldpmaaQSerialMarksx3
import Derived.Test.YtpcohoeafldpmaaUSerialMarks
import Derived.WalkKit
import Derived.ProofKit
import Derived.OpenShut
import Derived.ShutString
import Derived.ChangeOld
import Derived.Below
import Derived.SizedLaws
import Derived.Test.YtpcohoeafldpmaaWSized
import Derived.Test.YtpcohoeafldpmaaWOpn
namespace Go.Proofs.Ytpcohoeafldpmaa.serialMarks
open Go.Proofs.Ytpcohoeafldpmaa.QSerialMarks Go.Proofs.YtpcohoeafldpmaaW.PrintWords Go.Proofs.YtpcohoeafldpmaaW.PrintMore Go.Proofs.YtpcohoeafldpmaaW.Opn
open Go.ChangeShapes Go.WideShapes Go.ChangeAt Go.RowKit
open Go.ChangeMaps (open_string shut_string)
set_option linter.unusedVariables false
theorem own : ownKnob Try.prog.godebug = none := by kernel_rfl
theorem laidOut : laidOutB Try.prog = true := by kernel_rfl
def IsRow (k : IntKind) (w : World) (a : Option Addr) (len cap : Nat) (zs : List Int) : Prop :=
  (a = none ∧ len = 0 ∧ cap = 0 ∧ zs = []) ∨
  ∃ x, a = some x ∧ len ≤ cap ∧ cap ≤ maxLen ∧ zs.length = cap ∧ (∀ i, i < zs.length → w.cell? (x.add i) = some (.int k (zs.getD i 0))) ∧ ∀ n ∈ zs, (Lit.int k n).wf = true
set_option maxRecDepth 100000 in
theorem lifted (os : Os) (started : os.Started) (H : Type) (enc : TypeId × Value → H) :
    ReturnsInHanded {} Try.checked os 8 .any (Rows.serialMarksSpec.pre6 enc Try.prog Try.f8 Rows.serialMarksRow.domain false) (Rows.serialMarksSpec.post enc Try.prog Try.f8 false true false false) := by
  refine returnsInHanded_of_change_sized (C := Try.checked) own started (by kernel_rfl) Try.func8
    (ChangeSpec.witness6 (enc := enc) (C := Try.checked) false ⟨#[], #[.agg #[.int .u16 0, .int .u16 0], .agg #[.int .u16 0, .int .u16 0], .bool false], []⟩ 8 (by kernel_rfl) (by kernel_rfl) (by kernel_rfl) (by kernel_rfl)) ?_
  intro W base args ds gs before hval0 hW hcnd hsz0 _
  have hsz : (DataW.weightsEach Try.prog (Try.f8.params.toList ++ Rows.serialMarksSpec.plain.varTypes Try.prog) (ds ++ gs)).all (· ≤ reachBytes) = true := hsz0
  have hval : ∀ (j : Nat) t v, Try.f8.params[j]? = some t → args[j]? = some v → Value.okWide Try.prog W .any base t v := hval0
  have hW' := hW
  obtain ⟨p, q, hA0, hV, rfl, hfz, hnd⟩ := hW
  have hA : DataW.TrodAll enc Try.prog W 0 (fun _ => true) true Try.f8.params.toList args.toList ds p := hA0
  rw [Try.params8] at hA hval hsz
  obtain ⟨v0, vs0, d0, ds0, p0, q0, hargs, rfl, rfl, h0, r0⟩ := trodAll_cons hA
  obtain ⟨v1, vs1, d1, ds1, p1, q1, rfl, rfl, rfl, h1, r1⟩ := trodAll_cons r0
  obtain ⟨v2, vs2, d2, ds2, p2, q2, rfl, rfl, rfl, h2, r2⟩ := trodAll_cons r1
  obtain ⟨rfl, rfl, rfl⟩ := trodAll_nil r2
  obtain rfl : args = #[v0, v1, v2] := by cases args; simp_all
  obtain ⟨rfl, rfl⟩ := trodVars_none hV
  obtain ⟨cs0, rfl, hcz0⟩ := okWide_struct Try.underlying30 (hval 0 30 v0 rfl rfl)
  have k0 := h0
  have lt0 : ∀ x ∈ p0, x.block < W.heap.size := by obtain ⟨m, hm⟩ := k0; exact DataW.trod_lt m _ _ _ hm
  obtain ⟨fu0, hf0⟩ := h0
  have hf0' : DataW.trod enc Try.prog W 0 (fun _ => true) true fu0 30 cs0.toList = some (d0, p0) := hf0
  obtain ⟨⟨a0_0, a0_1⟩, hK0, ⟨w0_0, w0_1⟩⟩ := ((opn_struct_pair Try.underlying30 (by kernel_rfl) (opnl_cons (by rfl) (by kernel_rfl) (opn_int Try.underlying22) (opnl_one (by rfl) (by kernel_rfl) (opn_int Try.underlying22)))) : Opn enc Try.prog W 0 (fun _ => true) true 30 (Kd.pair (Kd.int .u16) (Kd.int .u16)) _) _ _ _ hf0'
  obtain ⟨cs0⟩ := cs0
  obtain ⟨_, _, rfl, rfl, rfl⟩ := hK0
  clear hcz0 hf0 hf0'
  obtain ⟨cs1, rfl, hcz1⟩ := okWide_struct Try.underlying30 (hval 1 30 v1 rfl rfl)
  have k1 := h1
  have lt1 : ∀ x ∈ p1, x.block < W.heap.size := by obtain ⟨m, hm⟩ := k1; exact DataW.trod_lt m _ _ _ hm
  obtain ⟨fu1, hf1⟩ := h1
  have hf1' : DataW.trod enc Try.prog W 0 (fun _ => true) true fu1 30 cs1.toList = some (d1, p1) := hf1
  obtain ⟨⟨a1_0, a1_1⟩, hK1, ⟨w1_0, w1_1⟩⟩ := ((opn_struct_pair Try.underlying30 (by kernel_rfl) (opnl_cons (by rfl) (by kernel_rfl) (opn_int Try.underlying22) (opnl_one (by rfl) (by kernel_rfl) (opn_int Try.underlying22)))) : Opn enc Try.prog W 0 (fun _ => true) true 30 (Kd.pair (Kd.int .u16) (Kd.int .u16)) _) _ _ _ hf1'
  obtain ⟨cs1⟩ := cs1
  obtain ⟨_, _, rfl, rfl, rfl⟩ := hK1
  clear hcz1 hf1 hf1'
  obtain ⟨a2, rfl, rfl, rfl⟩ := open_bool Try.underlying4 (hval 2 4 v2 rfl rfl) h2
  clear hA0 hval0 hsz0 hsz
  refine (QSerialMarks.milestonelaw02_SerialMarks.walk Pure.SerialMarks a0_0 a0_1 a1_0 a1_1 a2 W w0_0 w0_1 w1_0 w1_1).mono fun e W' ⟨he, bel⟩ => ?_
  subst he
  exact ⟨_, rfl, _, _, _, [], _, [], hW', trodAll_mk1 (shut_bool Try.underlying4 _), (trodAll_cons_mk (Below.trod laidOut (by kernel_rfl) (of_decide_eq_true (by kernel_rfl)) k0 bel lt0) (trodAll_cons_mk (Below.trod laidOut (by kernel_rfl) (of_decide_eq_true (by kernel_rfl)) k1 bel lt1) (trodAll_cons_mk (shut_bool Try.underlying4 _) trodAll_mk0))), rfl, bel.frame _, fun h => by cases h⟩
theorem over : Rows.serialMarksRow.holds Try.pinned (OpenSpec.ofChange Rows.serialMarksSpec) :=
  OpenClaim.holds_of_wide 8 Try.f8 rfl rfl rfl rfl rfl rfl rfl ⟨rfl, rfl, rfl, rfl, rfl⟩ rfl rfl rfl rfl rfl (by kernel_rfl) Try.func8 (by kernel_rfl)
    (of_decide_eq_true (by kernel_rfl)) (by unfold Func.isWrapper; first | (rw [if_pos (by decide +kernel)]; kernel_rfl) | (rw [if_neg (by decide +kernel)]; exact ⟨rfl, rfl⟩))
    (fun os started H enc _ => lifted os started H enc)
theorem proved : Rows.SerialMarksSaid := over
#print axioms proved
end Go.Proofs.Ytpcohoeafldpmaa.serialMarks
namespace Go.Proofs.Ytpcohoeafldpmaa
/-- The row, under a short name, for the claim. -/
theorem serialMarks_holds : Rows.SerialMarksSaid := serialMarks.proved
end Go.Proofs.Ytpcohoeafldpmaa
